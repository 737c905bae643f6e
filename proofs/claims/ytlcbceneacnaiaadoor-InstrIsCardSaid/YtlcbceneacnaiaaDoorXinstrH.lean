/- Laid. -/
import Derived.Test.YtlcbceneacnaiaaDoorVmThree
import Derived.KernelRfl
import Derived.Test.YtlcbceneacnaiaaDoorProg
import Derived.Test.YtlcbceneacnaiaaDoorXinstrG
section
/- Code. -/
set_option maxRecDepth 100000
set_option linter.unusedSimpArgs false
set_option linter.unusedVariables false
namespace Go.Vm
open Go

/-- bywash/bywashlaw05.InstrLive -/
def c3 : RFn := ⟨(.seq (.region (Nodes.flat none (.op (some 3) (.box (.t 0)) 0
  (.op (some 4) (.box (.t 1)) 0
  (.op (some 6) (.move (.c (.bool false))) 0
  .nil)))) false)
 (.seq (.region (Nodes.flat none (.op (some 14) (.call 7 []) 0
  (.op (some 7) (.move (.t 14)) 0
  .nil))) false)
 (.seq (.region (Nodes.flat none (.op (some 15) (.load (some 2) (.t 3)) 0
  (.op (some 16) (.call 8 [(.t 15)]) 0
  (.op (some 8) (.alloc (.agg [(.int .i64 0), (.lit [])])) 0
  (.op none (.store 2 (.t 8) (.t 16)) 0
  .nil))))) false)
 (.seq (.seq (.region (Nodes.flat none (.op (some 17) (.fieldAddr 1 (.t 3)) 0
  (.op (some 18) (.load none (.t 17)) 0
  (.op (some 19) (.len false (.t 18)) 0
  (.op (some 20) (.bin .gtr (.t 19) (.c (.int .i64 20))) 0
  (.op (some 21) (.move (.t 20)) 0
  (.grd 21 false
  (.op (some 22) (.load (some 2) (.t 8)) 0
  (.op (some 23) (.call 9 [(.t 22)]) 0
  (.op (some 24) (.un .not (.t 23)) 0
  .nil)))
  (.op (some 25) (.pick (.t 21) (.c (.bool true)) (.t 24)) 0
  .nil)))))))) false)
 (.cond (.t 25)
 (.seq (.region (Nodes.flat none (.op (some 26) (.move (.t 7)) 0
  (.op (some 6) (.move (.t 26)) 0
  .nil))) false)
 .ret)
 .skip))
 (.seq (.region (Nodes.flat none (.op (some 27) (.load (some 2) (.t 8)) 0
  (.op (some 28) (.load (some 11) (.t 4)) 0
  (.op (some 29) (.call 10 [(.t 27), (.t 28)]) 0
  (.op (some 9) (.alloc (.agg [(.int .i64 0), (.lit [])])) 0
  (.op none (.store 2 (.t 9) (.t 29)) 0
  .nil)))))) false)
 (.seq (.region (Nodes.flat none (.op (some 10) (.move (.c (.bool false))) 0
  .nil)) false)
 (.seq (.region (Nodes.flat none (.op (some 30) (.load (some 11) (.t 4)) 0
  (.op (some 31) (.call 11 [(.t 30)]) 0
  (.op (some 11) (.move (.t 31)) 0
  .nil)))) false)
 (.seq (.seq (.region (Nodes.flat none (.op (some 12) (.move (.c (.int .i64 0))) 0
  .nil)) false)
 (.block 0 (.loop (.seq (.seq (.region (Nodes.flat none (.op (some 32) (.move (.t 12)) 0
  (.op (some 33) (.move (.t 11)) 0
  (.op (some 34) (.len false (.t 33)) 0
  (.op (some 35) (.bin .lss (.t 32) (.t 34)) 0
  .nil))))) false)
 (.cond (.t 35)
 .skip
 (.exit 0)))
 (.seq (.block 1 (.region (Nodes.flat none (.op (some 38) (.move (.t 10)) 0
  (.op (some 39) (.move (.t 38)) 0
  (.grd 39 false
  (.op (some 40) (.move (.t 11)) 0
  (.op (some 41) (.move (.t 12)) 0
  (.op (some 42) (.idxAddr 1 (.t 40) (.t 41)) 0
  (.op (some 43) (.load none (.t 42)) 0
  (.op (some 44) (.move (.t 2)) 0
  (.op (some 45) (.bin .eql (.t 43) (.t 44)) 0
  .nil))))))
  (.op (some 46) (.pick (.t 39) (.c (.bool true)) (.t 45)) 0
  (.op (some 10) (.move (.t 46)) 0
  .nil)))))) false))
 (.region (Nodes.flat none (.op (some 36) (.move (.t 12)) 0
  (.op (some 37) (.bin .add (.t 36) (.c (.int .i64 1))) 0
  (.op (some 12) (.move (.t 37)) 0
  .nil)))) false))))))
 (.seq (.region (Nodes.flat none (.op (some 47) (.load (some 2) (.t 8)) 0
  (.op (some 48) (.move (.t 2)) 0
  (.op (some 49) (.call 12 [(.t 47), (.t 48)]) 0
  (.op (some 50) (.move (.t 49)) 0
  (.grd 50 true
  (.op (some 51) (.move (.t 2)) 0
  (.op (some 52) (.load (some 11) (.t 4)) 0
  (.op (some 53) (.call 13 [(.t 52)]) 0
  (.op (some 54) (.bin .neq (.t 51) (.t 53)) 0
  .nil))))
  (.op (some 55) (.pick (.t 50) (.t 54) (.c (.bool false))) 0
  (.op (some 56) (.move (.t 55)) 0
  (.grd 56 false
  (.op (some 57) (.move (.t 10)) 0
  (.op (some 58) (.move (.t 57)) 0
  (.grd 58 true
  (.op (some 59) (.move (.t 2)) 0
  (.op (some 60) (.bin .geq (.t 59) (.c (.int .i64 0))) 0
  .nil))
  (.op (some 61) (.pick (.t 58) (.t 60) (.c (.bool false))) 0
  (.op (some 62) (.move (.t 61)) 0
  (.grd 62 true
  (.op (some 63) (.move (.t 2)) 0
  (.op (some 64) (.fieldAddr 0 (.t 3)) 0
  (.op (some 65) (.load none (.t 64)) 0
  (.op (some 66) (.bin .lss (.t 63) (.t 65)) 0
  .nil))))
  (.op (some 67) (.pick (.t 62) (.t 66) (.c (.bool false))) 0
  .nil)))))))
  (.op (some 68) (.pick (.t 56) (.c (.bool true)) (.t 67)) 0
  (.op (some 13) (.move (.t 68)) 0
  .nil))))))))))) false)
 (.seq (.region (Nodes.flat none (.op (some 69) (.move (.t 7)) 0
  (.op (some 70) (.move (.t 69)) 1
  (.grd 70 true
  (.op (some 71) (.load (some 2) (.t 9)) 3
  (.op (some 72) (.move (.t 2)) 3
  (.op (some 73) (.call 12 [(.t 71), (.t 72)]) 15
  (.op (some 74) (.move (.t 13)) 3
  (.op (some 75) (.binb .eql (.t 73) (.t 74)) 63
  .nil)))))
  (.op (some 76) (.pick (.t 70) (.t 75) (.c (.bool false))) 127
  (.op (some 77) (.move (.t 76)) 255
  (.grd 77 true
  (.op (some 78) (.fieldAddr 0 (.t 9)) 511
  (.op (some 79) (.load none (.t 78)) 1023
  (.op (some 80) (.fieldAddr 0 (.t 3)) 511
  (.op (some 81) (.load none (.t 80)) 2559
  (.op (some 82) (.bin .eql (.t 79) (.t 81)) 8191
  .nil)))))
  (.op (some 83) (.pick (.t 77) (.t 82) (.c (.bool false))) 16383
  (.op (some 84) (.move (.t 83)) 32767
  (.grd 84 true
  (.op (some 85) (.load (some 2) (.t 9)) 65535
  (.op (some 86) (.load (some 11) (.t 4)) 65535
  (.op (some 87) (.call 10 [(.t 85), (.t 86)]) 262143
  (.op (some 88) (.load (some 2) (.t 9)) 65535
  (.op (some 89) (.call 14 [(.t 87), (.t 88)]) 1048575
  .nil)))))
  (.op (some 90) (.pick (.t 84) (.t 89) (.c (.bool false))) 2097151
  (.op (some 6) (.move (.t 90)) 4194303
  .nil)))))))))))) true)
 .ret)))))))))),
 [.tmp 6]⟩
theorem b3 : fnOf Go.Proofs.Tryd.prog (owOf []) 3 = some c3 := by kernel_rfl

/-- bywash/bywashlaw05.InstrReach -/
def c4 : RFn := ⟨(.seq (.region (Nodes.flat none (.op (some 4) (.box (.t 0)) 0
  (.op (some 5) (.box (.t 1)) 0
  (.op (some 8) (.move (.c (.bool false))) 0
  .nil)))) false)
 (.seq (.region (Nodes.flat none (.op (some 15) (.call 7 []) 0
  (.op (some 9) (.move (.t 15)) 0
  .nil))) false)
 (.seq (.region (Nodes.flat none (.op (some 16) (.load (some 2) (.t 4)) 0
  (.op (some 17) (.call 8 [(.t 16)]) 0
  (.op (some 10) (.alloc (.agg [(.int .i64 0), (.lit [])])) 0
  (.op none (.store 2 (.t 10) (.t 17)) 0
  .nil))))) false)
 (.seq (.seq (.region (Nodes.flat none (.op (some 18) (.fieldAddr 1 (.t 4)) 0
  (.op (some 19) (.load none (.t 18)) 0
  (.op (some 20) (.len false (.t 19)) 0
  (.op (some 21) (.bin .gtr (.t 20) (.c (.int .i64 20))) 0
  (.op (some 22) (.move (.t 21)) 0
  (.grd 22 false
  (.op (some 23) (.move (.t 2)) 0
  (.op (some 24) (.len false (.t 23)) 0
  (.op (some 25) (.bin .gtr (.t 24) (.c (.int .i64 100))) 0
  .nil)))
  (.op (some 26) (.pick (.t 22) (.c (.bool true)) (.t 25)) 0
  (.op (some 27) (.move (.t 26)) 0
  (.grd 27 false
  (.op (some 28) (.load (some 2) (.t 10)) 0
  (.op (some 29) (.call 9 [(.t 28)]) 0
  (.op (some 30) (.un .not (.t 29)) 0
  .nil)))
  (.op (some 31) (.pick (.t 27) (.c (.bool true)) (.t 30)) 0
  .nil))))))))))) false)
 (.cond (.t 31)
 (.seq (.region (Nodes.flat none (.op (some 32) (.move (.t 9)) 0
  (.op (some 8) (.move (.t 32)) 0
  .nil))) false)
 .ret)
 .skip))
 (.seq (.region (Nodes.flat none (.op (some 33) (.load (some 2) (.t 10)) 0
  (.op (some 34) (.load (some 11) (.t 5)) 0
  (.op (some 35) (.move (.t 2)) 0
  (.op (some 36) (.call 15 [(.t 33), (.t 34), (.t 35)]) 0
  (.op (some 11) (.alloc (.agg [(.int .i64 0), (.lit [])])) 0
  (.op none (.store 2 (.t 11) (.t 36)) 0
  .nil))))))) false)
 (.seq (.region (Nodes.flat none (.op (some 37) (.load (some 2) (.t 11)) 0
  (.op (some 38) (.load (some 11) (.t 5)) 0
  (.op (some 39) (.move (.t 2)) 0
  (.op (some 40) (.call 15 [(.t 37), (.t 38), (.t 39)]) 0
  (.op (some 12) (.alloc (.agg [(.int .i64 0), (.lit [])])) 0
  (.op none (.store 2 (.t 12) (.t 40)) 0
  .nil))))))) false)
 (.seq (.seq (.region (Nodes.flat none (.op (some 41) (.load (some 11) (.t 5)) 0
  (.op (some 42) (.call 13 [(.t 41)]) 0
  (.op (some 43) (.bin .lss (.t 42) (.c (.int .i64 0))) 0
  .nil)))) false)
 (.cond (.t 43)
 (.seq (.region (Nodes.flat none (.op (some 44) (.move (.t 9)) 0
  (.op (some 45) (.move (.t 44)) 0
  (.grd 45 true
  (.op (some 46) (.load (some 2) (.t 11)) 0
  (.op (some 47) (.load (some 2) (.t 10)) 0
  (.op (some 48) (.call 14 [(.t 46), (.t 47)]) 0
  .nil)))
  (.op (some 49) (.pick (.t 45) (.t 48) (.c (.bool false))) 0
  (.op (some 8) (.move (.t 49)) 0
  .nil)))))) false)
 .ret)
 .skip))
 (.seq (.region (Nodes.flat none (.op (some 13) (.move (.c (.bool false))) 0
  .nil)) false)
 (.seq (.seq (.region (Nodes.flat none (.op (some 14) (.move (.c (.int .i64 0))) 0
  .nil)) false)
 (.block 0 (.loop (.seq (.seq (.region (Nodes.flat none (.op (some 50) (.move (.t 14)) 0
  (.op (some 51) (.move (.t 2)) 0
  (.op (some 52) (.len false (.t 51)) 0
  (.op (some 53) (.bin .lss (.t 50) (.t 52)) 0
  .nil))))) false)
 (.cond (.t 53)
 .skip
 (.exit 0)))
 (.seq (.block 1 (.region (Nodes.flat none (.op (some 56) (.move (.t 13)) 0
  (.op (some 57) (.move (.t 56)) 0
  (.grd 57 false
  (.op (some 58) (.move (.t 2)) 0
  (.op (some 59) (.move (.t 14)) 0
  (.op (some 60) (.idxAddr 1 (.t 58) (.t 59)) 0
  (.op (some 61) (.load none (.t 60)) 0
  (.op (some 62) (.move (.t 3)) 0
  (.op (some 63) (.bin .eql (.t 61) (.t 62)) 0
  .nil))))))
  (.op (some 64) (.pick (.t 57) (.c (.bool true)) (.t 63)) 0
  (.op (some 13) (.move (.t 64)) 0
  .nil)))))) false))
 (.region (Nodes.flat none (.op (some 54) (.move (.t 14)) 0
  (.op (some 55) (.bin .add (.t 54) (.c (.int .i64 1))) 0
  (.op (some 14) (.move (.t 55)) 0
  .nil)))) false))))))
 (.seq (.region (Nodes.flat none (.op (some 65) (.move (.t 9)) 0
  (.op (some 66) (.move (.t 65)) 1
  (.grd 66 true
  (.op (some 67) (.load (some 2) (.t 11)) 3
  (.op (some 68) (.load (some 2) (.t 12)) 3
  (.op (some 69) (.call 14 [(.t 67), (.t 68)]) 15
  .nil)))
  (.op (some 70) (.pick (.t 66) (.t 69) (.c (.bool false))) 31
  (.op (some 71) (.move (.t 70)) 63
  (.grd 71 true
  (.op (some 72) (.load (some 2) (.t 11)) 127
  (.op (some 73) (.fieldAddr 0 (.t 5)) 127
  (.op (some 74) (.load none (.t 73)) 383
  (.op (some 75) (.call 12 [(.t 72), (.t 74)]) 1023
  (.op (some 76) (.fieldAddr 0 (.t 5)) 127
  (.op (some 77) (.load none (.t 76)) 2175
  (.op (some 78) (.fieldAddr 0 (.t 4)) 127
  (.op (some 79) (.load none (.t 78)) 8319
  (.op (some 80) (.bin .lss (.t 77) (.t 79)) 30847
  (.op (some 81) (.binb .eql (.t 75) (.t 80)) 65535
  .nil))))))))))
  (.op (some 82) (.pick (.t 71) (.t 81) (.c (.bool false))) 131071
  (.op (some 83) (.move (.t 82)) 262143
  (.grd 83 true
  (.op (some 84) (.move (.t 3)) 524287
  (.op (some 85) (.fieldAddr 0 (.t 5)) 524287
  (.op (some 86) (.load none (.t 85)) 1572863
  (.op (some 87) (.bin .eql (.t 84) (.t 86)) 4194303
  (.op (some 88) (.move (.t 87)) 8388607
  (.grd 88 false
  (.op (some 89) (.load (some 2) (.t 11)) 16777215
  (.op (some 90) (.move (.t 3)) 16777215
  (.op (some 91) (.call 12 [(.t 89), (.t 90)]) 67108863
  (.op (some 92) (.load (some 2) (.t 10)) 16777215
  (.op (some 93) (.move (.t 3)) 16777215
  (.op (some 94) (.call 12 [(.t 92), (.t 93)]) 536870911
  (.op (some 95) (.move (.t 94)) 1073741823
  (.grd 95 true
  (.op (some 96) (.move (.t 13)) 2147483647
  (.op (some 97) (.un .not (.t 96)) 4294967295
  .nil))
  (.op (some 98) (.pick (.t 95) (.t 97) (.c (.bool false))) 8589934591
  (.op (some 99) (.binb .eql (.t 91) (.t 98)) 17179869183
  .nil))))))))))
  (.op (some 100) (.pick (.t 88) (.c (.bool true)) (.t 99)) 34359738367
  .nil)))))))
  (.op (some 101) (.pick (.t 83) (.t 100) (.c (.bool false))) 68719476735
  (.op (some 8) (.move (.t 101)) 137438953471
  .nil)))))))))))) true)
 .ret)))))))))),
 [.tmp 8]⟩
theorem b4 : fnOf Go.Proofs.Tryd.prog (owOf []) 4 = some c4 := by kernel_rfl

end Go.Vm

end

section
/- Walks. -/
set_option maxRecDepth 100000
set_option linter.unusedSimpArgs false
set_option linter.unusedVariables false
namespace Go.Vm
open Go

set_option maxHeartbeats 4000000
theorem l_InstrLive (m : Int) (ws : List Nat) (i : In) (k : Int) (hw : W64 ws) : Pure Go.Proofs.Tryd.prog glD 3 [sv m ws, pI i, .int .i64 k] (.bool true) := by
  have hR := rep_sv m ws hw
  have hS := p_bits_Sane (gl := glD) m ws hw
  have hn : bSane m ws = true → nN m ws = m := sane_nN
  have hz := hR.ok
  have hu := usesI_len i
  generalize bSane m ws = q at *
  generalize nN m ws = M at *
  generalize vN m ws = a at *
  refine Pure.fn hmix b3 ?_
  repeat' first
    | with_reducible refine tr_seq ?_
    | ((with_reducible refine tr_region_f ?_ ?_); kernel_rfl)
    | ((with_reducible refine tr_region_t ?_ ?_ ?_); kernel_rfl; kernel_rfl)
    | with_reducible refine n_nil ?_
    | exact ⟨rfl, rfl⟩
    | with_reducible refine seqQ_normal ?_
    | with_reducible refine seqQ_exit ?_
    | with_reducible refine seqQ_ret ?_
    | with_reducible refine blkQ_normal ?_
    | with_reducible refine blkQ_exit ?_
    | with_reducible refine blkQ_ret ?_
    | ((with_reducible refine blkQ_exit_ne ?_ ?_); rfl)
    | with_reducible refine tr_block ?_
    | with_reducible refine tr_skip ?_
    | with_reducible refine tr_exit ?_
    | with_reducible refine tr_ret ?_
    | ((with_reducible apply tr_cond_e); rfl)
    | with_reducible refine condT_t ?_
    | with_reducible refine condT_f ?_
    | ((with_reducible apply n_and); rfl; rfl; intro h)
    | ((with_reducible apply n_or); rfl; rfl; intro h)
    | with_reducible refine loopV_exit ?_
    | with_reducible refine loopV_ret ?_
    | refine n_call (f := 9) rfl rfl hS ?_
    | ((with_reducible apply n_idx_ints); rfl; rfl; first | omega | decide | (simp only [decide_eq_true_eq, decide_eq_false_iff_not, Bool.or_eq_false_iff, Bool.not_eq_true', Bool.not_eq_false', Bool.not_true, Bool.not_false, ints_length, List.length_map, tab_length] at *; omega))
    | (first | ((with_reducible apply n_bin); rfl; rfl; focus ((with_reducible (first | apply b_add | apply b_sub)) <;> first | omega | decide | (simp only [decide_eq_true_eq, decide_eq_false_iff_not, Bool.or_eq_false_iff, Bool.not_eq_true', Bool.not_eq_false', Bool.not_true, Bool.not_false, ints_length, List.length_map, tab_length] at *; omega))) | ((with_reducible apply n_max); rfl; rfl) | ((with_reducible apply n_min); rfl; rfl))
    | (refine tr_loop_v (α := Bool × Int) 4 (fun | (r, n) => [(10, some (.bool r)), (12, some (.int .i64 n)), (32, none), (33, none), (34, none), (35, none), (38, none), (39, none), (40, none), (41, none), (42, none), (43, none), (44, none), (45, none), (46, none), (36, none), (37, none)]) (fun | (r, n) => [some ⟨0, 2, [sv m ws]⟩, some ⟨0, 11, [pI i]⟩, some ⟨0, 2, [sv m ws]⟩, some ⟨0, 2, [mk M (liveV M a i)]⟩]) (fun | (r, n) => 0 ≤ n ∧ n ≤ (usesI i).length ∧ r = ((usesI i).take n.toNat).contains k) (fun | (r, n) => ((usesI i).length - n).toNat) ((false, 0)) (ks := [10, 12, 32, 33, 34, 35, 38, 39, 40, 41, 42, 43, 44, 45, 46, 36, 37]) (fun _ => rfl) (fun _ => rfl) rfl (by omega) ?_ ⟨⟨_, rfl, rfl⟩, ⟨_, rfl, rfl⟩, trivial⟩ ⟨⟨_, rfl, rfl, rfl, (by first |  rfl | exact fzP_pure (ints_pure _) | exact fzP_pure (u64s_pure _) | exact fzP_pure (by assumption) | exact fzP_pure (by first | (simp [pureE, pure1, ints]; done) | (simp_all [pe_int, pe_bool, pe_str, pe_sl, pe_agg, p1_int, p1_bool, p1_str, p1_sl]; done)))⟩, ⟨_, rfl, rfl, rfl, (by first |  rfl | exact fzP_pure (ints_pure _) | exact fzP_pure (u64s_pure _) | exact fzP_pure (by assumption) | exact fzP_pure (by first | (simp [pureE, pure1, ints]; done) | (simp_all [pe_int, pe_bool, pe_str, pe_sl, pe_agg, p1_int, p1_bool, p1_str, p1_sl]; done)))⟩, ⟨_, rfl, rfl, rfl, (by first |  rfl | exact fzP_pure (ints_pure _) | exact fzP_pure (u64s_pure _) | exact fzP_pure (by assumption) | exact fzP_pure (by first | (simp [pureE, pure1, ints]; done) | (simp_all [pe_int, pe_bool, pe_str, pe_sl, pe_agg, p1_int, p1_bool, p1_str, p1_sl]; done)))⟩, ⟨_, rfl, rfl, rfl, (by first |  rfl | exact fzP_pure (ints_pure _) | exact fzP_pure (u64s_pure _) | exact fzP_pure (by assumption) | exact fzP_pure (by first | (simp [pureE, pure1, ints]; done) | (simp_all [pe_int, pe_bool, pe_str, pe_sl, pe_agg, p1_int, p1_bool, p1_str, p1_sl]; done)))⟩, trivial⟩ ?_; rotate_left; rintro ⟨r, n⟩ hx; try dsimp only at hx)
    | ((first | (refine loopV_normal ((r || decide ((usesI i).getD n.toNat 0 = k), n + 1)) ?_ ⟨⟨_, rfl, rfl⟩, ⟨_, rfl, rfl⟩, trivial⟩ ⟨⟨_, rfl, rfl, rfl, (by first |  rfl | exact fzP_pure (ints_pure _) | exact fzP_pure (u64s_pure _) | exact fzP_pure (by assumption) | exact fzP_pure (by first | (simp [pureE, pure1, ints]; done) | (simp_all [pe_int, pe_bool, pe_str, pe_sl, pe_agg, p1_int, p1_bool, p1_str, p1_sl]; done)))⟩, ⟨_, rfl, rfl, rfl, (by first |  rfl | exact fzP_pure (ints_pure _) | exact fzP_pure (u64s_pure _) | exact fzP_pure (by assumption) | exact fzP_pure (by first | (simp [pureE, pure1, ints]; done) | (simp_all [pe_int, pe_bool, pe_str, pe_sl, pe_agg, p1_int, p1_bool, p1_str, p1_sl]; done)))⟩, ⟨_, rfl, rfl, rfl, (by first |  rfl | exact fzP_pure (ints_pure _) | exact fzP_pure (u64s_pure _) | exact fzP_pure (by assumption) | exact fzP_pure (by first | (simp [pureE, pure1, ints]; done) | (simp_all [pe_int, pe_bool, pe_str, pe_sl, pe_agg, p1_int, p1_bool, p1_str, p1_sl]; done)))⟩, ⟨_, rfl, rfl, rfl, (by first |  rfl | exact fzP_pure (ints_pure _) | exact fzP_pure (u64s_pure _) | exact fzP_pure (by assumption) | exact fzP_pure (by first | (simp [pureE, pure1, ints]; done) | (simp_all [pe_int, pe_bool, pe_str, pe_sl, pe_agg, p1_int, p1_bool, p1_str, p1_sl]; done)))⟩, trivial⟩ ?_ ?_)); repeat (first | exact only_refl | refine only_put rfl ?_ | refine only_less rfl ?_ | refine only_ov rfl ?_))
    | ((with_reducible apply n_val); rfl; rfl)
    | ((with_reducible apply n_new); rfl; (first | (simp only [hn0, hn1, hn2, hn3, hn4, hn5, List.length_cons, List.length_nil, Nat.reduceAdd, Nat.zero_add]; done) | (simp only [hn0, hn1, hn2, hn3, hn4, hn5, List.length_cons, List.length_nil, Nat.reduceAdd, Nat.zero_add]; rfl) | rfl); rfl)
    | ((with_reducible apply n_store); rfl; rfl; rfl; rfl; rfl)
    | ((with_reducible apply n_call (f := 7)); rfl; rfl; exact p_law05_awake)
    | ((with_reducible apply n_call (f := 8)); rfl; rfl; exact p_law05_ours ..)
    | ((with_reducible apply n_call (f := 10)); rfl; rfl; exact r_Live (by first | exact hR | (refine rep_mk ?_; (repeat (first | assumption | exact ok_zero (by omega) | exact ok_ofV _ _ (by assumption) | apply ok_live | apply ok_reach | apply ok_or | apply ok_minus | apply ok_and | apply ok_with | apply ok_wout)))) _)
    | ((with_reducible apply n_call (f := 11)); rfl; rfl; exact p_Uses ..)
    | ((with_reducible apply n_call (f := 13)); rfl; rfl; exact p_Def ..)
    | ((with_reducible apply n_call (f := 12)); rfl; rfl; exact r_bits_Has (by first | exact hR | (refine rep_mk ?_; (repeat (first | assumption | exact ok_zero (by omega) | exact ok_ofV _ _ (by assumption) | apply ok_live | apply ok_reach | apply ok_or | apply ok_minus | apply ok_and | apply ok_with | apply ok_wout)))) _)
    | ((with_reducible apply n_call (f := 14)); rfl; rfl; exact r_bits_Same (by first | exact hR | (refine rep_mk ?_; (repeat (first | assumption | exact ok_zero (by omega) | exact ok_ofV _ _ (by assumption) | apply ok_live | apply ok_reach | apply ok_or | apply ok_minus | apply ok_and | apply ok_with | apply ok_wout)))) (by first | exact hR | (refine rep_mk ?_; (repeat (first | assumption | exact ok_zero (by omega) | exact ok_ofV _ _ (by assumption) | apply ok_live | apply ok_reach | apply ok_or | apply ok_minus | apply ok_and | apply ok_with | apply ok_wout)))))
    | (with_reducible refine condT_split (fun h => ?_) (fun h => ?_))
    | ((with_reducible apply fnQ_told_ret); rfl)
    | ((with_reducible apply fnQ_ret_soft); rfl; rfl)
  all_goals (try dsimp only at *)
  all_goals (try simp only [decide_eq_true_eq, decide_eq_false_iff_not, ints_length] at *)
  · omega
  · obtain ⟨h1, h2, h3⟩ := hx
    rw [contains_take h1 h, h3]
    exact ⟨by omega, by omega, rfl⟩
  · obtain ⟨h1, h2, h3⟩ := hx
    have hq : q = true := by
      cases q with
      | true => rfl
      | false => simp at *
    rw [take_all (by omega)] at h3
    rw [← hn hq, live_law1, live_law2, h3, show (k != defI i) = decide (k ≠ defI i) by rw [decide_not]; rfl]
    simp
  · exact ⟨by omega, by omega, rfl⟩
theorem l_InstrReach (m : Int) (ws : List Nat) (i : In) (ids : List Int) (k : Int) (hw : W64 ws) : Pure Go.Proofs.Tryd.prog glD 4 [sv m ws, pI i, .sl (ints ids), .int .i64 k] (.bool true) := by
  have hR := rep_sv m ws hw
  have hS := p_bits_Sane (gl := glD) m ws hw
  have hn : bSane m ws = true → nN m ws = m := sane_nN
  have hz := hR.ok
  generalize bSane m ws = q at *
  generalize nN m ws = M at *
  generalize vN m ws = a at *
  refine Pure.fn hmix b4 ?_
  repeat' first
    | with_reducible refine tr_seq ?_
    | ((with_reducible refine tr_region_f ?_ ?_); kernel_rfl)
    | ((with_reducible refine tr_region_t ?_ ?_ ?_); kernel_rfl; kernel_rfl)
    | with_reducible refine n_nil ?_
    | exact ⟨rfl, rfl⟩
    | with_reducible refine seqQ_normal ?_
    | with_reducible refine seqQ_exit ?_
    | with_reducible refine seqQ_ret ?_
    | with_reducible refine blkQ_normal ?_
    | with_reducible refine blkQ_exit ?_
    | with_reducible refine blkQ_ret ?_
    | ((with_reducible refine blkQ_exit_ne ?_ ?_); rfl)
    | with_reducible refine tr_block ?_
    | with_reducible refine tr_skip ?_
    | with_reducible refine tr_exit ?_
    | with_reducible refine tr_ret ?_
    | ((with_reducible apply tr_cond_e); rfl)
    | with_reducible refine condT_t ?_
    | with_reducible refine condT_f ?_
    | ((with_reducible apply n_and); rfl; rfl; intro h)
    | ((with_reducible apply n_or); rfl; rfl; intro h)
    | with_reducible refine loopV_exit ?_
    | with_reducible refine loopV_ret ?_
    | refine n_call (f := 9) rfl rfl hS ?_
    | ((with_reducible apply n_idx_ints); rfl; rfl; first | omega | decide | (simp only [decide_eq_true_eq, decide_eq_false_iff_not, Bool.or_eq_false_iff, Bool.not_eq_true', Bool.not_eq_false', Bool.not_true, Bool.not_false, ints_length, List.length_map, tab_length] at *; omega))
    | (first | ((with_reducible apply n_bin); rfl; rfl; focus ((with_reducible (first | apply b_add | apply b_sub)) <;> first | omega | decide | (simp only [decide_eq_true_eq, decide_eq_false_iff_not, Bool.or_eq_false_iff, Bool.not_eq_true', Bool.not_eq_false', Bool.not_true, Bool.not_false, ints_length, List.length_map, tab_length] at *; omega))) | ((with_reducible apply n_max); rfl; rfl) | ((with_reducible apply n_min); rfl; rfl))
    | (refine tr_loop_v (α := Bool × Int) 5 (fun | (r, n) => [(13, some (.bool r)), (14, some (.int .i64 n)), (50, none), (51, none), (52, none), (53, none), (56, none), (57, none), (58, none), (59, none), (60, none), (61, none), (62, none), (63, none), (64, none), (54, none), (55, none)]) (fun | (r, n) => [some ⟨0, 2, [sv m ws]⟩, some ⟨0, 11, [pI i]⟩, some ⟨0, 2, [sv m ws]⟩, some ⟨0, 2, [mk M (reachV M a i ids)]⟩, some ⟨0, 2, [mk M (reachV M (reachV M a i ids) i ids)]⟩]) (fun | (r, n) => 0 ≤ n ∧ n ≤ ids.length ∧ r = (ids.take n.toNat).contains k) (fun | (r, n) => (ids.length - n).toNat) ((false, 0)) (ks := [13, 14, 50, 51, 52, 53, 56, 57, 58, 59, 60, 61, 62, 63, 64, 54, 55]) (fun _ => rfl) (fun _ => rfl) rfl (by omega) ?_ ⟨⟨_, rfl, rfl⟩, ⟨_, rfl, rfl⟩, trivial⟩ ⟨⟨_, rfl, rfl, rfl, (by first |  rfl | exact fzP_pure (ints_pure _) | exact fzP_pure (u64s_pure _) | exact fzP_pure (by assumption) | exact fzP_pure (by first | (simp [pureE, pure1, ints]; done) | (simp_all [pe_int, pe_bool, pe_str, pe_sl, pe_agg, p1_int, p1_bool, p1_str, p1_sl]; done)))⟩, ⟨_, rfl, rfl, rfl, (by first |  rfl | exact fzP_pure (ints_pure _) | exact fzP_pure (u64s_pure _) | exact fzP_pure (by assumption) | exact fzP_pure (by first | (simp [pureE, pure1, ints]; done) | (simp_all [pe_int, pe_bool, pe_str, pe_sl, pe_agg, p1_int, p1_bool, p1_str, p1_sl]; done)))⟩, ⟨_, rfl, rfl, rfl, (by first |  rfl | exact fzP_pure (ints_pure _) | exact fzP_pure (u64s_pure _) | exact fzP_pure (by assumption) | exact fzP_pure (by first | (simp [pureE, pure1, ints]; done) | (simp_all [pe_int, pe_bool, pe_str, pe_sl, pe_agg, p1_int, p1_bool, p1_str, p1_sl]; done)))⟩, ⟨_, rfl, rfl, rfl, (by first |  rfl | exact fzP_pure (ints_pure _) | exact fzP_pure (u64s_pure _) | exact fzP_pure (by assumption) | exact fzP_pure (by first | (simp [pureE, pure1, ints]; done) | (simp_all [pe_int, pe_bool, pe_str, pe_sl, pe_agg, p1_int, p1_bool, p1_str, p1_sl]; done)))⟩, ⟨_, rfl, rfl, rfl, (by first |  rfl | exact fzP_pure (ints_pure _) | exact fzP_pure (u64s_pure _) | exact fzP_pure (by assumption) | exact fzP_pure (by first | (simp [pureE, pure1, ints]; done) | (simp_all [pe_int, pe_bool, pe_str, pe_sl, pe_agg, p1_int, p1_bool, p1_str, p1_sl]; done)))⟩, trivial⟩ ?_; rotate_left; rintro ⟨r, n⟩ hx; try dsimp only at hx)
    | ((first | (refine loopV_normal ((r || decide (ids.getD n.toNat 0 = k), n + 1)) ?_ ⟨⟨_, rfl, rfl⟩, ⟨_, rfl, rfl⟩, trivial⟩ ⟨⟨_, rfl, rfl, rfl, (by first |  rfl | exact fzP_pure (ints_pure _) | exact fzP_pure (u64s_pure _) | exact fzP_pure (by assumption) | exact fzP_pure (by first | (simp [pureE, pure1, ints]; done) | (simp_all [pe_int, pe_bool, pe_str, pe_sl, pe_agg, p1_int, p1_bool, p1_str, p1_sl]; done)))⟩, ⟨_, rfl, rfl, rfl, (by first |  rfl | exact fzP_pure (ints_pure _) | exact fzP_pure (u64s_pure _) | exact fzP_pure (by assumption) | exact fzP_pure (by first | (simp [pureE, pure1, ints]; done) | (simp_all [pe_int, pe_bool, pe_str, pe_sl, pe_agg, p1_int, p1_bool, p1_str, p1_sl]; done)))⟩, ⟨_, rfl, rfl, rfl, (by first |  rfl | exact fzP_pure (ints_pure _) | exact fzP_pure (u64s_pure _) | exact fzP_pure (by assumption) | exact fzP_pure (by first | (simp [pureE, pure1, ints]; done) | (simp_all [pe_int, pe_bool, pe_str, pe_sl, pe_agg, p1_int, p1_bool, p1_str, p1_sl]; done)))⟩, ⟨_, rfl, rfl, rfl, (by first |  rfl | exact fzP_pure (ints_pure _) | exact fzP_pure (u64s_pure _) | exact fzP_pure (by assumption) | exact fzP_pure (by first | (simp [pureE, pure1, ints]; done) | (simp_all [pe_int, pe_bool, pe_str, pe_sl, pe_agg, p1_int, p1_bool, p1_str, p1_sl]; done)))⟩, ⟨_, rfl, rfl, rfl, (by first |  rfl | exact fzP_pure (ints_pure _) | exact fzP_pure (u64s_pure _) | exact fzP_pure (by assumption) | exact fzP_pure (by first | (simp [pureE, pure1, ints]; done) | (simp_all [pe_int, pe_bool, pe_str, pe_sl, pe_agg, p1_int, p1_bool, p1_str, p1_sl]; done)))⟩, trivial⟩ ?_ ?_)); repeat (first | exact only_refl | refine only_put rfl ?_ | refine only_less rfl ?_ | refine only_ov rfl ?_))
    | ((with_reducible apply n_val); rfl; rfl)
    | ((with_reducible apply n_new); rfl; (first | (simp only [hn0, hn1, hn2, hn3, hn4, hn5, List.length_cons, List.length_nil, Nat.reduceAdd, Nat.zero_add]; done) | (simp only [hn0, hn1, hn2, hn3, hn4, hn5, List.length_cons, List.length_nil, Nat.reduceAdd, Nat.zero_add]; rfl) | rfl); rfl)
    | ((with_reducible apply n_store); rfl; rfl; rfl; rfl; rfl)
    | ((with_reducible apply n_call (f := 7)); rfl; rfl; exact p_law05_awake)
    | ((with_reducible apply n_call (f := 8)); rfl; rfl; exact p_law05_ours ..)
    | ((with_reducible apply n_call (f := 15)); rfl; rfl; exact r_Reach (by first | exact hR | (refine rep_mk ?_; (repeat (first | assumption | exact ok_zero (by omega) | exact ok_ofV _ _ (by assumption) | apply ok_live | apply ok_reach | apply ok_or | apply ok_minus | apply ok_and | apply ok_with | apply ok_wout)))) _ _ (by first | omega | decide | (simp only [decide_eq_true_eq, decide_eq_false_iff_not, Bool.or_eq_false_iff, Bool.not_eq_true', Bool.not_eq_false', Bool.not_true, Bool.not_false, ints_length, List.length_map, tab_length] at *; omega)))
    | ((with_reducible apply n_call (f := 13)); rfl; rfl; exact p_Def ..)
    | ((with_reducible apply n_call (f := 12)); rfl; rfl; exact r_bits_Has (by first | exact hR | (refine rep_mk ?_; (repeat (first | assumption | exact ok_zero (by omega) | exact ok_ofV _ _ (by assumption) | apply ok_live | apply ok_reach | apply ok_or | apply ok_minus | apply ok_and | apply ok_with | apply ok_wout)))) _)
    | ((with_reducible apply n_call (f := 14)); rfl; rfl; exact r_bits_Same (by first | exact hR | (refine rep_mk ?_; (repeat (first | assumption | exact ok_zero (by omega) | exact ok_ofV _ _ (by assumption) | apply ok_live | apply ok_reach | apply ok_or | apply ok_minus | apply ok_and | apply ok_with | apply ok_wout)))) (by first | exact hR | (refine rep_mk ?_; (repeat (first | assumption | exact ok_zero (by omega) | exact ok_ofV _ _ (by assumption) | apply ok_live | apply ok_reach | apply ok_or | apply ok_minus | apply ok_and | apply ok_with | apply ok_wout)))))
    | (with_reducible refine condT_split (fun h => ?_) (fun h => ?_))
    | ((with_reducible apply fnQ_told_ret); rfl)
    | ((with_reducible apply fnQ_ret_soft); rfl; rfl)
  all_goals (try dsimp only at *)
  all_goals (try simp only [decide_eq_true_eq, decide_eq_false_iff_not, ints_length] at *)
  · have e : defI i = -1 := by have := def_lt i; rw [decide_eq_decide] at this; exact this.1 h
    rw [reachV, if_pos e]
    simp
  · omega
  · obtain ⟨h1, h2, h3⟩ := hx
    rw [contains_take h1 h, h3]
    exact ⟨by omega, by omega, rfl⟩
  · obtain ⟨h1, h2, h3⟩ := hx
    have hd : ¬ defI i = -1 := by omega
    have hq : q = true := by
      cases q with
      | true => rfl
      | false => simp at *
    rw [take_all (by omega)] at h3
    rw [← hn hq, reach_law1, reach_law2 M a i ids hd, h3]
    by_cases e : k = i.id
    · subst e; simp
    · rw [reach_law3 M a i ids k hd e]; simp
  · exact ⟨by omega, by omega, rfl⟩

end Go.Vm

end
