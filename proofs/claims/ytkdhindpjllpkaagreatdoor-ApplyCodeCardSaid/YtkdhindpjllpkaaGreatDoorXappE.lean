/- Laid. -/
import Derived.Test.YtkdhindpjllpkaaGreatDoorVmThree
import Derived.KernelRfl
import Derived.Test.YtkdhindpjllpkaaGreatDoorProg
import Derived.Test.YtkdhindpjllpkaaGreatDoorXappU
set_option linter.unusedSimpArgs false
set_option linter.unusedVariables false
set_option maxRecDepth 100000
set_option maxHeartbeats 4000000
set_option exponentiation.threshold 2000
namespace Go.Vm
open Go
def c10 : RFn := ⟨(.seq (rf (.o 4 (.box (.t 0)) (.o 5 (.box (.t 1)) (.o 8 (.move (.c (.bool false))) .nil)))) (.seq (rf (.o 21 (.call 35 []) (.o 9 (.m 21) .nil))) (.seq (.seq (rf (.o 22 (.load (some 1) (.t 4)) (.o 23 (.call 16 [(.t 22)]) (.o 24 (.un .not (.t 23)) (.o 25 (.m 24) (.grd 25 false (.o 26 (.fieldAddr 0 (.t 5)) (.o 27 (.load none (.t 26)) (.o 28 (.bin .neq (.t 27) (.i 3)) (.o 29 (.m 28) (.grd 29 true (.o 30 (.fieldAddr 0 (.t 5)) (.o 31 (.load none (.t 30)) (.o 32 (.bin .neq (.t 31) (.i 4)) .nil))) (.o 33 (.pick (.t 29) (.t 32) (.c (.bool false))) (.o 34 (.m 33) (.grd 34 true (.o 35 (.fieldAddr 0 (.t 5)) (.o 36 (.load none (.t 35)) (.o 37 (.bin .neq (.t 36) (.i 5)) .nil))) (.o 38 (.pick (.t 34) (.t 37) (.c (.bool false))) .nil))))))))) (.o 39 (.pick (.t 25) (.c (.bool true)) (.t 38)) .nil))))))) (.cond (.t 39) (.seq (rf (.o 40 (.m 9) (.o 8 (.m 40) .nil))) .ret) .skip)) (.seq (rf (.o 42 (.load (some 1) (.t 4)) (.o 43 (.load (some 17) (.t 5)) (.o 44 (.call 39 [(.t 42), (.t 43)]) (.o 41 (.m 44) (.o 45 (.extract 0 (.t 41)) (.o 46 (.extract 1 (.t 41)) (.o 10 (.alloc (.agg [(.lit [])])) (.op none (.store 1 (.t 10) (.t 45)) 0 (.o 11 (.m 46) .nil)))))))))) (.seq (.seq (rf (.o 47 (.m 11) (.o 48 (.bin .neq (.t 47) (.i 0)) .nil))) (.cond (.t 48) (.seq (rf (.o 49 (.m 9) (.o 50 (.m 49) (.grd 50 true (.o 51 (.load (some 1) (.t 4)) (.o 52 (.load (some 1) (.t 10)) (.o 53 (.call 34 [(.t 51), (.t 52)]) .nil))) (.o 54 (.pick (.t 50) (.t 53) (.c (.bool false))) (.o 8 (.m 54) .nil)))))) .ret) .skip)) (.seq (rf (.o 56 (.load (some 1) (.t 4)) (.o 57 (.fieldAddr 1 (.t 5)) (.o 58 (.load none (.t 57)) (.o 59 (.m 2) (.o 60 (.call 41 [(.t 56), (.t 58), (.t 59)]) (.o 55 (.m 60) (.o 61 (.extract 0 (.t 55)) (.o 62 (.extract 1 (.t 55)) (.o 12 (.alloc (.agg [(.bool false), (.lit []), (.lit [])])) (.op none (.store 3 (.t 12) (.t 61)) 0 (.o 13 (.m 62) .nil)))))))))))) (.seq (rf (.o 64 (.load (some 1) (.t 10)) (.o 65 (.fieldAddr 1 (.t 5)) (.o 66 (.load none (.t 65)) (.o 67 (.m 2) (.o 68 (.call 41 [(.t 64), (.t 66), (.t 67)]) (.o 63 (.m 68) (.o 69 (.extract 0 (.t 63)) (.o 70 (.extract 1 (.t 63)) (.o 14 (.alloc (.agg [(.bool false), (.lit []), (.lit [])])) (.op none (.store 3 (.t 14) (.t 69)) 0 (.o 15 (.m 70) .nil)))))))))))) (.seq (rf (.o 71 (.fieldAddr 2 (.t 12)) (.o 72 (.load none (.t 71)) (.o 73 (.m 3) (.o 74 (.call 42 [(.t 72), (.t 73)]) (.o 16 (.m 74) .nil)))))) (.seq (rf (.o 75 (.fieldAddr 2 (.t 14)) (.o 76 (.load none (.t 75)) (.o 77 (.m 3) (.o 78 (.call 42 [(.t 76), (.t 77)]) (.o 17 (.m 78) .nil)))))) (.seq (rf (.o 80 (.load (some 1) (.t 10)) (.o 81 (.fieldAddr 1 (.t 5)) (.o 82 (.load none (.t 81)) (.o 83 (.fieldAddr 2 (.t 5)) (.o 84 (.load none (.t 83)) (.o 85 (.call 41 [(.t 80), (.t 82), (.t 84)]) (.o 79 (.m 85) (.o 86 (.extract 0 (.t 79)) (.o 87 (.extract 1 (.t 79)) (.o 18 (.alloc (.agg [(.bool false), (.lit []), (.lit [])])) (.op none (.store 3 (.t 18) (.t 86)) 0 (.o 19 (.m 87) .nil))))))))))))) (.seq (.seq (rf (.o 88 (.fieldAddr 0 (.t 5)) (.o 89 (.load none (.t 88)) (.o 90 (.bin .eql (.t 89) (.i 3)) (.o 91 (.m 90) (.grd 91 true (.o 92 (.fieldAddr 2 (.t 18)) (.o 93 (.load none (.t 92)) (.o 94 (.fieldAddr 3 (.t 5)) (.o 95 (.load none (.t 94)) (.o 96 (.call 42 [(.t 93), (.t 95)]) (.o 97 (.un .not (.t 96)) .nil)))))) (.o 98 (.pick (.t 91) (.t 97) (.c (.bool false))) (.o 99 (.m 98) (.grd 99 false (.o 100 (.fieldAddr 0 (.t 5)) (.o 101 (.load none (.t 100)) (.o 102 (.bin .eql (.t 101) (.i 4)) (.o 103 (.m 102) (.grd 103 true (.o 104 (.fieldAddr 2 (.t 18)) (.o 105 (.load none (.t 104)) (.o 106 (.fieldAddr 3 (.t 5)) (.o 107 (.load none (.t 106)) (.o 108 (.call 42 [(.t 105), (.t 107)]) .nil))))) (.o 109 (.pick (.t 103) (.t 108) (.c (.bool false))) .nil)))))) (.o 110 (.pick (.t 99) (.c (.bool true)) (.t 109)) (.o 111 (.m 110) (.grd 111 false (.o 112 (.fieldAddr 0 (.t 5)) (.o 113 (.load none (.t 112)) (.o 114 (.bin .eql (.t 113) (.i 5)) (.o 115 (.m 114) (.grd 115 true (.o 116 (.fieldAddr 2 (.t 18)) (.o 117 (.load none (.t 116)) (.o 118 (.fieldAddr 4 (.t 5)) (.o 119 (.load none (.t 118)) (.o 120 (.call 42 [(.t 117), (.t 119)]) (.o 121 (.un .not (.t 120)) (.o 122 (.m 121) (.grd 122 false (.o 123 (.fieldAddr 4 (.t 5)) (.o 124 (.load none (.t 123)) (.o 125 (.fieldAddr 3 (.t 5)) (.o 126 (.load none (.t 125)) (.o 127 (.bin .neq (.t 124) (.t 126)) (.o 128 (.m 127) (.grd 128 true (.o 129 (.fieldAddr 2 (.t 18)) (.o 130 (.load none (.t 129)) (.o 131 (.fieldAddr 3 (.t 5)) (.o 132 (.load none (.t 131)) (.o 133 (.call 42 [(.t 130), (.t 132)]) .nil))))) (.o 134 (.pick (.t 128) (.t 133) (.c (.bool false))) .nil)))))))) (.o 135 (.pick (.t 122) (.c (.bool true)) (.t 134)) .nil))))))))) (.o 136 (.pick (.t 115) (.t 135) (.c (.bool false))) .nil)))))) (.o 137 (.pick (.t 111) (.c (.bool true)) (.t 136)) .nil))))))))))))) (.cond (.t 137) (.seq (rf (.o 8 (.move (.c (.bool false))) .nil)) .ret) .skip)) (.seq (rf (.o 138 (.m 2) (.o 139 (.fieldAddr 2 (.t 5)) (.o 140 (.load none (.t 139)) (.o 141 (.bin .eql (.t 138) (.t 140)) (.o 142 (.m 141) (.grd 142 true (.o 143 (.m 3) (.o 144 (.fieldAddr 3 (.t 5)) (.o 145 (.load none (.t 144)) (.o 146 (.bin .eql (.t 143) (.t 145)) (.o 147 (.m 146) (.grd 147 false (.o 148 (.fieldAddr 0 (.t 5)) (.o 149 (.load none (.t 148)) (.o 150 (.bin .eql (.t 149) (.i 5)) (.o 151 (.m 150) (.grd 151 true (.o 152 (.m 3) (.o 153 (.fieldAddr 4 (.t 5)) (.o 154 (.load none (.t 153)) (.o 155 (.bin .eql (.t 152) (.t 154)) .nil)))) (.o 156 (.pick (.t 151) (.t 155) (.c (.bool false))) .nil)))))) (.o 157 (.pick (.t 147) (.c (.bool true)) (.t 156)) .nil))))))) (.o 158 (.pick (.t 142) (.t 157) (.c (.bool false))) (.o 20 (.m 158) .nil))))))))) (.seq (rf (.o 159 (.m 9) (.o 160 (.m 159) (.grd 160 true (.o 161 (.m 20) (.o 162 (.m 161) (.grd 162 false (.o 163 (.m 16) (.o 164 (.m 17) (.o 165 (.binb .eql (.t 163) (.t 164)) .nil))) (.o 166 (.pick (.t 162) (.c (.bool true)) (.t 165)) .nil)))) (.o 167 (.pick (.t 160) (.t 166) (.c (.bool false))) (.o 8 (.m 167) .nil)))))) .ret))))))))))))), [.tmp 8]⟩
theorem b10 : fnOf Go.Proofs.Tryz.prog (owOf []) 10 = some c10 := by kernel_rfl
def c11 : RFn := ⟨(.seq (rf (.o 3 (.box (.t 0)) (.o 4 (.box (.t 1)) (.o 6 (.move (.c (.bool false))) .nil)))) (.seq (rf (.o 18 (.call 35 []) (.o 7 (.m 18) .nil))) (.seq (.seq (rf (.o 19 (.load (some 1) (.t 3)) (.o 20 (.call 16 [(.t 19)]) (.o 21 (.un .not (.t 20)) (.o 22 (.m 21) (.grd 22 false (.o 23 (.fieldAddr 0 (.t 4)) (.o 24 (.load none (.t 23)) (.o 25 (.bin .neq (.t 24) (.i 6)) (.o 26 (.m 25) (.grd 26 true (.o 27 (.fieldAddr 0 (.t 4)) (.o 28 (.load none (.t 27)) (.o 29 (.bin .neq (.t 28) (.i 7)) .nil))) (.o 30 (.pick (.t 26) (.t 29) (.c (.bool false))) .nil)))))) (.o 31 (.pick (.t 22) (.c (.bool true)) (.t 30)) .nil))))))) (.cond (.t 31) (.seq (rf (.o 32 (.m 7) (.o 6 (.m 32) .nil))) .ret) .skip)) (.seq (rf (.o 34 (.load (some 1) (.t 3)) (.o 35 (.load (some 17) (.t 4)) (.o 36 (.call 39 [(.t 34), (.t 35)]) (.o 33 (.m 36) (.o 37 (.extract 0 (.t 33)) (.o 38 (.extract 1 (.t 33)) (.o 8 (.alloc (.agg [(.lit [])])) (.op none (.store 1 (.t 8) (.t 37)) 0 (.o 9 (.m 38) .nil)))))))))) (.seq (.seq (rf (.o 39 (.m 9) (.o 40 (.bin .neq (.t 39) (.i 0)) .nil))) (.cond (.t 40) (.seq (rf (.o 41 (.m 7) (.o 42 (.m 41) (.grd 42 true (.o 43 (.load (some 1) (.t 3)) (.o 44 (.load (some 1) (.t 8)) (.o 45 (.call 34 [(.t 43), (.t 44)]) .nil))) (.o 46 (.pick (.t 42) (.t 45) (.c (.bool false))) (.o 6 (.m 46) .nil)))))) .ret) .skip)) (.seq (rf (.o 48 (.load (some 1) (.t 8)) (.o 49 (.fieldAddr 1 (.t 4)) (.o 50 (.load none (.t 49)) (.o 51 (.fieldAddr 2 (.t 4)) (.o 52 (.load none (.t 51)) (.o 53 (.fieldAddr 5 (.t 4)) (.o 54 (.load none (.t 53)) (.o 55 (.call 43 [(.t 48), (.t 50), (.t 52), (.t 54)]) (.o 47 (.m 55) (.o 56 (.extract 0 (.t 47)) (.o 57 (.extract 1 (.t 47)) (.o 10 (.alloc (.agg [(.int .i64 0), (.int .i64 0), (.int .i64 0), (.int .i64 0), (.int .i64 0), (.int .i64 0), (.int .i64 0), (.int .i64 0), (.int .i64 0), (.int .i64 0), (.int .i64 0)])) (.op none (.store 11 (.t 10) (.t 56)) 0 (.o 11 (.m 57) .nil))))))))))))))) (.seq (rf (.o 58 (.fieldAddr 6 (.t 4)) (.o 59 (.load (some 11) (.t 58)) (.o 12 (.alloc (.agg [(.int .i64 0), (.int .i64 0), (.int .i64 0), (.int .i64 0), (.int .i64 0), (.int .i64 0), (.int .i64 0), (.int .i64 0), (.int .i64 0), (.int .i64 0), (.int .i64 0)])) (.op none (.store 11 (.t 12) (.t 59)) 0 .nil))))) (.seq (rf (.o 60 (.load (some 1) (.t 3)) (.o 61 (.call 44 [(.t 60)]) (.o 62 (.fieldAddr 0 (.t 12)) (.op none (.store 1 (.t 62) (.t 61)) 0 .nil))))) (.seq (.seq (rf (.o 63 (.fieldAddr 0 (.t 4)) (.o 64 (.load none (.t 63)) (.o 65 (.bin .eql (.t 64) (.i 6)) (.o 66 (.m 65) (.grd 66 true (.o 67 (.m 11) (.o 68 (.un .not (.t 67)) (.o 69 (.m 68) (.grd 69 false (.o 70 (.load (some 11) (.t 10)) (.o 71 (.load (some 11) (.t 12)) (.o 72 (.eqs true [(0, 1), (1, 1), (2, 1), (3, 1), (4, 1), (5, 1), (6, 1), (7, 1), (8, 1), (9, 1), (10, 1)] (.t 70) (.t 71)) .nil))) (.o 73 (.pick (.t 69) (.c (.bool true)) (.t 72)) .nil))))) (.o 74 (.pick (.t 66) (.t 73) (.c (.bool false))) .nil))))))) (.cond (.t 74) (.seq (rf (.o 6 (.move (.c (.bool false))) .nil)) .ret) .skip)) (.seq (rf (.o 76 (.load (some 1) (.t 3)) (.o 77 (.fieldAddr 1 (.t 4)) (.o 78 (.load none (.t 77)) (.o 79 (.fieldAddr 2 (.t 4)) (.o 80 (.load none (.t 79)) (.o 81 (.m 2) (.o 82 (.call 43 [(.t 76), (.t 78), (.t 80), (.t 81)]) (.o 75 (.m 82) (.o 83 (.extract 0 (.t 75)) (.o 84 (.extract 1 (.t 75)) (.o 13 (.alloc (.agg [(.int .i64 0), (.int .i64 0), (.int .i64 0), (.int .i64 0), (.int .i64 0), (.int .i64 0), (.int .i64 0), (.int .i64 0), (.int .i64 0), (.int .i64 0), (.int .i64 0)])) (.op none (.store 11 (.t 13) (.t 83)) 0 (.o 14 (.m 84) .nil)))))))))))))) (.seq (rf (.o 15 (.move (.i 0)) .nil)) (.seq (.seq (rf (.o 85 (.m 2) (.o 86 (.fieldAddr 5 (.t 4)) (.o 87 (.load none (.t 86)) (.o 88 (.bin .geq (.t 85) (.t 87)) .nil))))) (.cond (.t 88) (rf (.o 15 (.move (.i 1)) .nil)) .skip)) (.seq (.seq (rf (.o 89 (.fieldAddr 0 (.t 4)) (.o 90 (.load none (.t 89)) (.o 91 (.bin .eql (.t 90) (.i 7)) .nil)))) (.cond (.t 91) (rf (.o 92 (.m 15) (.o 93 (.un .neg (.t 92)) (.o 15 (.m 93) .nil)))) .skip)) (.seq (rf (.o 95 (.load (some 1) (.t 8)) (.o 96 (.fieldAddr 1 (.t 4)) (.o 97 (.load none (.t 96)) (.o 98 (.fieldAddr 2 (.t 4)) (.o 99 (.load none (.t 98)) (.o 100 (.m 2) (.o 101 (.m 15) (.o 102 (.bin .add (.t 100) (.t 101)) (.o 103 (.call 43 [(.t 95), (.t 97), (.t 99), (.t 102)]) (.o 94 (.m 103) (.o 104 (.extract 0 (.t 94)) (.o 105 (.extract 1 (.t 94)) (.o 16 (.alloc (.agg [(.int .i64 0), (.int .i64 0), (.int .i64 0), (.int .i64 0), (.int .i64 0), (.int .i64 0), (.int .i64 0), (.int .i64 0), (.int .i64 0), (.int .i64 0), (.int .i64 0)])) (.op none (.store 11 (.t 16) (.t 104)) 0 (.o 17 (.m 105) .nil)))))))))))))))) (.seq (.seq (rf (.o 106 (.fieldAddr 0 (.t 4)) (.o 107 (.load none (.t 106)) (.o 108 (.bin .eql (.t 107) (.i 7)) (.o 109 (.m 108) (.grd 109 true (.o 110 (.m 2) (.o 111 (.fieldAddr 5 (.t 4)) (.o 112 (.load none (.t 111)) (.o 113 (.bin .eql (.t 110) (.t 112)) .nil)))) (.o 114 (.pick (.t 109) (.t 113) (.c (.bool false))) .nil))))))) (.cond (.t 114) (.seq (rf (.o 115 (.m 7) (.o 116 (.m 115) (.grd 116 true (.o 117 (.m 14) .nil) (.o 118 (.pick (.t 116) (.t 117) (.c (.bool false))) (.o 6 (.m 118) .nil)))))) .ret) .skip)) (.seq (rf (.o 119 (.m 7) (.o 120 (.m 119) (.grd 120 true (.o 121 (.m 14) (.o 122 (.un .not (.t 121)) (.o 123 (.m 122) (.grd 123 false (.o 124 (.m 17) (.o 125 (.m 124) (.grd 125 true (.o 126 (.load (some 11) (.t 13)) (.o 127 (.load (some 11) (.t 16)) (.o 128 (.eqs false [(0, 1), (1, 1), (2, 1), (3, 1), (4, 1), (5, 1), (6, 1), (7, 1), (8, 1), (9, 1), (10, 1)] (.t 126) (.t 127)) .nil))) (.o 129 (.pick (.t 125) (.t 128) (.c (.bool false))) .nil)))) (.o 130 (.pick (.t 123) (.c (.bool true)) (.t 129)) .nil))))) (.o 131 (.pick (.t 120) (.t 130) (.c (.bool false))) (.o 6 (.m 131) .nil)))))) .ret)))))))))))))))), [.tmp 6]⟩
theorem b11 : fnOf Go.Proofs.Tryz.prog (owOf []) 11 = some c11 := by kernel_rfl
def c42 : RFn := ⟨(.seq (rf (.o 4 (.move (.c (.bool false))) .nil)) (.seq (.seq (rf (.o 5 (.move (.i 0)) .nil)) (.block 0 (.loop (.seq (.seq (rf (.o 6 (.m 5) (.o 7 (.m 0) (.o 8 (.len false (.t 7)) (.o 9 (.bin .lss (.t 6) (.t 8)) .nil))))) (.cond (.t 9) .skip (.exit 0))) (.seq (.block 1 (.seq (rf (.o 12 (.m 0) (.o 13 (.m 5) (.o 14 (.idxAddr 1 (.t 12) (.t 13)) (.o 15 (.load none (.t 14)) (.o 16 (.m 1) (.o 17 (.bin .eql (.t 15) (.t 16)) .nil))))))) (.cond (.t 17) (.seq (rf (.o 4 (.move (.c (.bool true))) .nil)) .ret) .skip))) (rf (.o 10 (.m 5) (.o 11 (.bin .add (.t 10) (.i 1)) (.o 5 (.m 11) .nil))))))))) (.seq (rf (.o 4 (.move (.c (.bool false))) .nil)) .ret))), [.tmp 4]⟩
theorem b42 : fnOf Go.Proofs.Tryz.prog (owOf []) 42 = some c42 := by kernel_rfl
theorem p_has8 (l : List Int) (n : Int) (hl : l.length ≤ 100000) : Pure Go.Proofs.Tryz.prog glD 42 [.sl (ints l), .int .i64 n] (.bool (l.contains n)) := by
  refine Pure.fn hmix b42 ?_
  repeat' first | (with_reducible first | refine tr_seq ?_ | refine n_nil ?_ | refine seqQ_normal ?_ | refine seqQ_exit ?_ | refine seqQ_ret ?_ | refine blkQ_normal ?_ | refine blkQ_exit ?_ | refine blkQ_ret ?_ | refine tr_block ?_ | refine tr_skip ?_ | refine tr_exit ?_ | refine tr_ret ?_ | refine loopV_exit ?_ | refine loopV_ret ?_) | ((with_reducible refine tr_region_f ?_ ?_); kernel_rfl) | ((with_reducible apply tr_cond_e); rfl) | ((with_reducible apply n_idx_ints); rfl; rfl; (((simp only [zz] at *; omega)))) | ((((with_reducible apply n_bin); rfl; rfl; focus ((with_reducible (apply b_add)) <;> omega)))) | (refine tr_loop_v (α := Nat) 0 (fun | k => [(5, some (.int .i64 (k : Int))), (6, none), (7, none), (8, none), (9, none), (12, none), (13, none), (14, none), (15, none), (16, none), (17, none), (4, none), (10, none), (11, none)]) (fun | k => []) (fun | k => k ≤ l.length ∧ ∀ j, j < k → l.getD j 0 ≠ n) (fun | k => l.length - k) (0) (ks := [5, 6, 7, 8, 9, 12, 13, 14, 15, 16, 17, 4, 10, 11]) (fun _ => rfl) (fun _ => rfl) rfl (by omega) ?_ ⟨⟨_, rfl, rfl⟩, trivial⟩ trivial ?_; rotate_left; rintro k hx; try dsimp only at hx) | (((refine loopV_normal (k + 1) ?_ ⟨⟨_, rfl, rfl⟩, trivial⟩ trivial ?_ ?_)); repeat (first | exact only_refl | refine only_put rfl ?_)) | ((with_reducible apply n_val); rfl; rfl) | (with_reducible refine condT_split (fun h => ?_) (fun h => ?_)) | ((with_reducible apply fnQ_ret_soft); rfl; rfl) | fail
  all_goals (try dsimp only at *)
  all_goals (try simp only [decide_eq_true_eq, decide_eq_false_iff_not, List.length_map, ints_length, Int.toNat_natCast] at *)
  · refine congrArg PV.bool ?_
    have e : l.getD k 0 = n := by rename (_ == _) = true => hq; simpa using hq
    exact (in_iff.2 (e ▸ getD_mem 0 (by omega))).symm
  · omega
  · refine ⟨by omega, fun j hj => ?_⟩
    by_cases e : j = k
    · subst e; rename (_ == _) = false => hq; simpa using hq
    · exact hx.2 j (by omega)
  · refine congrArg PV.bool (notin_iff.2 fun hm => ?_).symm
    obtain ⟨j, hj, e⟩ := List.mem_iff_getElem.1 hm
    refine hx.2 j (by omega) ?_
    rw [List.getD_eq_getElem?_getD, List.getElem?_eq_getElem hj, Option.getD_some, e]
  · exact ⟨Nat.zero_le _, fun j hj => absurd hj (by omega)⟩
theorem l_ApplyEdges (p : List Fn) (e : Ed) (b to : Int) : Pure Go.Proofs.Tryz.prog glD 10 [pP p, pE e, .int .i64 b, .int .i64 to] (.bool true) := by
  have hw := p_Few (gl := glD) p
  cases hf : few p with
  | false =>
    rw [hf] at hw
    refine Pure.fn hmix b10 ?_
    repeat' first | (with_reducible first | refine tr_seq ?_ | refine n_nil ?_ | refine seqQ_normal ?_ | refine seqQ_ret ?_ | refine tr_ret ?_ | refine condT_t ?_) | ((with_reducible refine tr_region_f ?_ ?_); kernel_rfl) | ((with_reducible apply tr_cond_e); rfl) | ((with_reducible apply n_orT); rfl; rfl; decide +kernel) | ((with_reducible apply n_call (f := 16)); rfl; rfl; exact hw) | ((with_reducible apply n_val); rfl; rfl) | ((with_reducible apply n_new); rfl; (((simp only [hn0, hn1, hn2, hn3, hn4, hn5, List.length_cons, List.length_nil, Nat.reduceAdd, Nat.zero_add]; rfl))); rfl) | ((with_reducible apply n_call (f := 35)); rfl; rfl; exact p_awake8) | ((with_reducible apply fnQ_ret_soft); rfl; rfl) | fail
    all_goals rfl
  | true =>
    rw [hf] at hw
    by_cases hop : e.op = 3 ∨ e.op = 4 ∨ e.op = 5
    rotate_left
    · refine Pure.fn hmix b10 ?_
      repeat' first | (with_reducible first | refine tr_seq ?_ | refine n_nil ?_ | refine seqQ_normal ?_ | refine seqQ_ret ?_ | refine tr_skip ?_ | refine tr_ret ?_) | ((with_reducible refine tr_region_f ?_ ?_); kernel_rfl) | exact ⟨rfl, rfl⟩ | ((with_reducible apply tr_cond_e); rfl) | ((with_reducible apply n_and); rfl; rfl; intro h) | ((with_reducible apply n_or); rfl; rfl; intro h) | ((with_reducible apply n_call (f := 16)); rfl; rfl; exact hw) | (exfalso; rename (_ || _) = false => hz; simp at hz; omega) | ((with_reducible apply n_val); rfl; rfl) | ((with_reducible apply n_new); rfl; (((simp only [hn0, hn1, hn2, hn3, hn4, hn5, List.length_cons, List.length_nil, Nat.reduceAdd, Nat.zero_add]; rfl))); rfl) | ((with_reducible apply n_call (f := 35)); rfl; rfl; exact p_awake8) | (with_reducible refine condT_split (fun h => ?_) (fun h => ?_)) | ((with_reducible apply fnQ_ret_soft); rfl; rfl) | fail
      all_goals rfl
    have hq := few_applyV e hf
    have h1 := p_Apply p e hf
    have h2 := p_Same (gl := glD) p (applyV p e) (few_fit hf) (few_fit hq)
    have h3 : Pure Go.Proofs.Tryz.prog glD 41 [pP p, .int .i64 e.f, .int .i64 b] (.tup [pB ((blkV p e.f b).getD B0), .bool (blkV p e.f b).isSome]) := p_Block p e.f b (few_fit hf)
    have h4 : Pure Go.Proofs.Tryz.prog glD 41 [pP (applyV p e), .int .i64 e.f, .int .i64 b] (.tup [pB ((blkV (applyV p e) e.f b).getD B0), .bool (blkV (applyV p e) e.f b).isSome]) := p_Block _ e.f b (few_fit hq)
    have h5 : Pure Go.Proofs.Tryz.prog glD 41 [pP (applyV p e), .int .i64 e.f, .int .i64 e.b] (.tup [pB ((blkV (applyV p e) e.f e.b).getD B0), .bool (blkV (applyV p e) e.f e.b).isSome]) := p_Block _ e.f e.b (few_fit hq)
    have b1 := (blk_few hf e.f b).2
    have b2 := (blk_few hq e.f b).2
    have b3 := (blk_few hq e.f e.b).2
    have a1 : cheV p e ≠ 0 → sameP p (applyV p e) = true := fun hc => by rw [applyV, if_pos hc]; exact sameP_refl p
    have a2 := fun hc : cheV p e = 0 => edge_law hc hop
    generalize applyV p e = q at *
    generalize cheV p e = c at *
    generalize (blkV p e.f b).isSome = s1 at *
    generalize (blkV q e.f b).isSome = s2 at *
    generalize (blkV q e.f e.b).isSome = s3 at *
    refine Pure.fn hmix b10 ?_
    repeat' first | (with_reducible first | refine tr_seq ?_ | refine n_nil ?_ | refine seqQ_normal ?_ | refine seqQ_ret ?_ | refine tr_skip ?_ | refine tr_ret ?_) | ((with_reducible refine tr_region_f ?_ ?_); kernel_rfl) | exact ⟨rfl, rfl⟩ | ((with_reducible apply tr_cond_e); rfl) | ((with_reducible apply n_and); rfl; rfl; intro h) | ((with_reducible apply n_or); rfl; rfl; intro h) | ((with_reducible apply n_call (f := 16)); rfl; rfl; exact hw) | ((with_reducible apply n_call (f := 39)); rfl; rfl; exact h1) | ((with_reducible apply n_call (f := 34)); rfl; rfl; exact h2) | ((with_reducible apply n_call (f := 41)); rfl; rfl; exact h3) | ((with_reducible apply n_call (f := 41)); rfl; rfl; exact h4) | ((with_reducible apply n_call (f := 41)); rfl; rfl; exact h5) | ((with_reducible apply n_call (f := 42)); rfl; rfl; exact p_has8 _ _ (by omega)) | ((with_reducible apply n_val); rfl; rfl) | ((with_reducible apply n_new); rfl; (((simp only [hn0, hn1, hn2, hn3, hn4, hn5, List.length_cons, List.length_nil, Nat.reduceAdd, Nat.zero_add]; rfl))); rfl) | ((with_reducible apply n_store); rfl; rfl; rfl; rfl; rfl) | ((with_reducible apply n_call (f := 35)); rfl; rfl; exact p_awake8) | (with_reducible refine condT_split (fun h => ?_) (fun h => ?_)) | ((with_reducible apply fnQ_ret_soft); rfl; rfl) | fail
    all_goals (clear hw h1 h2 h3 h4 h5; try dsimp only at *)
    · rw [a1 (by simpa using h)]; rfl
    · exfalso
      have hc : c = 0 := by rename (c != 0) = false => hq; simpa using hq
      obtain ⟨q1, q2, q3, _⟩ := a2 hc
      rcases hop with o | o | o
      · rw [q1 o, o] at h; simp at h
      · rw [q2 o, o] at h; simp at h
      · obtain ⟨r1, r2⟩ := q3 o
        rw [r1, o] at h
        by_cases hne : e.ot = e.to
        · simp [hne] at h
        · rw [r2 hne] at h; simp at h
    · have hc : c = 0 := by rename (c != 0) = false => hq; simpa using hq
      refine congrArg PV.bool ?_
      by_cases hown : b = e.b ∧ (to = e.to ∨ e.op = 5 ∧ to = e.ot)
      · obtain ⟨o1, o2⟩ := hown
        rw [show (b == e.b) = true by simpa using o1]
        rcases o2 with o2 | ⟨o2, o3⟩
        · simp [o2]
        · simp [o2, o3]
      · rw [(a2 hc).2.2.2 b to hown]
        simp
theorem code_fin {Y Z : Option In} (h : ∀ x, Y = some x → Z = some x) : (!Y.isSome || Z.isSome && sameI (Y.getD i0) (Z.getD i0)) = true := by
  cases Y with
  | none => rfl
  | some x =>
    rw [h x rfl]
    show sameI x x = true
    exact (sameI_iff x x).2 rfl
theorem at_few {p : List Fn} {f b k : Int} {x : In} (hf : few p = true) (h : atV p f b k = some x) : 0 ≤ k ∧ k < 30 := by
  rw [at_some] at h
  have := (List.getElem?_eq_some_iff.1 h.2).1
  have := (blk_few hf f b).1
  exact ⟨h.1, by omega⟩
theorem l_ApplyCode (p : List Fn) (e : Ed) (k : Int) : Pure Go.Proofs.Tryz.prog glD 11 [pP p, pE e, .int .i64 k] (.bool true) := by
  have hw := p_Few (gl := glD) p
  cases hf : few p with
  | false =>
    rw [hf] at hw
    refine Pure.fn hmix b11 ?_
    repeat' first | (with_reducible first | refine tr_seq ?_ | refine n_nil ?_ | refine seqQ_normal ?_ | refine seqQ_ret ?_ | refine tr_ret ?_ | refine condT_t ?_) | ((with_reducible refine tr_region_f ?_ ?_); kernel_rfl) | ((with_reducible apply tr_cond_e); rfl) | ((with_reducible apply n_orT); rfl; rfl; decide +kernel) | ((with_reducible apply n_call (f := 16)); rfl; rfl; exact hw) | ((with_reducible apply n_val); rfl; rfl) | ((with_reducible apply n_new); rfl; (((simp only [hn0, hn1, hn2, hn3, hn4, hn5, List.length_cons, List.length_nil, Nat.reduceAdd, Nat.zero_add]; rfl))); rfl) | ((with_reducible apply n_call (f := 35)); rfl; rfl; exact p_awake8) | ((with_reducible apply fnQ_ret_soft); rfl; rfl) | fail
    all_goals rfl
  | true =>
    rw [hf] at hw
    by_cases hop : e.op = 6 ∨ e.op = 7
    rotate_left
    · refine Pure.fn hmix b11 ?_
      repeat' first | (with_reducible first | refine tr_seq ?_ | refine n_nil ?_ | refine seqQ_normal ?_ | refine seqQ_ret ?_ | refine tr_skip ?_ | refine tr_ret ?_) | ((with_reducible refine tr_region_f ?_ ?_); kernel_rfl) | exact ⟨rfl, rfl⟩ | ((with_reducible apply tr_cond_e); rfl) | ((with_reducible apply n_and); rfl; rfl; intro h) | ((with_reducible apply n_or); rfl; rfl; intro h) | ((with_reducible apply n_call (f := 16)); rfl; rfl; exact hw) | (exfalso; rename (_ || _) = false => hz; simp at hz; omega) | ((with_reducible apply n_val); rfl; rfl) | ((with_reducible apply n_new); rfl; (((simp only [hn0, hn1, hn2, hn3, hn4, hn5, List.length_cons, List.length_nil, Nat.reduceAdd, Nat.zero_add]; rfl))); rfl) | ((with_reducible apply n_call (f := 35)); rfl; rfl; exact p_awake8) | (with_reducible refine condT_split (fun h => ?_) (fun h => ?_)) | ((with_reducible apply fnQ_ret_soft); rfl; rfl) | fail
      all_goals rfl
    obtain ⟨op, f, b, to, ot, pos, i⟩ := e
    simp only at hop
    rcases hop with rfl | rfl
    · have hq := few_applyV ⟨6, f, b, to, ot, pos, i⟩ hf
      have h1 := p_Apply p ⟨6, f, b, to, ot, pos, i⟩ hf
      have h2 := p_Same (gl := glD) p (applyV p ⟨6, f, b, to, ot, pos, i⟩) (few_fit hf) (few_fit hq)
      have h3 : ∀ z : Int, Pure Go.Proofs.Tryz.prog glD 43 [pP (applyV p ⟨6, f, b, to, ot, pos, i⟩), .int .i64 f, .int .i64 b, .int .i64 z] (.tup [pI ((atV (applyV p ⟨6, f, b, to, ot, pos, i⟩) f b z).getD i0), .bool (atV (applyV p ⟨6, f, b, to, ot, pos, i⟩) f b z).isSome]) := fun z => p_At _ _ _ z (few_fit hq)
      have h4 : Pure Go.Proofs.Tryz.prog glD 43 [pP p, .int .i64 f, .int .i64 b, .int .i64 k] (.tup [pI ((atV p f b k).getD i0), .bool (atV p f b k).isSome]) := p_At _ _ _ k (few_fit hf)
      have h5 := p_NewId p (few_fit hf)
      have a1 : cheV p ⟨6, f, b, to, ot, pos, i⟩ ≠ 0 → sameP p (applyV p ⟨6, f, b, to, ot, pos, i⟩) = true := fun hc => by rw [applyV, if_pos hc]; exact sameP_refl p
      have a2 := fun hc : cheV p ⟨6, f, b, to, ot, pos, i⟩ = 0 => ins_law hc rfl
      have a4 : ∀ x, atV p f b k = some x → 0 ≤ k ∧ k < 30 := fun x h => at_few hf h
      simp only at a2
      generalize newIdV p = nid at *
      generalize applyV p ⟨6, f, b, to, ot, pos, i⟩ = q at *
      generalize cheV p ⟨6, f, b, to, ot, pos, i⟩ = c at *
      refine Pure.fn hmix b11 ?_
      repeat' first | (with_reducible first | refine tr_seq ?_ | refine n_nil ?_ | refine seqQ_normal ?_ | refine seqQ_ret ?_ | refine tr_skip ?_ | refine tr_ret ?_) | ((with_reducible refine tr_region_f ?_ ?_); kernel_rfl) | exact ⟨rfl, rfl⟩ | ((with_reducible apply tr_cond_e); rfl) | ((with_reducible refine condT_F ?_ ?_); exact rfl) | ((with_reducible apply n_and); rfl; rfl; intro h) | ((with_reducible apply n_or); rfl; rfl; intro h) | ((with_reducible apply n_call (f := 16)); rfl; rfl; exact hw) | ((with_reducible apply n_call (f := 39)); rfl; rfl; exact h1) | ((with_reducible apply n_call (f := 34)); rfl; rfl; exact h2) | ((with_reducible apply n_call (f := 43)); rfl; rfl; exact h4) | ((with_reducible apply n_call (f := 43)); rfl; rfl; exact h3 _) | ((with_reducible apply n_call (f := 44)); rfl; rfl; exact h5) | ((with_reducible apply n_val); rfl; rfl) | ((with_reducible apply n_new); rfl; (((simp only [hn0, hn1, hn2, hn3, hn4, hn5, List.length_cons, List.length_nil, Nat.reduceAdd, Nat.zero_add]; rfl))); rfl) | ((with_reducible apply n_store); rfl; rfl; rfl; rfl; rfl) | ((with_reducible apply n_eqs_f); rfl; rfl; rfl) | ((with_reducible apply n_eqs_t); rfl; rfl; rfl) | ((with_reducible apply n_call (f := 35)); rfl; rfl; exact p_awake8) | (with_reducible refine condT_split (fun h => ?_) (fun h => ?_)) | ((with_reducible apply fnQ_ret_soft); rfl; rfl) | fail
      all_goals (clear hw h1 h2 h3 h4 h5; try dsimp only at *)
      · rw [a1 (by simpa using h)]; rfl
      · exfalso
        have hc : c = 0 := by rename (c != 0) = false => hq; simpa using hq
        rw [(a2 hc).1] at h
        simp at h
      · have hc : c = 0 := by rename (c != 0) = false => hq; simpa using hq
        have hk := of_decide_eq_true h
        rw [Bool.true_and, in_eq]
        refine congrArg PV.bool (code_fin fun x hx => ?_)
        obtain ⟨k0, k1⟩ := a4 x hx
        have := (a2 hc).2 k x hx
        rw [if_pos hk] at this
        rw [wrap_i64_of (by omega)]
        exact this
      · have hc : c = 0 := by rename (c != 0) = false => hq; simpa using hq
        have hk := of_decide_eq_false h
        rw [Bool.true_and, in_eq]
        refine congrArg PV.bool (code_fin fun x hx => ?_)
        obtain ⟨k0, k1⟩ := a4 x hx
        have := (a2 hc).2 k x hx
        rw [if_neg hk] at this
        rw [wrap_i64_of (by omega), Int.add_zero]
        exact this
    · have hq := few_applyV ⟨7, f, b, to, ot, pos, i⟩ hf
      have h1 := p_Apply p ⟨7, f, b, to, ot, pos, i⟩ hf
      have h2 := p_Same (gl := glD) p (applyV p ⟨7, f, b, to, ot, pos, i⟩) (few_fit hf) (few_fit hq)
      have h3 : ∀ z : Int, Pure Go.Proofs.Tryz.prog glD 43 [pP (applyV p ⟨7, f, b, to, ot, pos, i⟩), .int .i64 f, .int .i64 b, .int .i64 z] (.tup [pI ((atV (applyV p ⟨7, f, b, to, ot, pos, i⟩) f b z).getD i0), .bool (atV (applyV p ⟨7, f, b, to, ot, pos, i⟩) f b z).isSome]) := fun z => p_At _ _ _ z (few_fit hq)
      have h4 : Pure Go.Proofs.Tryz.prog glD 43 [pP p, .int .i64 f, .int .i64 b, .int .i64 k] (.tup [pI ((atV p f b k).getD i0), .bool (atV p f b k).isSome]) := p_At _ _ _ k (few_fit hf)
      have h5 := p_NewId p (few_fit hf)
      have a1 : cheV p ⟨7, f, b, to, ot, pos, i⟩ ≠ 0 → sameP p (applyV p ⟨7, f, b, to, ot, pos, i⟩) = true := fun hc => by rw [applyV, if_pos hc]; exact sameP_refl p
      have a2 := fun hc : cheV p ⟨7, f, b, to, ot, pos, i⟩ = 0 => del_law hc rfl
      have a4 : ∀ x, atV p f b k = some x → 0 ≤ k ∧ k < 30 := fun x h => at_few hf h
      simp only at a2
      generalize newIdV p = nid at *
      generalize applyV p ⟨7, f, b, to, ot, pos, i⟩ = q at *
      generalize cheV p ⟨7, f, b, to, ot, pos, i⟩ = c at *
      refine Pure.fn hmix b11 ?_
      repeat' first | (with_reducible first | refine tr_seq ?_ | refine n_nil ?_ | refine seqQ_normal ?_ | refine seqQ_ret ?_ | refine tr_skip ?_ | refine tr_ret ?_) | ((with_reducible refine tr_region_f ?_ ?_); kernel_rfl) | exact ⟨rfl, rfl⟩ | ((with_reducible apply tr_cond_e); rfl) | ((with_reducible refine condT_T ?_ ?_); exact rfl) | ((with_reducible refine condT_F ?_ ?_); exact rfl) | ((with_reducible apply n_and); rfl; rfl; intro h) | ((with_reducible apply n_or); rfl; rfl; intro h) | ((with_reducible apply n_call (f := 16)); rfl; rfl; exact hw) | ((with_reducible apply n_call (f := 39)); rfl; rfl; exact h1) | ((with_reducible apply n_call (f := 34)); rfl; rfl; exact h2) | ((with_reducible apply n_call (f := 43)); rfl; rfl; exact h4) | ((with_reducible apply n_call (f := 43)); rfl; rfl; exact h3 _) | ((with_reducible apply n_call (f := 44)); rfl; rfl; exact h5) | ((with_reducible apply n_val); rfl; rfl) | ((with_reducible apply n_new); rfl; (((simp only [hn0, hn1, hn2, hn3, hn4, hn5, List.length_cons, List.length_nil, Nat.reduceAdd, Nat.zero_add]; rfl))); rfl) | ((with_reducible apply n_store); rfl; rfl; rfl; rfl; rfl) | ((with_reducible apply n_eqs_f); rfl; rfl; rfl) | ((with_reducible apply n_eqs_t); rfl; rfl; rfl) | ((with_reducible apply n_call (f := 35)); rfl; rfl; exact p_awake8) | (with_reducible refine condT_split (fun h => ?_) (fun h => ?_)) | ((with_reducible apply fnQ_ret_soft); rfl; rfl) | fail
      all_goals (clear hw h1 h2 h3 h4 h5; try dsimp only at *)
      · rw [a1 (by simpa using h)]; rfl
      · have hc : c = 0 := by rename (c != 0) = false => hq; simpa using hq
        have hk : k = pos := by simpa using h
        rw [hk, (a2 hc).1]; rfl
      · have hc : c = 0 := by rename (c != 0) = false => hq; simpa using hq
        have hk := of_decide_eq_true ‹decide (k ≥ pos) = true›
        have hn : k ≠ pos := by simpa using h
        rw [Bool.true_and, in_eq]
        refine congrArg PV.bool (code_fin fun x hx => ?_)
        obtain ⟨k0, k1⟩ := a4 x hx
        have := (a2 hc).2 k x hn hx
        rw [if_pos hk] at this
        rw [show IntKind.i64.wrap (0 - 1) = -1 by decide, wrap_i64_of (by omega)]
        exact this
      · have hc : c = 0 := by rename (c != 0) = false => hq; simpa using hq
        have hk : k = pos := by simpa using h
        rw [hk, (a2 hc).1]; rfl
      · have hc : c = 0 := by rename (c != 0) = false => hq; simpa using hq
        have hk := of_decide_eq_false ‹decide (k ≥ pos) = false›
        have hn : k ≠ pos := by omega
        rw [Bool.true_and, in_eq]
        refine congrArg PV.bool (code_fin fun x hx => ?_)
        obtain ⟨k0, k1⟩ := a4 x hx
        have := (a2 hc).2 k x hn hx
        rw [if_neg hk] at this
        rw [show IntKind.i64.wrap (0 - 0) = 0 by decide, wrap_i64_of (by omega), Int.add_zero]
        exact this
end Go.Vm
