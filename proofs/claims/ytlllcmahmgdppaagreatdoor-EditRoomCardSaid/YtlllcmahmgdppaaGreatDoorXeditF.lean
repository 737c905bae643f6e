/- Laid. -/
import Derived.Test.YtlllcmahmgdppaaGreatDoorVmThree
import Derived.KernelRfl
import Derived.Test.YtlllcmahmgdppaaGreatDoorProg
import Derived.Test.YtlllcmahmgdppaaGreatDoorXeditE
section
/- Code. -/
set_option maxRecDepth 100000
set_option linter.unusedSimpArgs false
set_option linter.unusedVariables false
namespace Go.Vm
open Go
def c5 : RFn := ⟨(.seq (rf (.o 5 (.box (.t 0)) (.o 10 (.move (.c (.bool false))) .nil))) (.seq (rf (.o 22 (.call 39 []) (.o 11 (.m 22) .nil))) (.seq (.seq (rf (.o 23 (.load (some 1) (.t 5)) (.o 24 (.call 12 [(.t 23)]) (.o 25 (.un .not (.t 24)) (.o 26 (.m 25) (.grd 26 false (.o 27 (.load (some 1) (.t 5)) (.o 28 (.call 13 [(.t 27)]) (.o 29 (.un .not (.t 28)) .nil))) (.o 30 (.pick (.t 26) (.c (.bool true)) (.t 29)) .nil))))))) (.cond (.t 30) (.seq (rf (.o 31 (.m 11) (.o 10 (.m 31) .nil))) .ret) .skip)) (.seq (rf (.o 33 (.load (some 1) (.t 5)) (.o 34 (.m 1) (.o 35 (.m 2) (.o 36 (.call 23 [(.t 33), (.t 34), (.t 35)]) (.o 32 (.m 36) (.o 37 (.extract 0 (.t 32)) (.o 38 (.extract 1 (.t 32)) (.o 12 (.alloc (.agg [(.bool false), (.lit []), (.lit [])])) (.op none (.store 3 (.t 12) (.t 37)) 0 (.o 13 (.m 38) .nil))))))))))) (.seq (rf (.o 40 (.load (some 1) (.t 5)) (.o 41 (.m 1) (.o 42 (.m 3) (.o 43 (.call 23 [(.t 40), (.t 41), (.t 42)]) (.o 39 (.m 43) (.o 44 (.extract 0 (.t 39)) (.o 45 (.extract 1 (.t 39)) (.o 14 (.alloc (.agg [(.bool false), (.lit []), (.lit [])])) (.op none (.store 3 (.t 14) (.t 44)) 0 (.o 15 (.m 45) .nil))))))))))) (.seq (rf (.o 47 (.load (some 1) (.t 5)) (.o 48 (.m 1) (.o 49 (.m 4) (.o 50 (.call 23 [(.t 47), (.t 48), (.t 49)]) (.o 46 (.m 50) (.o 51 (.extract 0 (.t 46)) (.o 52 (.extract 1 (.t 46)) (.o 16 (.alloc (.agg [(.bool false), (.lit []), (.lit [])])) (.op none (.store 3 (.t 16) (.t 51)) 0 (.o 17 (.m 52) .nil))))))))))) (.seq (rf (.o 53 (.load (some 1) (.t 5)) (.o 54 (.m 1) (.o 55 (.m 2) (.o 56 (.m 3) (.o 57 (.build [(.int .i64 0), (.int .i64 0), (.int .i64 0), (.int .i64 0), (.int .i64 0), (.int .i64 0), (.int .i64 0), (.int .i64 0), (.int .i64 0), (.int .i64 0), (.int .i64 0), (.int .i64 0), (.int .i64 0), (.int .i64 0), (.int .i64 0), (.int .i64 0), (.int .i64 0)] [(0, 1, (.i 3)), (1, 1, (.t 54)), (2, 1, (.t 55)), (3, 1, (.t 56))]) (.o 58 (.call 40 [(.t 53), (.t 57)]) (.o 18 (.m 58) .nil)))))))) (.seq (rf (.o 59 (.load (some 1) (.t 5)) (.o 60 (.m 1) (.o 61 (.m 2) (.o 62 (.m 3) (.o 63 (.build [(.int .i64 0), (.int .i64 0), (.int .i64 0), (.int .i64 0), (.int .i64 0), (.int .i64 0), (.int .i64 0), (.int .i64 0), (.int .i64 0), (.int .i64 0), (.int .i64 0), (.int .i64 0), (.int .i64 0), (.int .i64 0), (.int .i64 0), (.int .i64 0), (.int .i64 0)] [(0, 1, (.i 4)), (1, 1, (.t 60)), (2, 1, (.t 61)), (3, 1, (.t 62))]) (.o 64 (.call 40 [(.t 59), (.t 63)]) (.o 19 (.m 64) .nil)))))))) (.seq (rf (.o 65 (.load (some 1) (.t 5)) (.o 66 (.m 1) (.o 67 (.m 2) (.o 68 (.m 3) (.o 69 (.m 4) (.o 70 (.build [(.int .i64 0), (.int .i64 0), (.int .i64 0), (.int .i64 0), (.int .i64 0), (.int .i64 0), (.int .i64 0), (.int .i64 0), (.int .i64 0), (.int .i64 0), (.int .i64 0), (.int .i64 0), (.int .i64 0), (.int .i64 0), (.int .i64 0), (.int .i64 0), (.int .i64 0)] [(0, 1, (.i 5)), (1, 1, (.t 66)), (2, 1, (.t 67)), (3, 1, (.t 68)), (4, 1, (.t 69))]) (.o 71 (.call 40 [(.t 65), (.t 70)]) (.o 20 (.m 71) .nil))))))))) (.seq (rf (.o 72 (.load (some 1) (.t 5)) (.o 73 (.m 1) (.o 74 (.m 2) (.o 75 (.m 4) (.o 76 (.build [(.int .i64 0), (.int .i64 0), (.int .i64 0), (.int .i64 0), (.int .i64 0), (.int .i64 0), (.int .i64 0), (.int .i64 0), (.int .i64 0), (.int .i64 0), (.int .i64 0), (.int .i64 0), (.int .i64 0), (.int .i64 0), (.int .i64 0), (.int .i64 0), (.int .i64 0)] [(0, 1, (.i 3)), (1, 1, (.t 73)), (2, 1, (.t 74)), (3, 1, (.t 75))]) (.o 77 (.call 40 [(.t 72), (.t 76)]) (.o 21 (.m 77) .nil)))))))) (.seq (.seq (rf (.o 78 (.m 13) (.o 79 (.un .not (.t 78)) (.o 80 (.m 79) (.grd 80 false (.o 81 (.m 15) (.o 82 (.un .not (.t 81)) .nil)) (.o 83 (.pick (.t 80) (.c (.bool true)) (.t 82)) .nil)))))) (.cond (.t 83) (.seq (rf (.o 84 (.m 11) (.o 85 (.m 84) (.grd 85 true (.o 86 (.m 18) (.o 87 (.m 19) (.o 88 (.bin .eql (.t 86) (.t 87)) .nil))) (.o 89 (.pick (.t 85) (.t 88) (.c (.bool false))) (.o 90 (.m 89) (.grd 90 true (.o 91 (.m 18) (.o 92 (.bin .neq (.t 91) (.i 0)) .nil)) (.o 93 (.pick (.t 90) (.t 92) (.c (.bool false))) (.o 94 (.m 93) (.grd 94 true (.o 95 (.m 20) (.o 96 (.bin .neq (.t 95) (.i 0)) .nil)) (.o 97 (.pick (.t 94) (.t 96) (.c (.bool false))) (.o 10 (.m 97) .nil)))))))))))) .ret) .skip)) (.seq (.seq (rf (.o 98 (.m 18) (.o 99 (.bin .eql (.t 98) (.i 0)) (.o 100 (.m 19) (.o 101 (.bin .eql (.t 100) (.i 0)) (.o 102 (.binb .eql (.t 99) (.t 101)) (.o 103 (.m 102) (.grd 103 false (.o 104 (.m 18) (.o 105 (.bin .neq (.t 104) (.i 0)) (.o 106 (.m 105) (.grd 106 true (.o 107 (.m 18) (.o 108 (.bin .neq (.t 107) (.i 5)) .nil)) (.o 109 (.pick (.t 106) (.t 108) (.c (.bool false))) .nil))))) (.o 110 (.pick (.t 103) (.c (.bool true)) (.t 109)) (.o 111 (.m 110) (.grd 111 false (.o 112 (.m 19) (.o 113 (.bin .neq (.t 112) (.i 0)) (.o 114 (.m 113) (.grd 114 true (.o 115 (.m 19) (.o 116 (.bin .neq (.t 115) (.i 5)) .nil)) (.o 117 (.pick (.t 114) (.t 116) (.c (.bool false))) .nil))))) (.o 118 (.pick (.t 111) (.c (.bool true)) (.t 117)) .nil)))))))))))) (.cond (.t 118) (.seq (rf (.o 10 (.move (.c (.bool false))) .nil)) .ret) .skip)) (.seq (rf (.o 119 (.m 11) (.o 120 (.m 119) (.grd 120 true (.o 121 (.m 20) (.o 122 (.bin .eql (.t 121) (.i 0)) (.o 123 (.m 17) (.o 124 (.m 123) (.grd 124 true (.o 125 (.m 19) (.o 126 (.bin .eql (.t 125) (.i 0)) .nil)) (.o 127 (.pick (.t 124) (.t 126) (.c (.bool false))) (.o 128 (.m 127) (.grd 128 true (.o 129 (.m 21) (.o 130 (.bin .eql (.t 129) (.i 0)) (.o 131 (.m 130) (.grd 131 false (.o 132 (.m 4) (.o 133 (.m 3) (.o 134 (.bin .eql (.t 132) (.t 133)) .nil))) (.o 135 (.pick (.t 131) (.c (.bool true)) (.t 134)) .nil))))) (.o 136 (.pick (.t 128) (.t 135) (.c (.bool false))) (.o 137 (.binb .eql (.t 122) (.t 136)) .nil)))))))))) (.o 138 (.pick (.t 120) (.t 137) (.c (.bool false))) (.o 10 (.m 138) .nil)))))) .ret))))))))))))), [.tmp 10]⟩
theorem b5 : fnOf Go.Proofs.Tryz.prog (owOf []) 5 = some c5 := by kernel_rfl
def c7 : RFn := ⟨(.seq (rf (.o 5 (.box (.t 0)) (.o 9 (.box (.t 4)) (.o 10 (.move (.c (.bool false))) .nil)))) (.seq (rf (.o 22 (.call 39 []) (.o 11 (.m 22) .nil))) (.seq (.seq (rf (.o 23 (.load (some 1) (.t 5)) (.o 24 (.call 12 [(.t 23)]) (.o 25 (.un .not (.t 24)) (.o 26 (.m 25) (.grd 26 false (.o 27 (.load (some 1) (.t 5)) (.o 28 (.call 13 [(.t 27)]) (.o 29 (.un .not (.t 28)) .nil))) (.o 30 (.pick (.t 26) (.c (.bool true)) (.t 29)) .nil))))))) (.cond (.t 30) (.seq (rf (.o 31 (.m 11) (.o 10 (.m 31) .nil))) .ret) .skip)) (.seq (rf (.o 33 (.load (some 1) (.t 5)) (.o 34 (.m 1) (.o 35 (.call 21 [(.t 33), (.t 34)]) (.o 32 (.m 35) (.o 36 (.extract 0 (.t 32)) (.o 37 (.extract 1 (.t 32)) (.o 12 (.alloc (.agg [(.int .i64 0), (.int .i64 0), (.lit [])])) (.op none (.store 3 (.t 12) (.t 36)) 0 (.o 13 (.m 37) .nil)))))))))) (.seq (rf (.o 39 (.load (some 1) (.t 5)) (.o 40 (.m 1) (.o 41 (.m 2) (.o 42 (.call 23 [(.t 39), (.t 40), (.t 41)]) (.o 38 (.m 42) (.o 43 (.extract 0 (.t 38)) (.o 44 (.extract 1 (.t 38)) (.o 14 (.alloc (.agg [(.bool false), (.lit []), (.lit [])])) (.op none (.store 3 (.t 14) (.t 43)) 0 (.o 15 (.m 44) .nil))))))))))) (.seq (rf (.o 45 (.m 13) (.o 46 (.m 45) (.grd 46 true (.o 47 (.m 15) .nil) (.o 48 (.pick (.t 46) (.t 47) (.c (.bool false))) (.o 49 (.m 48) (.grd 49 true (.o 50 (.m 3) (.o 51 (.bin .geq (.t 50) (.i 0)) .nil)) (.o 52 (.pick (.t 49) (.t 51) (.c (.bool false))) (.o 53 (.m 52) (.grd 53 true (.o 54 (.m 3) (.o 55 (.fieldAddr 1 (.t 14)) (.o 56 (.load none (.t 55)) (.o 57 (.len false (.t 56)) (.o 58 (.bin .leq (.t 54) (.t 57)) .nil))))) (.o 59 (.pick (.t 53) (.t 58) (.c (.bool false))) (.o 60 (.m 59) (.grd 60 true (.o 61 (.fieldAddr 0 (.t 9)) (.o 62 (.load none (.t 61)) (.o 63 (.bin .eql (.t 62) (.i 0)) .nil))) (.o 64 (.pick (.t 60) (.t 63) (.c (.bool false))) (.o 65 (.m 64) (.grd 65 true (.o 66 (.load (some 11) (.t 9)) (.o 67 (.call 41 [(.t 66)]) .nil)) (.o 68 (.pick (.t 65) (.t 67) (.c (.bool false))) (.o 69 (.m 68) (.grd 69 true (.o 70 (.fieldAddr 1 (.t 14)) (.o 71 (.load none (.t 70)) (.o 72 (.len false (.t 71)) (.o 73 (.bin .lss (.t 72) (.i 16)) .nil)))) (.o 74 (.pick (.t 69) (.t 73) (.c (.bool false))) (.o 75 (.m 74) (.grd 75 true (.o 76 (.load (some 1) (.t 5)) (.o 77 (.call 35 [(.t 76)]) (.o 78 (.bin .geq (.t 77) (.i 0)) .nil))) (.o 79 (.pick (.t 75) (.t 78) (.c (.bool false))) (.o 16 (.m 79) .nil)))))))))))))))))))))))) (.seq (rf (.o 80 (.load (some 11) (.t 9)) (.o 81 (.call 17 [(.t 80)]) (.o 17 (.m 81) .nil)))) (.seq (.seq (rf (.o 18 (.move (.i 0)) .nil)) (.block 0 (.loop (.seq (.seq (rf (.o 82 (.m 18) (.o 83 (.m 17) (.o 84 (.len false (.t 83)) (.o 85 (.bin .lss (.t 82) (.t 84)) .nil))))) (.cond (.t 85) .skip (.exit 0))) (.seq (.block 1 (rt (.o 88 (.m 16) (.op (some 89) (.m 88) 1 (.grd 89 true (.op (some 90) (.m 17) 3 (.op (some 91) (.m 18) 3 (.op (some 92) (.idxAddr 1 (.t 90) (.t 91)) 15 (.op (some 93) (.load none (.t 92)) 31 (.op (some 94) (.fieldAddr 1 (.t 12)) 3 (.op (some 95) (.load none (.t 94)) 67 (.op (some 96) (.bin .lss (.t 93) (.t 95)) 255 .nil))))))) (.op (some 97) (.pick (.t 89) (.t 96) (.c (.bool false))) 511 (.op (some 16) (.m 97) 1023 .nil))))))) (rf (.o 86 (.m 18) (.o 87 (.bin .add (.t 86) (.i 1)) (.o 18 (.m 87) .nil))))))))) (.seq (.seq (rf (.o 98 (.fieldAddr 1 (.t 9)) (.o 99 (.load none (.t 98)) (.o 100 (.bin .eql (.t 99) (.i 7)) .nil)))) (.cond (.t 100) (.seq (rf (.o 102 (.load (some 1) (.t 5)) (.o 103 (.fieldAddr 6 (.t 9)) (.o 104 (.load none (.t 103)) (.o 105 (.call 21 [(.t 102), (.t 104)]) (.o 101 (.m 105) (.o 106 (.extract 0 (.t 101)) (.o 107 (.extract 1 (.t 101)) (.o 19 (.alloc (.agg [(.int .i64 0), (.int .i64 0), (.lit [])])) (.op none (.store 3 (.t 19) (.t 106)) 0 (.o 20 (.m 107) .nil))))))))))) (rf (.o 108 (.m 16) (.o 109 (.m 108) (.grd 109 true (.o 110 (.m 20) .nil) (.o 111 (.pick (.t 109) (.t 110) (.c (.bool false))) (.o 112 (.m 111) (.grd 112 true (.o 113 (.fieldAddr 0 (.t 19)) (.o 114 (.load none (.t 113)) (.o 115 (.fieldAddr 7 (.t 9)) (.o 116 (.load none (.t 115)) (.o 117 (.bin .eql (.t 114) (.t 116)) .nil))))) (.o 118 (.pick (.t 112) (.t 117) (.c (.bool false))) (.o 16 (.m 118) .nil)))))))))) .skip)) (.seq (rf (.o 119 (.load (some 1) (.t 5)) (.o 120 (.m 1) (.o 121 (.m 2) (.o 122 (.m 3) (.o 123 (.load (some 11) (.t 9)) (.o 124 (.build [(.int .i64 0), (.int .i64 0), (.int .i64 0), (.int .i64 0), (.int .i64 0), (.int .i64 0), (.int .i64 0), (.int .i64 0), (.int .i64 0), (.int .i64 0), (.int .i64 0), (.int .i64 0), (.int .i64 0), (.int .i64 0), (.int .i64 0), (.int .i64 0), (.int .i64 0)] [(0, 1, (.i 6)), (1, 1, (.t 120)), (2, 1, (.t 121)), (5, 1, (.t 122)), (6, 11, (.t 123))]) (.o 125 (.call 40 [(.t 119), (.t 124)]) (.o 21 (.m 125) .nil))))))))) (.seq (rf (.o 126 (.m 11) (.o 127 (.m 126) (.grd 127 true (.o 128 (.m 21) (.o 129 (.bin .eql (.t 128) (.i 0)) (.o 130 (.m 16) (.o 131 (.binb .eql (.t 129) (.t 130)) .nil)))) (.o 132 (.pick (.t 127) (.t 131) (.c (.bool false))) (.o 10 (.m 132) .nil)))))) .ret))))))))))), [.tmp 10]⟩
theorem b7 : fnOf Go.Proofs.Tryz.prog (owOf []) 7 = some c7 := by kernel_rfl
end Go.Vm
end
section
/- Walks. -/
set_option maxRecDepth 100000
set_option linter.unusedSimpArgs false
set_option linter.unusedVariables false
namespace Go.Vm
open Go
set_option maxHeartbeats 4000000
theorem chk_no {p : List Fn} {e : Ed} (sp : sane p = true) (ho : 0 < e.op ∧ e.op < 8) (h : ¬ (0 ≤ e.f ∧ e.f < (p.length : Nat))) : cheV p e = 1 := by
  rw [cheV, if_neg (by rw [sp]; simp), if_neg (by omega), if_neg (by omega), if_pos (by omega)]
theorem chk_in {p : List Fn} {e : Ed} (sp : sane p = true) (ho : 0 < e.op ∧ e.op < 8) (h : 0 ≤ e.f ∧ e.f < (p.length : Nat)) : cheV p e = othV p e := by
  rw [cheV, if_neg (by rw [sp]; simp), if_neg (by omega), if_neg (by omega), if_neg (by omega)]
theorem fun_none {p : List Fn} {f : Int} (h : ¬ (0 ≤ f ∧ f < (p.length : Nat))) : funV p f = none := by
  rw [funV, if_neg (fun c => h c.2)]
theorem blk_none {p : List Fn} {f : Int} (h : ¬ (0 ≤ f ∧ f < (p.length : Nat))) (b : Int) : (blkV p f b).isSome = false := by
  rw [blkV, fun_none h]
  have : liveF F0 b = false := live_F0 b
  rw [Option.getD_none, this]; rfl
theorem l_EditEdges (p : List Fn) (f b to ot : Int) : Pure Go.Proofs.Tryz.prog glD 5 [pP p, .int .i64 f, .int .i64 b, .int .i64 to, .int .i64 ot] (.bool true) := by
  have hw := p_Few (gl := glD) p
  cases hf : few p with
  | false =>
    rw [hf] at hw
    refine Pure.fn hmix b5 ?_
    repeat' first | (with_reducible first | refine tr_seq ?_ | refine n_nil ?_ | refine seqQ_normal ?_ | refine seqQ_ret ?_ | refine blkQ_ret ?_ | refine tr_skip ?_ | refine tr_ret ?_ | refine condT_t ?_ | refine condT_f ?_) | ((with_reducible refine tr_region_f ?_ ?_); kernel_rfl) | exact ⟨rfl, rfl⟩ | ((with_reducible apply tr_cond_e); rfl) | ((with_reducible refine condT_T ?_ ?_); decide +kernel) | ((with_reducible refine condT_F ?_ ?_); decide +kernel) | ((with_reducible apply n_andF); rfl; rfl; decide +kernel) | ((with_reducible apply n_orT); rfl; rfl; decide +kernel) | ((with_reducible apply n_and); rfl; rfl; intro h) | ((with_reducible apply n_or); rfl; rfl; intro h) | with_reducible refine unrQ_normal ?_ | with_reducible refine unrQ_exit ?_ | with_reducible refine unrQ_ret ?_ | ((with_reducible apply n_call (f := 12)); rfl; rfl; exact hw) | ((with_reducible apply n_val); rfl; rfl) | ((with_reducible apply n_new); rfl; (first | (simp only [hn0, hn1, hn2, hn3, hn4, hn5, List.length_cons, List.length_nil, Nat.reduceAdd, Nat.zero_add]; first | done | rfl) | rfl); rfl) | ((with_reducible apply n_store); rfl; rfl; rfl; rfl; rfl) | ((with_reducible apply n_call (f := 39)); rfl; rfl; exact p_awake7) | (with_reducible refine condT_split (fun h => ?_) (fun h => ?_)) | ((with_reducible apply fnQ_told_ret); rfl) | ((with_reducible apply fnQ_ret_soft); rfl; rfl)
    all_goals rfl
  | true =>
    rw [hf] at hw
    have hp := few_fit hf
    have hs := p_Sane p hp
    cases sp : sane p with
    | false =>
      rw [sp] at hs
      refine Pure.fn hmix b5 ?_
      repeat' first | (with_reducible first | refine tr_seq ?_ | refine n_nil ?_ | refine seqQ_normal ?_ | refine seqQ_ret ?_ | refine blkQ_ret ?_ | refine tr_skip ?_ | refine tr_ret ?_ | refine condT_t ?_ | refine condT_f ?_) | ((with_reducible refine tr_region_f ?_ ?_); kernel_rfl) | exact ⟨rfl, rfl⟩ | ((with_reducible apply tr_cond_e); rfl) | ((with_reducible refine condT_T ?_ ?_); decide +kernel) | ((with_reducible refine condT_F ?_ ?_); decide +kernel) | ((with_reducible apply n_andF); rfl; rfl; decide +kernel) | ((with_reducible apply n_orT); rfl; rfl; decide +kernel) | ((with_reducible apply n_and); rfl; rfl; intro h) | ((with_reducible apply n_or); rfl; rfl; intro h) | with_reducible refine unrQ_normal ?_ | with_reducible refine unrQ_exit ?_ | with_reducible refine unrQ_ret ?_ | ((with_reducible apply n_call (f := 12)); rfl; rfl; exact hw) | ((with_reducible apply n_call (f := 13)); rfl; rfl; exact hs) | ((with_reducible apply n_val); rfl; rfl) | ((with_reducible apply n_new); rfl; (first | (simp only [hn0, hn1, hn2, hn3, hn4, hn5, List.length_cons, List.length_nil, Nat.reduceAdd, Nat.zero_add]; first | done | rfl) | rfl); rfl) | ((with_reducible apply n_store); rfl; rfl; rfl; rfl; rfl) | ((with_reducible apply n_call (f := 39)); rfl; rfl; exact p_awake7) | (with_reducible refine condT_split (fun h => ?_) (fun h => ?_)) | ((with_reducible apply fnQ_told_ret); rfl) | ((with_reducible apply fnQ_ret_soft); rfl; rfl)
      all_goals rfl
    | true =>
      rw [sp] at hs
      have h1 : Pure Go.Proofs.Tryz.prog glD 23 [pP p, .int .i64 f, .int .i64 b] (.tup [pB ((blkV p f b).getD B0), .bool (blkV p f b).isSome]) := p_Block p f b hp
      have h2 : Pure Go.Proofs.Tryz.prog glD 23 [pP p, .int .i64 f, .int .i64 to] (.tup [pB ((blkV p f to).getD B0), .bool (blkV p f to).isSome]) := p_Block p f to hp
      have h3 : Pure Go.Proofs.Tryz.prog glD 23 [pP p, .int .i64 f, .int .i64 ot] (.tup [pB ((blkV p f ot).getD B0), .bool (blkV p f ot).isSome]) := p_Block p f ot hp
      have k1 := p_edCheck p ⟨3, f, b, to, 0, 0, i0⟩ hf
      have k2 := p_edCheck p ⟨4, f, b, to, 0, 0, i0⟩ hf
      have k3 := p_edCheck p ⟨5, f, b, to, ot, 0, i0⟩ hf
      have k4 := p_edCheck p ⟨3, f, b, ot, 0, 0, i0⟩ hf
      have hA : (¬ (0 ≤ f ∧ f < (p.length : Nat)) ∧ (blkV p f b).isSome = false ∧ (blkV p f to).isSome = false ∧ cheV p ⟨3, f, b, to, 0, 0, i0⟩ = 1 ∧ cheV p ⟨4, f, b, to, 0, 0, i0⟩ = 1 ∧ cheV p ⟨5, f, b, to, ot, 0, i0⟩ = 1) ∨
          (cheV p ⟨3, f, b, to, 0, 0, i0⟩ = (if (!(blkV p f b).isSome || !(blkV p f to).isSome) = true then 2 else if edgV p f b to = true then 5 else 0) ∧
           cheV p ⟨4, f, b, to, 0, 0, i0⟩ = (if (!(blkV p f b).isSome || !(blkV p f to).isSome) = true then 2 else if (!edgV p f b to) = true then 5 else 0) ∧
           cheV p ⟨5, f, b, to, ot, 0, i0⟩ = (if (!(blkV p f b).isSome || (!(blkV p f to).isSome || !(blkV p f ot).isSome)) = true then 2 else if (!edgV p f b to || (!(ot == to) && edgV p f b ot)) = true then 5 else 0) ∧
           cheV p ⟨3, f, b, ot, 0, 0, i0⟩ = (if (!(blkV p f b).isSome || !(blkV p f ot).isSome) = true then 2 else if edgV p f b ot = true then 5 else 0)) := by
        by_cases hr : 0 ≤ f ∧ f < (p.length : Nat)
        · refine .inr ⟨?_, ?_, ?_, ?_⟩
          · rw [chk_in sp (by simp) hr]
            have e : othV p ⟨3, f, b, to, 0, 0, i0⟩ = if (!(blkV p f b).isSome || (!(blkV p f to).isSome || false)) = true then 2 else if edgV p f b to = true then 5 else 0 := rfl
            rw [e, Bool.or_false]
          · rw [chk_in sp (by simp) hr]
            have e : othV p ⟨4, f, b, to, 0, 0, i0⟩ = if (!(blkV p f b).isSome || (!(blkV p f to).isSome || false)) = true then 2 else if (!edgV p f b to) = true then 5 else 0 := rfl
            rw [e, Bool.or_false]
          · rw [chk_in sp (by simp) hr]
            have e : othV p ⟨5, f, b, to, ot, 0, i0⟩ = if (!(blkV p f b).isSome || (!(blkV p f to).isSome || (!(blkV p f ot).isSome || false))) = true then 2 else if (!edgV p f b to || (ot != to && edgV p f b ot)) = true then 5 else 0 := rfl
            rw [e, Bool.or_false]; rfl
          · rw [chk_in sp (by simp) hr]
            have e : othV p ⟨3, f, b, ot, 0, 0, i0⟩ = if (!(blkV p f b).isSome || (!(blkV p f ot).isSome || false)) = true then 2 else if edgV p f b ot = true then 5 else 0 := rfl
            rw [e, Bool.or_false]
        · exact .inl ⟨hr, blk_none hr b, blk_none hr to, chk_no sp (by simp) hr, chk_no sp (by simp) hr, chk_no sp (by simp) hr⟩
      have hD : (ot == to) = true → (blkV p f ot).isSome = (blkV p f to).isSome ∧ edgV p f b ot = edgV p f b to := fun h => by rw [beq_iff_eq] at h; rw [h]; exact ⟨rfl, rfl⟩
      generalize cheV p ⟨3, f, b, to, 0, 0, i0⟩ = c1 at *
      generalize cheV p ⟨4, f, b, to, 0, 0, i0⟩ = c2 at *
      generalize cheV p ⟨5, f, b, to, ot, 0, i0⟩ = c3 at *
      generalize cheV p ⟨3, f, b, ot, 0, 0, i0⟩ = c4 at *
      refine Pure.fn hmix b5 ?_
      repeat' first | (with_reducible first | refine tr_seq ?_ | refine n_nil ?_ | refine seqQ_normal ?_ | refine seqQ_ret ?_ | refine blkQ_ret ?_ | refine tr_skip ?_ | refine tr_ret ?_ | refine condT_t ?_ | refine condT_f ?_) | ((with_reducible refine tr_region_f ?_ ?_); kernel_rfl) | exact ⟨rfl, rfl⟩ | ((with_reducible apply tr_cond_e); rfl) | ((with_reducible refine condT_T ?_ ?_); exact rfl) | ((with_reducible refine condT_F ?_ ?_); exact rfl) | ((with_reducible apply n_and); rfl; rfl; intro h) | ((with_reducible apply n_or); rfl; rfl; intro h) | ((with_reducible apply n_call (f := 12)); rfl; rfl; exact hw) | ((with_reducible apply n_call (f := 13)); rfl; rfl; exact hs) | ((with_reducible apply n_call (f := 23)); rfl; rfl; (first | exact h1 | exact h2 | exact h3)) | ((with_reducible apply n_call (f := 40)); rfl; rfl; (first | exact k1 | exact k2 | exact k3 | exact k4)) | ((with_reducible apply n_val); rfl; rfl) | ((with_reducible apply n_new); rfl; (first | (simp only [hn0, hn1, hn2, hn3, hn4, hn5, List.length_cons, List.length_nil, Nat.reduceAdd, Nat.zero_add]; first | done | rfl) | rfl); rfl) | ((with_reducible apply n_store); rfl; rfl; rfl; rfl; rfl) | ((with_reducible apply n_call (f := 39)); rfl; rfl; exact p_awake7) | (with_reducible refine condT_split (fun h => ?_) (fun h => ?_)) | ((with_reducible apply fnQ_told_ret); rfl) | ((with_reducible apply fnQ_ret_soft); rfl; rfl)
      all_goals (clear hw hs h1 h2 h3 k1 k2 k3 k4)
      · refine congrArg PV.bool ?_
        rcases hA with ⟨_, a1, a2, rfl, rfl, rfl⟩ | ⟨rfl, rfl, rfl, rfl⟩
        · rfl
        · revert h hD
          generalize (blkV p f b).isSome = A; generalize (blkV p f to).isSome = B; generalize (blkV p f ot).isSome = C; generalize edgV p f b to = E1; generalize edgV p f b ot = E2; generalize (ot == to) = D
          revert A B C E1 E2 D; decide
      · exfalso
        rename (!_ || !_) = false => hq
        rcases hA with ⟨_, a1, a2, rfl, rfl, rfl⟩ | ⟨rfl, rfl, rfl, rfl⟩
        · rw [a1] at hq; cases hq
        · revert h hq
          generalize (blkV p f b).isSome = A; generalize (blkV p f to).isSome = B; generalize edgV p f b to = E1
          revert A B E1; decide
      · refine congrArg PV.bool ?_
        rename (!_ || !_) = false => hq
        rcases hA with ⟨_, a1, a2, rfl, rfl, rfl⟩ | ⟨rfl, rfl, rfl, rfl⟩
        · rw [a1] at hq; cases hq
        · clear h
          revert hq hD
          generalize (blkV p f b).isSome = A; generalize (blkV p f to).isSome = B; generalize (blkV p f ot).isSome = C; generalize edgV p f b to = E1; generalize edgV p f b ot = E2; generalize (ot == to) = D
          revert A B C E1 E2 D; decide
theorem firstV_zero {l : List (Int × Bool)} (h : ∀ q ∈ l, q.1 ≠ 0) : (firstV l == 0) = l.all fun q => !q.2 := by
  induction l with
  | nil => rfl
  | cons q r ih =>
    obtain ⟨e, b⟩ := q
    rw [firstV_cons, List.all_cons, ← ih fun q hq => h q (List.mem_cons_of_mem _ hq)]
    have := h (e, b) List.mem_cons_self
    cases b
    · simp
    · simpa using this
theorem all_any {l : List Int} {v : Int} : (l.all fun x => decide (x < v)) = !l.any fun x => decide (x ≥ v) := by
  induction l with
  | nil => rfl
  | cons a r ih =>
    rw [List.all_cons, List.any_cons, ih, Bool.not_or]
    congr 1
    rw [Bool.eq_iff_iff]
    simp
theorem fun_in {p : List Fn} {f : Int} (sp : sane p = true) (h : 0 ≤ f ∧ f < (p.length : Nat)) : funV p f = some (p.getD f.toNat F0) := by rw [funV, if_pos ⟨sp, h⟩]
theorem call_eq {p : List Fn} {i : In} (sp : sane p = true) (hF : form i = true) : (!(i.kind == 7 && decide (i.f ≥ (p.length : Nat))) && !(i.kind == 7 && (p.getD i.f.toNat F0).ar != i.n)) = (!(i.kind == 7) || ((funV p i.f).isSome && ((funV p i.f).getD F0).ar == i.n)) := by
  cases hk : i.kind == 7 with
  | false => rfl
  | true =>
    have h0 := form_call hF (by simpa using hk)
    by_cases h : i.f < (p.length : Nat)
    · rw [fun_in sp ⟨h0, h⟩, decide_eq_false (by omega)]
      simp [bne]
    · rw [fun_none (by omega), decide_eq_true (by omega)]; rfl
theorem ins_zero {p : List Fn} {f b pos : Int} {i : In} (sp : sane p = true) : (cheV p ⟨6, f, b, 0, 0, pos, i⟩ == 0) = ((funV p f).isSome && (blkV p f b).isSome && decide (pos ≥ 0) && decide (pos ≤ (((blkV p f b).getD B0).code.length : Nat)) && i.id == 0 && form i && decide ((((blkV p f b).getD B0).code.length : Int) < 16) && decide (newIdV p ≥ 0) && ((varsI i).all fun x => decide (x < ((funV p f).getD F0).vs)) && (!(i.kind == 7) || ((funV p i.f).isSome && ((funV p i.f).getD F0).ar == i.n))) := by
  by_cases hr : 0 ≤ f ∧ f < (p.length : Nat)
  · have hv : cheV p ⟨6, f, b, 0, 0, pos, i⟩ = firstV [(2, !(blkV p f b).isSome || false), (3, decide (pos < 0) || decide (pos > ((codeV p f b).length : Nat))), (9, i.id != 0 || !form i), (4, (varsI i).any fun v => decide (v ≥ (p.getD f.toNat F0).vs)), (1, i.kind == 7 && decide (i.f ≥ (p.length : Nat))), (7, i.kind == 7 && (p.getD i.f.toNat F0).ar != i.n), (8, decide (((codeV p f b).length : Int) ≥ 16) || decide (newIdV p < 0))] := by
      rw [chk_in sp (by simp) hr]; rfl
    have e1 : (!(decide (pos < 0) || decide (pos > ((codeV p f b).length : Nat)))) = (decide (pos ≥ 0) && decide (pos ≤ ((codeV p f b).length : Nat))) := by
      rw [Bool.eq_iff_iff]; simp only [Bool.not_eq_true', Bool.or_eq_false_iff, Bool.and_eq_true, decide_eq_true_eq, decide_eq_false_iff_not]; omega
    have e4 : (!(decide (((codeV p f b).length : Int) ≥ 16) || decide (newIdV p < 0))) = (decide (((codeV p f b).length : Int) < 16) && decide (newIdV p ≥ 0)) := by
      rw [Bool.eq_iff_iff]; simp only [Bool.not_eq_true', Bool.or_eq_false_iff, Bool.and_eq_true, decide_eq_true_eq, decide_eq_false_iff_not]; omega
    have e2 : (!(i.id != 0 || !form i)) = (i.id == 0 && form i) := by rw [bne]; cases i.id == 0 <;> cases form i <;> rfl
    rw [hv, firstV_zero (by simp)]
    simp only [List.all_cons, List.all_nil, Bool.and_true, e1, e2, e4, Bool.or_false, Bool.not_not]
    rw [fun_in sp hr]
    simp only [Option.isSome_some, Option.getD_some, Bool.true_and, all_any]
    cases hF : form i with
    | false => simp
    | true =>
      have e5 := call_eq sp hF
      rw [← e5]
      simp only [codeV, Bool.and_true]
      ac_rfl
  · rw [chk_no sp (by simp) hr, fun_none hr]; rfl
theorem l_EditInsert (p : List Fn) (f b pos : Int) (i : In) : Pure Go.Proofs.Tryz.prog glD 7 [pP p, .int .i64 f, .int .i64 b, .int .i64 pos, pI i] (.bool true) := by
  have hw := p_Few (gl := glD) p
  cases hf : few p with
  | false =>
    rw [hf] at hw
    refine Pure.fn hmix b7 ?_
    repeat' first | (with_reducible first | refine tr_seq ?_ | refine n_nil ?_ | refine seqQ_normal ?_ | refine seqQ_exit ?_ | refine seqQ_ret ?_ | refine blkQ_normal ?_ | refine blkQ_exit ?_ | refine blkQ_ret ?_ | refine tr_block ?_ | refine tr_skip ?_ | refine tr_exit ?_ | refine tr_ret ?_ | refine condT_t ?_ | refine condT_f ?_ | refine loopV_exit ?_ | refine loopV_ret ?_) | ((with_reducible refine tr_region_f ?_ ?_); kernel_rfl) | ((with_reducible refine tr_region_t ?_ ?_ ?_); kernel_rfl; kernel_rfl) | exact ⟨rfl, rfl⟩ | ((with_reducible refine blkQ_exit_ne ?_ ?_); rfl) | ((with_reducible apply tr_cond_e); rfl) | ((with_reducible refine condT_T ?_ ?_); decide +kernel) | ((with_reducible refine condT_F ?_ ?_); decide +kernel) | ((with_reducible apply n_andF); rfl; rfl; decide +kernel) | ((with_reducible apply n_orT); rfl; rfl; decide +kernel) | ((with_reducible apply n_and); rfl; rfl; intro h) | ((with_reducible apply n_or); rfl; rfl; intro h) | with_reducible refine unrQ_normal ?_ | with_reducible refine unrQ_exit ?_ | with_reducible refine unrQ_ret ?_ | ((with_reducible apply n_call (f := 12)); rfl; rfl; exact hw) | ((with_reducible apply n_val); rfl; rfl) | ((with_reducible apply n_new); rfl; (first | (simp only [hn0, hn1, hn2, hn3, hn4, hn5, List.length_cons, List.length_nil, Nat.reduceAdd, Nat.zero_add]; first | done | rfl) | rfl); rfl) | ((with_reducible apply n_store); rfl; rfl; rfl; rfl; rfl) | ((with_reducible apply n_call (f := 39)); rfl; rfl; exact p_awake7) | (with_reducible refine condT_split (fun h => ?_) (fun h => ?_)) | ((with_reducible apply fnQ_told_ret); rfl) | ((with_reducible apply fnQ_ret_soft); rfl; rfl)
    all_goals rfl
  | true =>
    rw [hf] at hw
    have hp := few_fit hf
    have hs := p_Sane p hp
    cases sp : sane p with
    | false =>
      rw [sp] at hs
      refine Pure.fn hmix b7 ?_
      repeat' first | (with_reducible first | refine tr_seq ?_ | refine n_nil ?_ | refine seqQ_normal ?_ | refine seqQ_exit ?_ | refine seqQ_ret ?_ | refine blkQ_normal ?_ | refine blkQ_exit ?_ | refine blkQ_ret ?_ | refine tr_block ?_ | refine tr_skip ?_ | refine tr_exit ?_ | refine tr_ret ?_ | refine condT_t ?_ | refine condT_f ?_ | refine loopV_exit ?_ | refine loopV_ret ?_) | ((with_reducible refine tr_region_f ?_ ?_); kernel_rfl) | ((with_reducible refine tr_region_t ?_ ?_ ?_); kernel_rfl; kernel_rfl) | exact ⟨rfl, rfl⟩ | ((with_reducible refine blkQ_exit_ne ?_ ?_); rfl) | ((with_reducible apply tr_cond_e); rfl) | ((with_reducible refine condT_T ?_ ?_); decide +kernel) | ((with_reducible refine condT_F ?_ ?_); decide +kernel) | ((with_reducible apply n_andF); rfl; rfl; decide +kernel) | ((with_reducible apply n_orT); rfl; rfl; decide +kernel) | ((with_reducible apply n_and); rfl; rfl; intro h) | ((with_reducible apply n_or); rfl; rfl; intro h) | with_reducible refine unrQ_normal ?_ | with_reducible refine unrQ_exit ?_ | with_reducible refine unrQ_ret ?_ | ((with_reducible apply n_call (f := 12)); rfl; rfl; exact hw) | ((with_reducible apply n_call (f := 13)); rfl; rfl; exact hs) | ((with_reducible apply n_val); rfl; rfl) | ((with_reducible apply n_new); rfl; (first | (simp only [hn0, hn1, hn2, hn3, hn4, hn5, List.length_cons, List.length_nil, Nat.reduceAdd, Nat.zero_add]; first | done | rfl) | rfl); rfl) | ((with_reducible apply n_store); rfl; rfl; rfl; rfl; rfl) | ((with_reducible apply n_call (f := 39)); rfl; rfl; exact p_awake7) | (with_reducible refine condT_split (fun h => ?_) (fun h => ?_)) | ((with_reducible apply fnQ_told_ret); rfl) | ((with_reducible apply fnQ_ret_soft); rfl; rfl)
      all_goals rfl
    | true =>
      rw [sp] at hs
      have h0 : Pure Go.Proofs.Tryz.prog glD 21 [pP p, .int .i64 f] (.tup [pF ((funV p f).getD F0), .bool (funV p f).isSome]) := p_Fun p f hp
      have h1 : Pure Go.Proofs.Tryz.prog glD 23 [pP p, .int .i64 f, .int .i64 b] (.tup [pB ((blkV p f b).getD B0), .bool (blkV p f b).isSome]) := p_Block p f b hp
      have h2 : Pure Go.Proofs.Tryz.prog glD 21 [pP p, .int .i64 i.f] (.tup [pF ((funV p i.f).getD F0), .bool (funV p i.f).isSome]) := p_Fun p i.f hp
      have h3 := p_Form i
      have h4 := p_Vars i
      have h5 := p_NewId p hp
      have h6 := vars_len5 i
      have k1 := p_edCheck p ⟨6, f, b, 0, 0, pos, i⟩ hf
      refine Pure.fn hmix b7 ?_
      repeat' first | (with_reducible first | refine tr_seq ?_ | refine n_nil ?_ | refine seqQ_normal ?_ | refine seqQ_exit ?_ | refine seqQ_ret ?_ | refine blkQ_normal ?_ | refine blkQ_exit ?_ | refine blkQ_ret ?_ | refine tr_block ?_ | refine tr_skip ?_ | refine tr_exit ?_ | refine tr_ret ?_ | refine condT_t ?_ | refine condT_f ?_ | refine loopV_exit ?_ | refine loopV_ret ?_) | ((with_reducible refine tr_region_f ?_ ?_); kernel_rfl) | ((with_reducible refine tr_region_t ?_ ?_ ?_); kernel_rfl; kernel_rfl) | exact ⟨rfl, rfl⟩ | ((with_reducible refine blkQ_exit_ne ?_ ?_); rfl) | ((with_reducible apply tr_cond_e); rfl) | ((with_reducible refine condT_T ?_ ?_); exact rfl) | ((with_reducible refine condT_F ?_ ?_); exact rfl) | ((with_reducible apply n_and); rfl; rfl; intro h) | ((with_reducible apply n_or); rfl; rfl; intro h) | ((with_reducible apply n_call (f := 12)); rfl; rfl; exact hw) | ((with_reducible apply n_call (f := 13)); rfl; rfl; exact hs) | ((with_reducible apply n_call (f := 21)); rfl; rfl; (first | exact h0 | exact h2)) | ((with_reducible apply n_call (f := 23)); rfl; rfl; exact h1) | ((with_reducible apply n_call (f := 41)); rfl; rfl; exact h3) | ((with_reducible apply n_call (f := 17)); rfl; rfl; exact h4) | ((with_reducible apply n_call (f := 35)); rfl; rfl; exact h5) | ((with_reducible apply n_call (f := 40)); rfl; rfl; exact k1) | ((with_reducible apply n_idx_ints); rfl; rfl; (first | omega | decide | (simp only [zz] at *; omega))) | (first | ((with_reducible apply n_bin); rfl; rfl; focus ((with_reducible (first | apply b_add | apply b_sub)) <;> first | omega | decide | (simp only [zz] at *; omega))) | ((with_reducible apply n_max); rfl; rfl) | ((with_reducible apply n_min); rfl; rfl)) | (refine tr_loop_v (α := Nat × Bool) 4 (fun | (k, g) => [(16, some (.bool g)), (18, some (.int .i64 (k : Int))), (82, none), (83, none), (84, none), (85, none), (88, none), (89, none), (90, none), (91, none), (92, none), (93, none), (94, none), (95, none), (96, none), (97, none), (86, none), (87, none)]) (fun | (k, g) => [some ⟨0, 1, [pP p]⟩, some ⟨0, 11, [pI i]⟩, some ⟨0, 3, [pF ((funV p f).getD F0)]⟩, some ⟨0, 3, [pB ((blkV p f b).getD B0)]⟩]) (fun | (k, g) => k ≤ (varsI i).length ∧ g = ((funV p f).isSome && (blkV p f b).isSome && decide (pos ≥ 0) && decide (pos ≤ ((((blkV p f b).getD B0).code.map pI).length : Nat)) && i.id == 0 && form i && decide (((((blkV p f b).getD B0).code.map pI).length : Int) < 16) && decide (newIdV p ≥ 0) && ((varsI i).take k).all fun x => decide (x < ((funV p f).getD F0).vs)) ∧ (varsI i).length ≤ 100000) (fun | (k, g) => (varsI i).length - k) ((0, (funV p f).isSome && (blkV p f b).isSome && decide (pos ≥ 0) && decide (pos ≤ ((((blkV p f b).getD B0).code.map pI).length : Nat)) && i.id == 0 && form i && decide (((((blkV p f b).getD B0).code.map pI).length : Int) < 16) && decide (newIdV p ≥ 0))) (ks := [16, 18, 82, 83, 84, 85, 88, 89, 90, 91, 92, 93, 94, 95, 96, 97, 86, 87]) (fun _ => rfl) (fun _ => rfl) rfl (by omega) ?_ ⟨⟨_, rfl, rfl⟩, ⟨_, rfl, rfl⟩, trivial⟩ ⟨⟨_, rfl, rfl, rfl, rfl⟩, ⟨_, rfl, rfl, rfl, rfl⟩, ⟨_, rfl, rfl, rfl, rfl⟩, ⟨_, rfl, rfl, rfl, rfl⟩, trivial⟩ ?_; rotate_left; rintro ⟨k, g⟩ hx; try dsimp only at hx) | ((first | (refine loopV_normal ((k + 1, g && decide ((varsI i).getD k 0 < ((funV p f).getD F0).vs))) ?_ ⟨⟨_, rfl, rfl⟩, ⟨_, rfl, rfl⟩, trivial⟩ ⟨⟨_, rfl, rfl, rfl, rfl⟩, ⟨_, rfl, rfl, rfl, rfl⟩, ⟨_, rfl, rfl, rfl, rfl⟩, ⟨_, rfl, rfl, rfl, rfl⟩, trivial⟩ ?_ ?_)); repeat (first | exact only_refl | refine only_put rfl ?_ | refine only_less rfl ?_ | refine only_ov rfl ?_)) | ((with_reducible apply n_val); rfl; rfl) | ((with_reducible apply n_new); rfl; (first | (simp only [hn0, hn1, hn2, hn3, hn4, hn5, List.length_cons, List.length_nil, Nat.reduceAdd, Nat.zero_add]; first | done | rfl) | rfl); rfl) | ((with_reducible apply n_store); rfl; rfl; rfl; rfl; rfl) | ((with_reducible apply n_call (f := 39)); rfl; rfl; exact p_awake7) | (with_reducible refine condT_split (fun h => ?_) (fun h => ?_)) | ((with_reducible apply fnQ_told_ret); rfl) | ((with_reducible apply fnQ_ret_soft); rfl; rfl)
      all_goals (clear hw hs h0 h1 h2 h3 h4 h5 k1)
      all_goals (try dsimp only at *)
      all_goals (try simp only [decide_eq_true_eq, decide_eq_false_iff_not, List.length_map, ints_length, Int.toNat_natCast] at *)
      · omega
      · refine ⟨by omega, ?_, hx.2.2⟩
        have ht : (varsI i).take (k + 1) = (varsI i).take k ++ [(varsI i).getD k 0] := by
          have hk : k < (varsI i).length := by omega
          rw [List.take_add_one, List.getElem?_eq_getElem hk, List.getD_eq_getElem?_getD, List.getElem?_eq_getElem hk]; rfl
        rw [ht, List.all_append, List.all_cons, List.all_nil, Bool.and_true, hx.2.1]
        simp only [Bool.and_assoc]
      · refine congrArg PV.bool ?_
        rename (_ == _) = true => hk
        have e : k = (varsI i).length := by omega
        have hg := hx.2.1
        rw [e, List.take_length] at hg
        rw [ins_zero sp, hg, hk]
        simp only [Bool.not_true, Bool.false_or, Bool.true_and, Bool.and_assoc, beq_self_eq_true]
      · refine congrArg PV.bool ?_
        rename (_ == _) = false => hk
        have e : k = (varsI i).length := by omega
        have hg := hx.2.1
        rw [e, List.take_length] at hg
        rw [ins_zero sp, hg, hk]
        simp only [Bool.not_false, Bool.true_or, Bool.true_and, Bool.and_true, Bool.and_assoc, beq_self_eq_true]
      · exact ⟨Nat.zero_le _, by rw [List.take_zero, List.all_nil, Bool.and_true], h6⟩
end Go.Vm
end
