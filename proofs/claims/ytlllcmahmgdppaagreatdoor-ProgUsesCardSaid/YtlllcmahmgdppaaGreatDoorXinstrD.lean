/- Laid. -/
import Derived.Test.YtlllcmahmgdppaaGreatDoorVmThree
import Derived.KernelRfl
import Derived.Test.YtlllcmahmgdppaaGreatDoorProg
import Derived.Test.YtlllcmahmgdppaaGreatDoorXinstrC
section
/- Code. -/
set_option maxRecDepth 100000
set_option linter.unusedSimpArgs false
set_option linter.unusedVariables false
namespace Go.Vm
open Go
def c57 : RFn := ⟨(.seq (rf (.o 2 (.box (.t 0)) (.o 4 (.move (.c (.bool false))) .nil))) (.seq (rf (.o 5 (.fieldAddr 1 (.t 2)) (.o 6 (.load none (.t 5)) (.o 7 (.call 85 [(.t 6)]) (.o 8 (.m 1) (.o 9 (.call 84 [(.t 7), (.t 8)]) (.o 4 (.m 9) .nil))))))) .ret)), [.tmp 4]⟩
theorem b57 : fnOf Go.Proofs.Tryz.prog (owOf []) 57 = some c57 := by kernel_rfl
def c84 : RFn := ⟨(.seq (rf (.o 4 (.move (.c (.bool false))) .nil)) (.seq (rf (.o 5 (.m 0) (.o 6 (.m 1) (.o 7 (.call 124 [(.t 5), (.t 6)]) (.o 8 (.bin .geq (.t 7) (.i 0)) (.o 4 (.m 8) .nil)))))) .ret)), [.tmp 4]⟩
theorem b84 : fnOf Go.Proofs.Tryz.prog (owOf []) 84 = some c84 := by kernel_rfl
def c104 : RFn := ⟨(.seq (rf (.o 1 (.box (.t 0)) (.o 2 (.alloc (.agg [(.int .i64 0), (.int .i64 0), (.int .i64 0), (.int .i64 0), (.int .i64 0), (.int .i64 0), (.int .i64 0), (.int .i64 0), (.int .i64 0), (.int .i64 0), (.int .i64 0)])) .nil))) (.seq (rf (.o 3 (.fieldAddr 0 (.t 1)) (.op none (.store 1 (.t 3) (.i 0)) 0 (.o 4 (.fieldAddr 1 (.t 1)) (.op none (.store 1 (.t 4) (.i 0)) 0 .nil))))) (.seq (rf (.o 5 (.load (some 11) (.t 1)) (.op none (.store 11 (.t 2) (.t 5)) 0 .nil))) .ret))), [.cell (some 11) 2]⟩
theorem b104 : fnOf Go.Proofs.Tryz.prog (owOf []) 104 = some c104 := by kernel_rfl
def c124 : RFn := ⟨(.seq (rf (.o 4 (.move (.i 0)) .nil)) (.seq (rf (.o 5 (.m 0) (.o 6 (.m 1) (.o 7 (.call 151 [(.t 5), (.t 6)]) (.o 4 (.m 7) .nil))))) .ret)), [.tmp 4]⟩
theorem b124 : fnOf Go.Proofs.Tryz.prog (owOf []) 124 = some c124 := by kernel_rfl
def c151 : RFn := ⟨(.seq (rf (.o 4 (.move (.i 0)) .nil)) (.seq (rf (.o 14 (.m 1) (.o 15 (.len true (.t 14)) (.o 5 (.m 15) .nil)))) (.seq (.block 0 (.seq (rf (.o 17 (.m 5) (.o 18 (.bin .eql (.t 17) (.i 0)) (.o 19 (.m 18) (.grd 19 false (.o 20 (.m 1) (.o 21 (.m 0) (.o 22 (.bin .eql (.t 20) (.t 21)) .nil))) (.o 23 (.pick (.t 19) (.c (.bool true)) (.t 22)) (.o 16 (.m 23) .nil))))))) (.cond (.t 16) (.seq (rf (.o 4 (.move (.i 0)) .nil)) .ret) (.seq (rf (.o 25 (.m 5) (.o 26 (.bin .eql (.t 25) (.i 1)) (.o 24 (.m 26) .nil)))) (.cond (.t 24) (.seq (rf (.o 27 (.m 0) (.o 28 (.m 1) (.o 29 (.prim .sidx [(.t 28), (.i 0)]) (.o 30 (.call 160 [(.t 27), (.t 29)]) (.o 4 (.m 30) .nil)))))) .ret) (.seq (rf (.o 32 (.m 5) (.o 33 (.m 0) (.o 34 (.len true (.t 33)) (.o 35 (.bin .geq (.t 32) (.t 34)) (.o 31 (.m 35) .nil)))))) (.cond (.t 31) (.seq (rf (.o 4 (.move (.c (.int .i64 (-1)))) .nil)) .ret) (.seq (rf (.o 37 (.m 5) (.o 38 (.load none (.g 3)) (.o 39 (.bin .leq (.t 37) (.t 38)) (.o 40 (.m 39) (.grd 40 true (.o 41 (.m 0) (.o 42 (.len true (.t 41)) (.o 43 (.bin .leq (.t 42) (.i 64)) .nil))) (.o 44 (.pick (.t 40) (.t 43) (.c (.bool false))) (.o 36 (.m 44) .nil)))))))) (.cond (.t 36) (.seq (rf (.o 45 (.m 0) (.o 46 (.m 1) (.o 47 (.nope) (.o 4 (.m 47) .nil))))) .ret) .skip))))))))) (.seq (rf (.o 48 (.m 1) (.o 49 (.prim .sidx [(.t 48), (.i 0)]) (.o 6 (.m 49) .nil)))) (.seq (rf (.o 50 (.m 1) (.o 51 (.prim .sidx [(.t 50), (.i 1)]) (.o 7 (.m 51) .nil)))) (.seq (rf (.o 8 (.move (.i 0)) .nil)) (.seq (rf (.o 52 (.m 0) (.o 53 (.len true (.t 52)) (.o 54 (.m 5) (.o 55 (.bin .sub (.t 53) (.t 54)) (.o 56 (.bin .add (.t 55) (.i 1)) (.o 9 (.m 56) .nil))))))) (.seq (rf (.o 10 (.move (.i 0)) .nil)) (.seq (.block 1 (.loop (.seq (.seq (rf (.o 57 (.m 8) (.o 58 (.m 9) (.o 59 (.bin .lss (.t 57) (.t 58)) .nil)))) (.cond (.t 59) .skip (.exit 1))) (.block 2 (.seq (.seq (rf (.o 60 (.m 0) (.o 61 (.m 8) (.o 62 (.prim .sidx [(.t 60), (.t 61)]) (.o 63 (.m 6) (.o 64 (.bin .neq (.t 62) (.t 63)) .nil)))))) (.cond (.t 64) (.seq (rf (.o 65 (.m 0) (.o 66 (.m 8) (.o 67 (.bin .add (.t 66) (.i 1)) (.o 68 (.m 9) (.o 69 (.prim (.sliceStr true true) [(.t 65), (.t 67), (.t 68)]) (.o 70 (.m 6) (.o 71 (.call 160 [(.t 69), (.t 70)]) (.o 11 (.m 71) .nil))))))))) (.seq (.seq (rf (.o 72 (.m 11) (.o 73 (.bin .lss (.t 72) (.i 0)) .nil))) (.cond (.t 73) (.seq (rf (.o 4 (.move (.c (.int .i64 (-1)))) .nil)) .ret) .skip)) (rf (.o 74 (.m 8) (.o 75 (.m 11) (.o 76 (.bin .add (.t 75) (.i 1)) (.o 77 (.bin .add (.t 74) (.t 76)) (.o 8 (.m 77) .nil)))))))) .skip)) (.seq (.seq (rf (.o 78 (.m 0) (.o 79 (.m 8) (.o 80 (.bin .add (.t 79) (.i 1)) (.o 81 (.prim .sidx [(.t 78), (.t 80)]) (.o 82 (.m 7) (.o 83 (.bin .eql (.t 81) (.t 82)) (.o 84 (.m 83) (.grd 84 true (.o 85 (.m 0) (.o 86 (.m 8) (.o 87 (.m 8) (.o 88 (.m 5) (.o 89 (.bin .add (.t 87) (.t 88)) (.o 90 (.prim (.sliceStr true true) [(.t 85), (.t 86), (.t 89)]) (.o 91 (.m 1) (.o 92 (.bin .eql (.t 90) (.t 91)) .nil)))))))) (.o 93 (.pick (.t 84) (.t 92) (.c (.bool false))) .nil)))))))))) (.cond (.t 93) (.seq (rf (.o 94 (.m 8) (.o 4 (.m 94) .nil))) .ret) .skip)) (.seq (rf (.o 95 (.m 8) (.o 96 (.bin .add (.t 95) (.i 1)) (.o 8 (.m 96) .nil)))) (.seq (rf (.o 97 (.m 10) (.o 98 (.bin .add (.t 97) (.i 1)) (.o 10 (.m 98) .nil)))) (.seq (rf (.o 99 (.m 5) (.o 100 (.load none (.g 3)) (.o 101 (.bin .leq (.t 99) (.t 100)) (.o 102 (.m 101) (.grd 102 true (.o 103 (.m 10) (.o 104 (.m 8) (.o 105 (.call 162 [(.t 104)]) (.o 106 (.bin .gtr (.t 103) (.t 105)) .nil)))) (.o 107 (.pick (.t 102) (.t 106) (.c (.bool false))) .nil))))))) (.cond (.t 107) (.seq (rf (.o 108 (.m 0) (.o 109 (.m 8) (.o 110 (.prim (.sliceStr true false) [(.t 108), (.t 109)]) (.o 111 (.m 1) (.o 112 (.nope) (.o 12 (.m 112) .nil))))))) (.seq (.seq (rf (.o 113 (.m 12) (.o 114 (.bin .geq (.t 113) (.i 0)) .nil))) (.cond (.t 114) (.seq (rf (.o 115 (.m 12) (.o 116 (.m 8) (.o 117 (.bin .add (.t 115) (.t 116)) (.o 4 (.m 117) .nil))))) .ret) .skip)) (.seq (rf (.o 4 (.move (.c (.int .i64 (-1)))) .nil)) .ret))) (.seq (rf (.o 118 (.m 5) (.o 119 (.load none (.g 3)) (.o 120 (.bin .gtr (.t 118) (.t 119)) (.o 121 (.m 120) (.grd 121 true (.o 122 (.m 10) (.o 123 (.m 8) (.o 124 (.bin .shr (.t 123) (.c (.int .u64 4))) (.o 125 (.bin .add (.i 4) (.t 124)) (.o 126 (.bin .geq (.t 122) (.t 125)) .nil))))) (.o 127 (.pick (.t 121) (.t 126) (.c (.bool false))) (.o 128 (.m 127) (.grd 128 true (.o 129 (.m 8) (.o 130 (.m 9) (.o 131 (.bin .lss (.t 129) (.t 130)) .nil))) (.o 132 (.pick (.t 128) (.t 131) (.c (.bool false))) .nil)))))))))) (.cond (.t 132) (.seq (rf (.o 133 (.m 0) (.o 134 (.m 8) (.o 135 (.prim (.sliceStr true false) [(.t 133), (.t 134)]) (.o 136 (.m 1) (.o 137 (.call 163 [(.t 135), (.t 136)]) (.o 13 (.m 137) .nil))))))) (.seq (.seq (rf (.o 138 (.m 13) (.o 139 (.bin .lss (.t 138) (.i 0)) .nil))) (.cond (.t 139) (.seq (rf (.o 4 (.move (.c (.int .i64 (-1)))) .nil)) .ret) .skip)) (.seq (rf (.o 140 (.m 8) (.o 141 (.m 13) (.o 142 (.bin .add (.t 140) (.t 141)) (.o 4 (.m 142) .nil))))) .ret))) .skip)))))))))))) (.seq (rf (.o 4 (.move (.c (.int .i64 (-1)))) .nil)) .ret)))))))))), [.tmp 4]⟩
theorem b151 : fnOf Go.Proofs.Tryz.prog (owOf []) 151 = some c151 := by kernel_rfl
end Go.Vm
end
section
/- Walks. -/
set_option maxRecDepth 100000
set_option linter.unusedSimpArgs false
set_option linter.unusedVariables false
namespace Go.Vm
open Go
set_option maxHeartbeats 4000000
theorem idx_self (b : UInt8) : Lib.indexByte [b] b = 0 := by simp [Lib.indexByte]
theorem p_slIndexC (s : ByteArray) (b : UInt8) (h1 : (((⟨#[b]⟩ : ByteArray).size : Int) == 0 || (⟨#[b]⟩ : ByteArray).toList == s.toList) = decide (s.data.toList = [b])) : Pure Go.Proofs.Tryz.prog glD 151 [.str s, .str ⟨#[b]⟩] (.int .i64 (Lib.indexByte s.data.toList b)) := by
  have hi := p_IndexByte (gl := glD) s (b.toNat : Int)
  have eb : ((b.toNat : Int)).toNat.toUInt8 = b := by simp
  rw [eb] at hi
  refine Pure.fn hmix b151 ?_
  repeat' first | (with_reducible first | refine tr_seq ?_ | refine n_nil ?_ | refine seqQ_normal ?_ | refine seqQ_exit ?_ | refine seqQ_ret ?_ | refine blkQ_normal ?_ | refine blkQ_exit ?_ | refine blkQ_ret ?_ | refine tr_block ?_ | refine tr_skip ?_ | refine tr_exit ?_ | refine tr_ret ?_ | refine condT_t ?_ | refine condT_f ?_ | refine loopV_exit ?_ | refine loopV_ret ?_) | ((with_reducible refine tr_region_f ?_ ?_); kernel_rfl) | exact ⟨rfl, rfl⟩ | ((with_reducible refine blkQ_exit_ne ?_ ?_); rfl) | ((with_reducible apply tr_cond_e); rfl) | ((with_reducible apply n_and); rfl; rfl; intro h) | ((with_reducible apply n_or); rfl; rfl; intro h) | ((with_reducible apply n_call (f := 160)); rfl; rfl; exact hi) | ((with_reducible apply n_val); rfl; rfl) | ((with_reducible apply n_nope); (first | omega | (simp only [decide_eq_true_eq, decide_eq_false_iff_not, Bool.or_eq_true, Bool.and_eq_true, Bool.or_eq_false_iff, Bool.not_eq_true', Bool.not_eq_false'] at *; omega) | (simp_all; done) | (simp_all; omega))) | (with_reducible refine condT_split (fun h => ?_) (fun h => ?_)) | ((with_reducible apply fnQ_told_ret); rfl) | ((with_reducible apply fnQ_ret_soft); rfl; rfl)
  · rw [h1, decide_eq_true_eq] at h
    rw [h, idx_self]
  · rfl
  all_goals (rename_i g1 g2; exact absurd (show true = false from g2) (by decide))
theorem pt_self (k : Int) (b : UInt8) (hb : b = 100 ∨ b = 97 ∨ b = 98 ∨ b = 99 ∨ b = 102) : (((⟨#[b]⟩ : ByteArray).size : Int) == 0 || (⟨#[b]⟩ : ByteArray).toList == (pt k).toList) = decide ((pt k).data.toList = [b]) := by
  rcases kind_cases k with rfl | rfl | rfl | rfl | rfl | rfl | rfl | rfl | rfl | rfl | h
  all_goals
    (try rw [pt, if_neg (by omega)])
    rcases hb with rfl | rfl | rfl | rfl | rfl <;> decide +kernel
theorem p_slIndex (k : Int) (b : UInt8) (hb : b = 100 ∨ b = 97 ∨ b = 98 ∨ b = 99 ∨ b = 102) : Pure Go.Proofs.Tryz.prog glD 151 [.str (pt k), .str ⟨#[b]⟩] (.int .i64 (Lib.indexByte (pt k).data.toList b)) := p_slIndexC _ b (pt_self k b hb)
theorem p_strIndex (k : Int) (b : UInt8) (hb : b = 100 ∨ b = 97 ∨ b = 98 ∨ b = 99 ∨ b = 102) : Pure Go.Proofs.Tryz.prog glD 124 [.str (pt k), .str ⟨#[b]⟩] (.int .i64 (Lib.indexByte (pt k).data.toList b)) := by
  refine Pure.fn hmix b124 ?_
  repeat' first | (with_reducible first | refine tr_seq ?_ | refine n_nil ?_ | refine seqQ_normal ?_ | refine seqQ_ret ?_ | refine blkQ_ret ?_ | refine tr_ret ?_) | ((with_reducible refine tr_region_f ?_ ?_); kernel_rfl) | ((with_reducible apply n_val); rfl; rfl) | ((with_reducible apply n_call (f := 151)); rfl; rfl; exact p_slIndex k b hb) | ((with_reducible apply fnQ_told_ret); rfl) | ((with_reducible apply fnQ_ret_soft); rfl; rfl)
  rfl
theorem p_strContains (k : Int) (b : UInt8) (hb : b = 100 ∨ b = 97 ∨ b = 98 ∨ b = 99 ∨ b = 102) : Pure Go.Proofs.Tryz.prog glD 84 [.str (pt k), .str ⟨#[b]⟩] (.bool (decide (Lib.indexByte (pt k).data.toList b ≥ 0))) := by
  refine Pure.fn hmix b84 ?_
  repeat' first | (with_reducible first | refine tr_seq ?_ | refine n_nil ?_ | refine seqQ_normal ?_ | refine seqQ_ret ?_ | refine blkQ_ret ?_ | refine tr_ret ?_) | ((with_reducible refine tr_region_f ?_ ?_); kernel_rfl) | ((with_reducible apply n_val); rfl; rfl) | ((with_reducible apply n_call (f := 124)); rfl; rfl; exact p_strIndex k b hb) | ((with_reducible apply fnQ_told_ret); rfl) | ((with_reducible apply fnQ_ret_soft); rfl; rfl)
  rfl
theorem p_has (i : In) (b : UInt8) (hb : b = 100 ∨ b = 97 ∨ b = 98 ∨ b = 99 ∨ b = 102) (r : Int → Bool) (hr : ∀ k, decide (Lib.indexByte (pt k).data.toList b ≥ 0) = r k) : Pure Go.Proofs.Tryz.prog glD 57 [pI i, .str ⟨#[b]⟩] (.bool (r i.kind)) := by
  rw [← hr]
  refine Pure.fn hmix b57 ?_
  repeat' first | (with_reducible first | refine tr_seq ?_ | refine n_nil ?_ | refine seqQ_normal ?_ | refine seqQ_ret ?_ | refine blkQ_ret ?_ | refine tr_ret ?_) | ((with_reducible refine tr_region_f ?_ ?_); kernel_rfl) | ((with_reducible apply n_val); rfl; rfl) | ((with_reducible apply n_new); rfl; (first | (simp only [hn0, hn1, hn2, hn3, hn4, hn5, List.length_cons, List.length_nil, Nat.reduceAdd, Nat.zero_add]; first | done | rfl) | rfl); rfl) | ((with_reducible apply n_call (f := 85)); rfl; rfl; exact p_instr_parts ..) | ((with_reducible apply n_call (f := 84)); rfl; rfl; exact p_strContains _ b hb) | ((with_reducible apply fnQ_told_ret); rfl) | ((with_reducible apply fnQ_ret_soft); rfl; rfl)
  rfl
theorem p_hasD (i : In) : Pure Go.Proofs.Tryz.prog glD 57 [pI i, .str ⟨#[100]⟩] (.bool (hD i.kind)) := p_has i 100 (by decide) hD fun k => by
  rcases kind_cases k with rfl | rfl | rfl | rfl | rfl | rfl | rfl | rfl | rfl | rfl | h
  any_goals decide
  rw [pt, if_neg (by omega)]
  simp only [hD, Bool.and_eq_false_iff]
  have : (decide (0 ≤ k) && decide (k ≤ 7)) = false := by simp; omega
  rw [this]; decide
theorem p_hasA (i : In) : Pure Go.Proofs.Tryz.prog glD 57 [pI i, .str ⟨#[97]⟩] (.bool (hA i.kind)) := p_has i 97 (by decide) hA fun k => by
  rcases kind_cases k with rfl | rfl | rfl | rfl | rfl | rfl | rfl | rfl | rfl | rfl | h
  any_goals decide
  rw [pt, if_neg (by omega)]
  have : hA k = false := by simp [hA]; omega
  rw [this]; decide
theorem p_hasB (i : In) : Pure Go.Proofs.Tryz.prog glD 57 [pI i, .str ⟨#[98]⟩] (.bool (hB i.kind)) := p_has i 98 (by decide) hB fun k => by
  rcases kind_cases k with rfl | rfl | rfl | rfl | rfl | rfl | rfl | rfl | rfl | rfl | h
  any_goals decide
  rw [pt, if_neg (by omega)]
  have : hB k = false := by simp [hB]; omega
  rw [this]; decide
theorem p_hasC (i : In) : Pure Go.Proofs.Tryz.prog glD 57 [pI i, .str ⟨#[99]⟩] (.bool (hC i.kind)) := p_has i 99 (by decide) hC fun k => by
  rcases kind_cases k with rfl | rfl | rfl | rfl | rfl | rfl | rfl | rfl | rfl | rfl | h
  any_goals decide
  rw [pt, if_neg (by omega)]
  have : hC k = false := by simp [hC]; omega
  rw [this]; decide
theorem p_hasF (i : In) : Pure Go.Proofs.Tryz.prog glD 57 [pI i, .str ⟨#[102]⟩] (.bool (hF i.kind)) := p_has i 102 (by decide) hF fun k => by
  rcases kind_cases k with rfl | rfl | rfl | rfl | rfl | rfl | rfl | rfl | rfl | rfl | h
  any_goals decide
  rw [pt, if_neg (by omega)]
  have : hF k = false := by simp [hF]; omega
  rw [this]; decide
theorem p_without (i : In) : Pure Go.Proofs.Tryz.prog glD 104 [pI i] (pI { i with id := 0, kind := 0 }) := by
  refine Pure.fn hmix b104 ?_
  repeat' first | (with_reducible first | refine tr_seq ?_ | refine n_nil ?_ | refine seqQ_normal ?_ | refine seqQ_ret ?_ | refine blkQ_ret ?_ | refine tr_ret ?_) | ((with_reducible refine tr_region_f ?_ ?_); kernel_rfl) | ((with_reducible apply n_val); rfl; rfl) | ((with_reducible apply n_new); rfl; (first | (simp only [hn0, hn1, hn2, hn3, hn4, hn5, List.length_cons, List.length_nil, Nat.reduceAdd, Nat.zero_add]; first | done | rfl) | rfl); rfl) | ((with_reducible apply n_store); rfl; rfl; rfl; rfl; rfl) | ((with_reducible apply fnQ_told_ret); rfl) | ((with_reducible apply fnQ_ret_soft); rfl; rfl)
  rfl
end Go.Vm
end
