/- Laid. -/
import Derived.Test.YtlllcmahmgdppaaDoorVmThree
import Derived.KernelRfl
import Derived.Test.YtlllcmahmgdppaaDoorProg
import Derived.Test.YtlllcmahmgdppaaDoorXinstrC
section
/- Code. -/
set_option maxRecDepth 100000
set_option linter.unusedSimpArgs false
set_option linter.unusedVariables false
namespace Go.Vm
open Go
def c52 : RFn := ⟨(.seq (.region (Nodes.flat none (.op (some 1) (.box (.t 0)) 0
  (.op (some 2) (.alloc (.agg [(.int .i64 0), (.int .i64 0), (.int .i64 0), (.int .i64 0), (.int .i64 0), (.int .i64 0), (.int .i64 0), (.int .i64 0), (.int .i64 0), (.int .i64 0), (.int .i64 0)])) 0
  .nil))) false)
 (.seq (.region (Nodes.flat none (.op (some 3) (.fieldAddr 0 (.t 1)) 0
  (.op none (.store 1 (.t 3) (.c (.int .i64 0))) 0
  (.op (some 4) (.fieldAddr 1 (.t 1)) 0
  (.op none (.store 1 (.t 4) (.c (.int .i64 0))) 0
  .nil))))) false)
 (.seq (.region (Nodes.flat none (.op (some 5) (.load (some 11) (.t 1)) 0
  (.op none (.store 11 (.t 2) (.t 5)) 0
  .nil))) false)
 .ret))),
 [.cell (some 11) 2]⟩
theorem b52 : fnOf Go.Proofs.Tryd.prog (owOf []) 52 = some c52 := by kernel_rfl
def c53 : RFn := ⟨(.seq (.region (Nodes.flat none (.op (some 2) (.box (.t 0)) 0
  (.op (some 4) (.move (.c (.bool false))) 0
  .nil))) false)
 (.seq (.region (Nodes.flat none (.op (some 5) (.fieldAddr 1 (.t 2)) 0
  (.op (some 6) (.load none (.t 5)) 0
  (.op (some 7) (.call 59 [(.t 6)]) 0
  (.op (some 8) (.move (.t 1)) 0
  (.op (some 9) (.call 58 [(.t 7), (.t 8)]) 0
  (.op (some 4) (.move (.t 9)) 0
  .nil))))))) false)
 .ret)),
 [.tmp 4]⟩
theorem b53 : fnOf Go.Proofs.Tryd.prog (owOf []) 53 = some c53 := by kernel_rfl
def c58 : RFn := ⟨(.seq (.region (Nodes.flat none (.op (some 4) (.move (.c (.bool false))) 0
  .nil)) false)
 (.seq (.region (Nodes.flat none (.op (some 5) (.move (.t 0)) 0
  (.op (some 6) (.move (.t 1)) 0
  (.op (some 7) (.call 72 [(.t 5), (.t 6)]) 0
  (.op (some 8) (.bin .geq (.t 7) (.c (.int .i64 0))) 0
  (.op (some 4) (.move (.t 8)) 0
  .nil)))))) false)
 .ret)),
 [.tmp 4]⟩
theorem b58 : fnOf Go.Proofs.Tryd.prog (owOf []) 58 = some c58 := by kernel_rfl
def c72 : RFn := ⟨(.seq (.region (Nodes.flat none (.op (some 4) (.move (.c (.int .i64 0))) 0
  .nil)) false)
 (.seq (.region (Nodes.flat none (.op (some 5) (.move (.t 0)) 0
  (.op (some 6) (.move (.t 1)) 0
  (.op (some 7) (.call 81 [(.t 5), (.t 6)]) 0
  (.op (some 4) (.move (.t 7)) 0
  .nil))))) false)
 .ret)),
 [.tmp 4]⟩
theorem b72 : fnOf Go.Proofs.Tryd.prog (owOf []) 72 = some c72 := by kernel_rfl
def c81 : RFn := ⟨(.seq (.region (Nodes.flat none (.op (some 4) (.move (.c (.int .i64 0))) 0
  .nil)) false)
 (.seq (.region (Nodes.flat none (.op (some 14) (.move (.t 1)) 0
  (.op (some 15) (.len true (.t 14)) 0
  (.op (some 5) (.move (.t 15)) 0
  .nil)))) false)
 (.seq (.block 0 (.seq (.region (Nodes.flat none (.op (some 17) (.move (.t 5)) 0
  (.op (some 18) (.bin .eql (.t 17) (.c (.int .i64 0))) 0
  (.op (some 19) (.move (.t 18)) 0
  (.grd 19 false
  (.op (some 20) (.move (.t 1)) 0
  (.op (some 21) (.move (.t 0)) 0
  (.op (some 22) (.bin .eql (.t 20) (.t 21)) 0
  .nil)))
  (.op (some 23) (.pick (.t 19) (.c (.bool true)) (.t 22)) 0
  (.op (some 16) (.move (.t 23)) 0
  .nil))))))) false)
 (.cond (.t 16)
 (.seq (.region (Nodes.flat none (.op (some 4) (.move (.c (.int .i64 0))) 0
  .nil)) false)
 .ret)
 (.seq (.region (Nodes.flat none (.op (some 25) (.move (.t 5)) 0
  (.op (some 26) (.bin .eql (.t 25) (.c (.int .i64 1))) 0
  (.op (some 24) (.move (.t 26)) 0
  .nil)))) false)
 (.cond (.t 24)
 (.seq (.region (Nodes.flat none (.op (some 27) (.move (.t 0)) 0
  (.op (some 28) (.move (.t 1)) 0
  (.op (some 29) (.prim .sidx [(.t 28), (.c (.int .i64 0))]) 0
  (.op (some 30) (.call 83 [(.t 27), (.t 29)]) 0
  (.op (some 4) (.move (.t 30)) 0
  .nil)))))) false)
 .ret)
 (.seq (.region (Nodes.flat none (.op (some 32) (.move (.t 5)) 0
  (.op (some 33) (.move (.t 0)) 0
  (.op (some 34) (.len true (.t 33)) 0
  (.op (some 35) (.bin .geq (.t 32) (.t 34)) 0
  (.op (some 31) (.move (.t 35)) 0
  .nil)))))) false)
 (.cond (.t 31)
 (.seq (.region (Nodes.flat none (.op (some 4) (.move (.c (.int .i64 (-1)))) 0
  .nil)) false)
 .ret)
 (.seq (.region (Nodes.flat none (.op (some 37) (.move (.t 5)) 0
  (.op (some 38) (.load none (.g 3)) 0
  (.op (some 39) (.bin .leq (.t 37) (.t 38)) 0
  (.op (some 40) (.move (.t 39)) 0
  (.grd 40 true
  (.op (some 41) (.move (.t 0)) 0
  (.op (some 42) (.len true (.t 41)) 0
  (.op (some 43) (.bin .leq (.t 42) (.c (.int .i64 64))) 0
  .nil)))
  (.op (some 44) (.pick (.t 40) (.t 43) (.c (.bool false))) 0
  (.op (some 36) (.move (.t 44)) 0
  .nil)))))))) false)
 (.cond (.t 36)
 (.seq (.region (Nodes.flat none (.op (some 45) (.move (.t 0)) 0
  (.op (some 46) (.move (.t 1)) 0
  (.op (some 47) (.nope) 0
  (.op (some 4) (.move (.t 47)) 0
  .nil))))) false)
 .ret)
 .skip)))))))))
 (.seq (.region (Nodes.flat none (.op (some 48) (.move (.t 1)) 0
  (.op (some 49) (.prim .sidx [(.t 48), (.c (.int .i64 0))]) 0
  (.op (some 6) (.move (.t 49)) 0
  .nil)))) false)
 (.seq (.region (Nodes.flat none (.op (some 50) (.move (.t 1)) 0
  (.op (some 51) (.prim .sidx [(.t 50), (.c (.int .i64 1))]) 0
  (.op (some 7) (.move (.t 51)) 0
  .nil)))) false)
 (.seq (.region (Nodes.flat none (.op (some 8) (.move (.c (.int .i64 0))) 0
  .nil)) false)
 (.seq (.region (Nodes.flat none (.op (some 52) (.move (.t 0)) 0
  (.op (some 53) (.len true (.t 52)) 0
  (.op (some 54) (.move (.t 5)) 0
  (.op (some 55) (.bin .sub (.t 53) (.t 54)) 0
  (.op (some 56) (.bin .add (.t 55) (.c (.int .i64 1))) 0
  (.op (some 9) (.move (.t 56)) 0
  .nil))))))) false)
 (.seq (.region (Nodes.flat none (.op (some 10) (.move (.c (.int .i64 0))) 0
  .nil)) false)
 (.seq (.block 1 (.loop (.seq (.seq (.region (Nodes.flat none (.op (some 57) (.move (.t 8)) 0
  (.op (some 58) (.move (.t 9)) 0
  (.op (some 59) (.bin .lss (.t 57) (.t 58)) 0
  .nil)))) false)
 (.cond (.t 59)
 .skip
 (.exit 1)))
 (.block 2 (.seq (.seq (.region (Nodes.flat none (.op (some 60) (.move (.t 0)) 0
  (.op (some 61) (.move (.t 8)) 0
  (.op (some 62) (.prim .sidx [(.t 60), (.t 61)]) 0
  (.op (some 63) (.move (.t 6)) 0
  (.op (some 64) (.bin .neq (.t 62) (.t 63)) 0
  .nil)))))) false)
 (.cond (.t 64)
 (.seq (.region (Nodes.flat none (.op (some 65) (.move (.t 0)) 0
  (.op (some 66) (.move (.t 8)) 0
  (.op (some 67) (.bin .add (.t 66) (.c (.int .i64 1))) 0
  (.op (some 68) (.move (.t 9)) 0
  (.op (some 69) (.prim (.sliceStr true true) [(.t 65), (.t 67), (.t 68)]) 0
  (.op (some 70) (.move (.t 6)) 0
  (.op (some 71) (.call 83 [(.t 69), (.t 70)]) 0
  (.op (some 11) (.move (.t 71)) 0
  .nil))))))))) false)
 (.seq (.seq (.region (Nodes.flat none (.op (some 72) (.move (.t 11)) 0
  (.op (some 73) (.bin .lss (.t 72) (.c (.int .i64 0))) 0
  .nil))) false)
 (.cond (.t 73)
 (.seq (.region (Nodes.flat none (.op (some 4) (.move (.c (.int .i64 (-1)))) 0
  .nil)) false)
 .ret)
 .skip))
 (.region (Nodes.flat none (.op (some 74) (.move (.t 8)) 0
  (.op (some 75) (.move (.t 11)) 0
  (.op (some 76) (.bin .add (.t 75) (.c (.int .i64 1))) 0
  (.op (some 77) (.bin .add (.t 74) (.t 76)) 0
  (.op (some 8) (.move (.t 77)) 0
  .nil)))))) false)))
 .skip))
 (.seq (.seq (.region (Nodes.flat none (.op (some 78) (.move (.t 0)) 0
  (.op (some 79) (.move (.t 8)) 0
  (.op (some 80) (.bin .add (.t 79) (.c (.int .i64 1))) 0
  (.op (some 81) (.prim .sidx [(.t 78), (.t 80)]) 0
  (.op (some 82) (.move (.t 7)) 0
  (.op (some 83) (.bin .eql (.t 81) (.t 82)) 0
  (.op (some 84) (.move (.t 83)) 0
  (.grd 84 true
  (.op (some 85) (.move (.t 0)) 0
  (.op (some 86) (.move (.t 8)) 0
  (.op (some 87) (.move (.t 8)) 0
  (.op (some 88) (.move (.t 5)) 0
  (.op (some 89) (.bin .add (.t 87) (.t 88)) 0
  (.op (some 90) (.prim (.sliceStr true true) [(.t 85), (.t 86), (.t 89)]) 0
  (.op (some 91) (.move (.t 1)) 0
  (.op (some 92) (.bin .eql (.t 90) (.t 91)) 0
  .nil))))))))
  (.op (some 93) (.pick (.t 84) (.t 92) (.c (.bool false))) 0
  .nil)))))))))) false)
 (.cond (.t 93)
 (.seq (.region (Nodes.flat none (.op (some 94) (.move (.t 8)) 0
  (.op (some 4) (.move (.t 94)) 0
  .nil))) false)
 .ret)
 .skip))
 (.seq (.region (Nodes.flat none (.op (some 95) (.move (.t 8)) 0
  (.op (some 96) (.bin .add (.t 95) (.c (.int .i64 1))) 0
  (.op (some 8) (.move (.t 96)) 0
  .nil)))) false)
 (.seq (.region (Nodes.flat none (.op (some 97) (.move (.t 10)) 0
  (.op (some 98) (.bin .add (.t 97) (.c (.int .i64 1))) 0
  (.op (some 10) (.move (.t 98)) 0
  .nil)))) false)
 (.seq (.region (Nodes.flat none (.op (some 99) (.move (.t 5)) 0
  (.op (some 100) (.load none (.g 3)) 0
  (.op (some 101) (.bin .leq (.t 99) (.t 100)) 0
  (.op (some 102) (.move (.t 101)) 0
  (.grd 102 true
  (.op (some 103) (.move (.t 10)) 0
  (.op (some 104) (.move (.t 8)) 0
  (.op (some 105) (.call 85 [(.t 104)]) 0
  (.op (some 106) (.bin .gtr (.t 103) (.t 105)) 0
  .nil))))
  (.op (some 107) (.pick (.t 102) (.t 106) (.c (.bool false))) 0
  .nil))))))) false)
 (.cond (.t 107)
 (.seq (.region (Nodes.flat none (.op (some 108) (.move (.t 0)) 0
  (.op (some 109) (.move (.t 8)) 0
  (.op (some 110) (.prim (.sliceStr true false) [(.t 108), (.t 109)]) 0
  (.op (some 111) (.move (.t 1)) 0
  (.op (some 112) (.nope) 0
  (.op (some 12) (.move (.t 112)) 0
  .nil))))))) false)
 (.seq (.seq (.region (Nodes.flat none (.op (some 113) (.move (.t 12)) 0
  (.op (some 114) (.bin .geq (.t 113) (.c (.int .i64 0))) 0
  .nil))) false)
 (.cond (.t 114)
 (.seq (.region (Nodes.flat none (.op (some 115) (.move (.t 12)) 0
  (.op (some 116) (.move (.t 8)) 0
  (.op (some 117) (.bin .add (.t 115) (.t 116)) 0
  (.op (some 4) (.move (.t 117)) 0
  .nil))))) false)
 .ret)
 .skip))
 (.seq (.region (Nodes.flat none (.op (some 4) (.move (.c (.int .i64 (-1)))) 0
  .nil)) false)
 .ret)))
 (.seq (.region (Nodes.flat none (.op (some 118) (.move (.t 5)) 0
  (.op (some 119) (.load none (.g 3)) 0
  (.op (some 120) (.bin .gtr (.t 118) (.t 119)) 0
  (.op (some 121) (.move (.t 120)) 0
  (.grd 121 true
  (.op (some 122) (.move (.t 10)) 0
  (.op (some 123) (.move (.t 8)) 0
  (.op (some 124) (.bin .shr (.t 123) (.c (.int .u64 4))) 0
  (.op (some 125) (.bin .add (.c (.int .i64 4)) (.t 124)) 0
  (.op (some 126) (.bin .geq (.t 122) (.t 125)) 0
  .nil)))))
  (.op (some 127) (.pick (.t 121) (.t 126) (.c (.bool false))) 0
  (.op (some 128) (.move (.t 127)) 0
  (.grd 128 true
  (.op (some 129) (.move (.t 8)) 0
  (.op (some 130) (.move (.t 9)) 0
  (.op (some 131) (.bin .lss (.t 129) (.t 130)) 0
  .nil)))
  (.op (some 132) (.pick (.t 128) (.t 131) (.c (.bool false))) 0
  .nil)))))))))) false)
 (.cond (.t 132)
 (.seq (.region (Nodes.flat none (.op (some 133) (.move (.t 0)) 0
  (.op (some 134) (.move (.t 8)) 0
  (.op (some 135) (.prim (.sliceStr true false) [(.t 133), (.t 134)]) 0
  (.op (some 136) (.move (.t 1)) 0
  (.op (some 137) (.call 86 [(.t 135), (.t 136)]) 0
  (.op (some 13) (.move (.t 137)) 0
  .nil))))))) false)
 (.seq (.seq (.region (Nodes.flat none (.op (some 138) (.move (.t 13)) 0
  (.op (some 139) (.bin .lss (.t 138) (.c (.int .i64 0))) 0
  .nil))) false)
 (.cond (.t 139)
 (.seq (.region (Nodes.flat none (.op (some 4) (.move (.c (.int .i64 (-1)))) 0
  .nil)) false)
 .ret)
 .skip))
 (.seq (.region (Nodes.flat none (.op (some 140) (.move (.t 8)) 0
  (.op (some 141) (.move (.t 13)) 0
  (.op (some 142) (.bin .add (.t 140) (.t 141)) 0
  (.op (some 4) (.move (.t 142)) 0
  .nil))))) false)
 .ret)))
 .skip))))))))))))
 (.seq (.region (Nodes.flat none (.op (some 4) (.move (.c (.int .i64 (-1)))) 0
  .nil)) false)
 .ret)))))))))),
 [.tmp 4]⟩
theorem b81 : fnOf Go.Proofs.Tryd.prog (owOf []) 81 = some c81 := by kernel_rfl
end Go.Vm
end
section
/- Walks. -/
set_option maxRecDepth 100000
set_option linter.unusedSimpArgs false
set_option linter.unusedVariables false
namespace Go.Vm
open Go
set_option maxHeartbeats 4000000
theorem idx_self (b : UInt8) : Lib.indexByte [b] b = 0 := by simp [Lib.indexByte]
theorem p_slIndexC (s : ByteArray) (b : UInt8) (h1 : (((⟨#[b]⟩ : ByteArray).size : Int) == 0 || (⟨#[b]⟩ : ByteArray).toList == s.toList) = decide (s.data.toList = [b])) : Pure Go.Proofs.Tryd.prog glD 81 [.str s, .str ⟨#[b]⟩] (.int .i64 (Lib.indexByte s.data.toList b)) := by
  have hi := p_IndexByte (gl := glD) s (b.toNat : Int)
  have eb : ((b.toNat : Int)).toNat.toUInt8 = b := by simp
  rw [eb] at hi
  refine Pure.fn hmix b81 ?_
  repeat' first
    | with_reducible refine tr_seq ?_
    | ((with_reducible refine tr_region_f ?_ ?_); kernel_rfl)
    | with_reducible refine n_nil ?_
    | exact ⟨rfl, rfl⟩
    | with_reducible refine seqQ_normal ?_
    | with_reducible refine seqQ_exit ?_
    | with_reducible refine seqQ_ret ?_
    | with_reducible refine blkQ_normal ?_
    | with_reducible refine blkQ_exit ?_
    | with_reducible refine blkQ_ret ?_
    | ((with_reducible refine blkQ_exit_ne ?_ ?_); rfl)
    | with_reducible refine tr_block ?_
    | with_reducible refine tr_skip ?_
    | with_reducible refine tr_exit ?_
    | with_reducible refine tr_ret ?_
    | ((with_reducible apply tr_cond_e); rfl)
    | with_reducible refine condT_t ?_
    | with_reducible refine condT_f ?_
    | ((with_reducible apply n_and); rfl; rfl; intro h)
    | ((with_reducible apply n_or); rfl; rfl; intro h)
    | with_reducible refine loopV_exit ?_
    | with_reducible refine loopV_ret ?_
    | ((with_reducible apply n_call (f := 83)); rfl; rfl; exact hi)
    | ((with_reducible apply n_val); rfl; rfl)
    | ((with_reducible apply n_nope); (first | omega | (simp only [decide_eq_true_eq, decide_eq_false_iff_not, Bool.or_eq_true, Bool.and_eq_true, Bool.or_eq_false_iff, Bool.not_eq_true', Bool.not_eq_false'] at *; omega) | (simp_all; done) | (simp_all; omega)))
    | (with_reducible refine condT_split (fun h => ?_) (fun h => ?_))
    | ((with_reducible apply fnQ_told_ret); rfl)
    | ((with_reducible apply fnQ_ret_soft); rfl; rfl)
  · rw [h1, decide_eq_true_eq] at h
    rw [h, idx_self]
  · rfl
  all_goals (rename_i g1 g2; exact absurd (show true = false from g2) (by decide))
theorem pt_self (k : Int) (b : UInt8) (hb : b = 100 ∨ b = 97 ∨ b = 98 ∨ b = 99 ∨ b = 102) : (((⟨#[b]⟩ : ByteArray).size : Int) == 0 || (⟨#[b]⟩ : ByteArray).toList == (pt k).toList) = decide ((pt k).data.toList = [b]) := by
  rcases kind_cases k with rfl | rfl | rfl | rfl | rfl | rfl | rfl | rfl | rfl | rfl | h
  all_goals
    (try rw [pt, if_neg (by omega)])
    rcases hb with rfl | rfl | rfl | rfl | rfl <;> decide +kernel
theorem p_slIndex (k : Int) (b : UInt8) (hb : b = 100 ∨ b = 97 ∨ b = 98 ∨ b = 99 ∨ b = 102) : Pure Go.Proofs.Tryd.prog glD 81 [.str (pt k), .str ⟨#[b]⟩] (.int .i64 (Lib.indexByte (pt k).data.toList b)) := p_slIndexC _ b (pt_self k b hb)
theorem p_strIndex (k : Int) (b : UInt8) (hb : b = 100 ∨ b = 97 ∨ b = 98 ∨ b = 99 ∨ b = 102) : Pure Go.Proofs.Tryd.prog glD 72 [.str (pt k), .str ⟨#[b]⟩] (.int .i64 (Lib.indexByte (pt k).data.toList b)) := by
  refine Pure.fn hmix b72 ?_
  repeat' first
    | with_reducible refine tr_seq ?_
    | ((with_reducible refine tr_region_f ?_ ?_); kernel_rfl)
    | with_reducible refine n_nil ?_
    | with_reducible refine seqQ_normal ?_
    | with_reducible refine seqQ_ret ?_
    | with_reducible refine blkQ_ret ?_
    | with_reducible refine tr_ret ?_
    | ((with_reducible apply n_val); rfl; rfl)
    | ((with_reducible apply n_call (f := 81)); rfl; rfl; exact p_slIndex k b hb)
    | ((with_reducible apply fnQ_told_ret); rfl)
    | ((with_reducible apply fnQ_ret_soft); rfl; rfl)
  rfl
theorem p_strContains (k : Int) (b : UInt8) (hb : b = 100 ∨ b = 97 ∨ b = 98 ∨ b = 99 ∨ b = 102) : Pure Go.Proofs.Tryd.prog glD 58 [.str (pt k), .str ⟨#[b]⟩] (.bool (decide (Lib.indexByte (pt k).data.toList b ≥ 0))) := by
  refine Pure.fn hmix b58 ?_
  repeat' first
    | with_reducible refine tr_seq ?_
    | ((with_reducible refine tr_region_f ?_ ?_); kernel_rfl)
    | with_reducible refine n_nil ?_
    | with_reducible refine seqQ_normal ?_
    | with_reducible refine seqQ_ret ?_
    | with_reducible refine blkQ_ret ?_
    | with_reducible refine tr_ret ?_
    | ((with_reducible apply n_val); rfl; rfl)
    | ((with_reducible apply n_call (f := 72)); rfl; rfl; exact p_strIndex k b hb)
    | ((with_reducible apply fnQ_told_ret); rfl)
    | ((with_reducible apply fnQ_ret_soft); rfl; rfl)
  rfl
theorem p_has (i : In) (b : UInt8) (hb : b = 100 ∨ b = 97 ∨ b = 98 ∨ b = 99 ∨ b = 102) (r : Int → Bool) (hr : ∀ k, decide (Lib.indexByte (pt k).data.toList b ≥ 0) = r k) : Pure Go.Proofs.Tryd.prog glD 53 [pI i, .str ⟨#[b]⟩] (.bool (r i.kind)) := by
  rw [← hr]
  refine Pure.fn hmix b53 ?_
  repeat' first
    | with_reducible refine tr_seq ?_
    | ((with_reducible refine tr_region_f ?_ ?_); kernel_rfl)
    | with_reducible refine n_nil ?_
    | with_reducible refine seqQ_normal ?_
    | with_reducible refine seqQ_ret ?_
    | with_reducible refine blkQ_ret ?_
    | with_reducible refine tr_ret ?_
    | ((with_reducible apply n_val); rfl; rfl)
    | ((with_reducible apply n_new); rfl; (first | (simp only [hn0, hn1, hn2, hn3, hn4, hn5, List.length_cons, List.length_nil, Nat.reduceAdd, Nat.zero_add]; done) | (simp only [hn0, hn1, hn2, hn3, hn4, hn5, List.length_cons, List.length_nil, Nat.reduceAdd, Nat.zero_add]; rfl) | rfl); rfl)
    | ((with_reducible apply n_call (f := 59)); rfl; rfl; exact p_instr_parts ..)
    | ((with_reducible apply n_call (f := 58)); rfl; rfl; exact p_strContains _ b hb)
    | ((with_reducible apply fnQ_told_ret); rfl)
    | ((with_reducible apply fnQ_ret_soft); rfl; rfl)
  rfl
theorem p_hasD (i : In) : Pure Go.Proofs.Tryd.prog glD 53 [pI i, .str ⟨#[100]⟩] (.bool (hD i.kind)) := p_has i 100 (by decide) hD fun k => by
  rcases kind_cases k with rfl | rfl | rfl | rfl | rfl | rfl | rfl | rfl | rfl | rfl | h
  any_goals decide
  rw [pt, if_neg (by omega)]
  simp only [hD, Bool.and_eq_false_iff]
  have : (decide (0 ≤ k) && decide (k ≤ 7)) = false := by simp; omega
  rw [this]; decide
theorem p_hasA (i : In) : Pure Go.Proofs.Tryd.prog glD 53 [pI i, .str ⟨#[97]⟩] (.bool (hA i.kind)) := p_has i 97 (by decide) hA fun k => by
  rcases kind_cases k with rfl | rfl | rfl | rfl | rfl | rfl | rfl | rfl | rfl | rfl | h
  any_goals decide
  rw [pt, if_neg (by omega)]
  have : hA k = false := by simp [hA]; omega
  rw [this]; decide
theorem p_hasB (i : In) : Pure Go.Proofs.Tryd.prog glD 53 [pI i, .str ⟨#[98]⟩] (.bool (hB i.kind)) := p_has i 98 (by decide) hB fun k => by
  rcases kind_cases k with rfl | rfl | rfl | rfl | rfl | rfl | rfl | rfl | rfl | rfl | h
  any_goals decide
  rw [pt, if_neg (by omega)]
  have : hB k = false := by simp [hB]; omega
  rw [this]; decide
theorem p_hasC (i : In) : Pure Go.Proofs.Tryd.prog glD 53 [pI i, .str ⟨#[99]⟩] (.bool (hC i.kind)) := p_has i 99 (by decide) hC fun k => by
  rcases kind_cases k with rfl | rfl | rfl | rfl | rfl | rfl | rfl | rfl | rfl | rfl | h
  any_goals decide
  rw [pt, if_neg (by omega)]
  have : hC k = false := by simp [hC]; omega
  rw [this]; decide
theorem p_hasF (i : In) : Pure Go.Proofs.Tryd.prog glD 53 [pI i, .str ⟨#[102]⟩] (.bool (hF i.kind)) := p_has i 102 (by decide) hF fun k => by
  rcases kind_cases k with rfl | rfl | rfl | rfl | rfl | rfl | rfl | rfl | rfl | rfl | h
  any_goals decide
  rw [pt, if_neg (by omega)]
  have : hF k = false := by simp [hF]; omega
  rw [this]; decide
theorem p_without (i : In) : Pure Go.Proofs.Tryd.prog glD 52 [pI i] (pI { i with id := 0, kind := 0 }) := by
  refine Pure.fn hmix b52 ?_
  repeat' first
    | with_reducible refine tr_seq ?_
    | ((with_reducible refine tr_region_f ?_ ?_); kernel_rfl)
    | with_reducible refine n_nil ?_
    | with_reducible refine seqQ_normal ?_
    | with_reducible refine seqQ_ret ?_
    | with_reducible refine blkQ_ret ?_
    | with_reducible refine tr_ret ?_
    | ((with_reducible apply n_val); rfl; rfl)
    | ((with_reducible apply n_new); rfl; (first | (simp only [hn0, hn1, hn2, hn3, hn4, hn5, List.length_cons, List.length_nil, Nat.reduceAdd, Nat.zero_add]; done) | (simp only [hn0, hn1, hn2, hn3, hn4, hn5, List.length_cons, List.length_nil, Nat.reduceAdd, Nat.zero_add]; rfl) | rfl); rfl)
    | ((with_reducible apply n_store); rfl; rfl; rfl; rfl; rfl)
    | ((with_reducible apply fnQ_told_ret); rfl)
    | ((with_reducible apply fnQ_ret_soft); rfl; rfl)
  rfl
end Go.Vm
end
