/- Laid. -/
import Derived.Test.YtlllcmahmgdppaaGreatDoorVmThree
import Derived.KernelRfl
import Derived.Test.YtlllcmahmgdppaaGreatDoorProg
import Derived.Test.YtlllcmahmgdppaaGreatDoorXinstrA
section
/- Code. -/
set_option maxRecDepth 100000
set_option linter.unusedSimpArgs false
set_option linter.unusedVariables false
namespace Go.Vm
open Go
def c69 : RFn := ⟨(.seq (rf (.o 2 (.move (.c (.str ⟨#[]⟩))) .nil)) (.seq (.seq (rf (.o 3 (.m 0) (.o 4 (.bin .lss (.t 3) (.i 0)) (.o 5 (.m 4) (.grd 5 false (.o 6 (.m 0) (.o 7 (.bin .geq (.t 6) (.i 10)) .nil)) (.o 8 (.pick (.t 5) (.c (.bool true)) (.t 7)) .nil)))))) (.cond (.t 8) (.seq (rf (.o 2 (.move (.c (.str ⟨#[]⟩))) .nil)) .ret) .skip)) (.seq (rf (.o 9 (.call 76 [(.c (.str ⟨#[99, 111, 110, 115, 116, 32, 99, 111, 112, 121, 32, 110, 101, 103, 32, 97, 100, 100, 32, 115, 117, 98, 32, 109, 117, 108, 32, 105, 110, 112, 117, 116, 32, 99, 97, 108, 108, 32, 117, 115, 101, 32, 114, 101, 116]⟩))]) (.o 10 (.m 0) (.o 11 (.idxAddr 1 (.t 9) (.t 10)) (.o 12 (.load none (.t 11)) (.o 2 (.m 12) .nil)))))) .ret))), [.tmp 2]⟩
theorem b69 : fnOf Go.Proofs.Tryz.prog (owOf []) 69 = some c69 := by kernel_rfl
def c85 : RFn := ⟨(.seq (rf (.o 2 (.move (.c (.str ⟨#[]⟩))) .nil)) (.seq (.seq (rf (.o 3 (.m 0) (.o 4 (.call 69 [(.t 3)]) .nil))) (.block 0 (.seq (rf (.o 6 (.bin .eql (.t 4) (.c (.str ⟨#[99, 111, 110, 115, 116]⟩))) (.o 5 (.m 6) .nil))) (.cond (.t 5) (.seq (rf (.o 2 (.move (.c (.str ⟨#[100, 99]⟩))) .nil)) .ret) (.seq (.seq (rf (.o 8 (.bin .eql (.t 4) (.c (.str ⟨#[99, 111, 112, 121]⟩))) (.o 7 (.m 8) .nil))) (.cond (.t 7) .skip (rf (.o 9 (.bin .eql (.t 4) (.c (.str ⟨#[110, 101, 103]⟩))) (.o 7 (.m 9) .nil))))) (.cond (.t 7) (.seq (rf (.o 2 (.move (.c (.str ⟨#[100, 97]⟩))) .nil)) .ret) (.seq (.seq (rf (.o 11 (.bin .eql (.t 4) (.c (.str ⟨#[97, 100, 100]⟩))) (.o 10 (.m 11) .nil))) (.cond (.t 10) .skip (.seq (rf (.o 12 (.bin .eql (.t 4) (.c (.str ⟨#[115, 117, 98]⟩))) (.o 10 (.m 12) .nil))) (.cond (.t 10) .skip (rf (.o 13 (.bin .eql (.t 4) (.c (.str ⟨#[109, 117, 108]⟩))) (.o 10 (.m 13) .nil))))))) (.cond (.t 10) (.seq (rf (.o 2 (.move (.c (.str ⟨#[100, 97, 98]⟩))) .nil)) .ret) (.seq (rf (.o 15 (.bin .eql (.t 4) (.c (.str ⟨#[105, 110, 112, 117, 116]⟩))) (.o 14 (.m 15) .nil))) (.cond (.t 14) (.seq (rf (.o 2 (.move (.c (.str ⟨#[100]⟩))) .nil)) .ret) (.seq (rf (.o 17 (.bin .eql (.t 4) (.c (.str ⟨#[99, 97, 108, 108]⟩))) (.o 16 (.m 17) .nil))) (.cond (.t 16) (.seq (rf (.o 2 (.move (.c (.str ⟨#[100, 102]⟩))) .nil)) .ret) (.seq (.seq (rf (.o 19 (.bin .eql (.t 4) (.c (.str ⟨#[117, 115, 101]⟩))) (.o 18 (.m 19) .nil))) (.cond (.t 18) .skip (rf (.o 20 (.bin .eql (.t 4) (.c (.str ⟨#[114, 101, 116]⟩))) (.o 18 (.m 20) .nil))))) (.cond (.t 18) (.seq (rf (.o 2 (.move (.c (.str ⟨#[97]⟩))) .nil)) .ret) .skip)))))))))))))) (.seq (rf (.o 2 (.move (.c (.str ⟨#[]⟩))) .nil)) .ret))), [.tmp 2]⟩
theorem b85 : fnOf Go.Proofs.Tryz.prog (owOf []) 85 = some c85 := by kernel_rfl
end Go.Vm
end
section
/- Walks. -/
set_option maxRecDepth 100000
set_option linter.unusedSimpArgs false
set_option linter.unusedVariables false
namespace Go.Vm
open Go
set_option maxHeartbeats 4000000
theorem fields_get (k : Nat) (h : k < 10) : (nmL.map PV.str)[k]? = some (.str (nmL.getD k bs0)) := by
  rcases (by omega : k = 0 ∨ k = 1 ∨ k = 2 ∨ k = 3 ∨ k = 4 ∨ k = 5 ∨ k = 6 ∨ k = 7 ∨ k = 8 ∨ k = 9) with rfl | rfl | rfl | rfl | rfl | rfl | rfl | rfl | rfl | rfl <;> rfl
theorem p_instr_Name (k : Int) : Pure Go.Proofs.Tryz.prog glD 69 [.int .i64 k] (.str (nm k)) := by
  refine Pure.fn hmix b69 ?_
  repeat' first | (with_reducible first | refine tr_seq ?_ | refine n_nil ?_ | refine seqQ_normal ?_ | refine seqQ_ret ?_ | refine blkQ_ret ?_ | refine tr_skip ?_ | refine tr_ret ?_ | refine condT_t ?_ | refine condT_f ?_) | ((with_reducible refine tr_region_f ?_ ?_); kernel_rfl) | exact ⟨rfl, rfl⟩ | ((with_reducible apply tr_cond_e); rfl) | ((with_reducible apply n_and); rfl; rfl; intro h) | ((with_reducible apply n_or); rfl; rfl; intro h) | ((with_reducible apply n_idx_sl (y := .str (nmL.getD k.toNat bs0))); rfl; rfl; (first | omega | (simp only [zz, tab_length] at *; omega)); exact fields_get _ (by first | omega | (simp only [zz, tab_length] at *; omega)); rfl) | ((with_reducible apply n_val); rfl; rfl) | ((with_reducible apply n_call (f := 76)); rfl; rfl; exact p_fields) | (with_reducible refine condT_split (fun h => ?_) (fun h => ?_)) | ((with_reducible apply fnQ_told_ret); rfl) | ((with_reducible apply fnQ_ret_soft); rfl; rfl)
  all_goals (simp only [Bool.or_eq_true, decide_eq_true_eq, Bool.or_eq_false_iff, decide_eq_false_iff_not] at h)
  · rw [nm, if_neg (by omega)]
    rfl
  · rw [nm, if_pos (by omega)]
theorem p_instr_parts (k : Int) : Pure Go.Proofs.Tryz.prog glD 85 [.int .i64 k] (.str (pt k)) := by
  have hn := p_instr_Name k
  rcases kind_cases k with rfl | rfl | rfl | rfl | rfl | rfl | rfl | rfl | rfl | rfl | h
  all_goals
    (try (rw [show nm k = bs0 by rw [nm, if_neg (by omega)]] at hn; rw [show pt k = bs0 by rw [pt, if_neg (by omega)]]))
    refine Pure.fn hmix b85 ?_
    repeat' first | (with_reducible first | refine tr_seq ?_ | refine n_nil ?_ | refine seqQ_normal ?_ | refine seqQ_ret ?_ | refine blkQ_normal ?_ | refine blkQ_ret ?_ | refine tr_block ?_ | refine tr_skip ?_ | refine tr_ret ?_ | refine condT_t ?_ | refine condT_f ?_) | ((with_reducible refine tr_region_f ?_ ?_); kernel_rfl) | ((with_reducible apply tr_cond_e); rfl) | ((with_reducible refine condT_T ?_ ?_); decide +kernel) | ((with_reducible refine condT_F ?_ ?_); decide +kernel) | ((with_reducible apply n_andF); rfl; rfl; decide +kernel) | ((with_reducible apply n_orT); rfl; rfl; decide +kernel) | with_reducible refine unrQ_normal ?_ | with_reducible refine unrQ_exit ?_ | with_reducible refine unrQ_ret ?_ | ((with_reducible apply n_call (f := 69)); rfl; rfl; exact hn) | ((with_reducible apply n_val); rfl; rfl) | (with_reducible refine condT_split (fun h => ?_) (fun h => ?_)) | ((with_reducible apply fnQ_told_ret); rfl) | ((with_reducible apply fnQ_ret_soft); rfl; rfl)
    rfl
end Go.Vm
end
