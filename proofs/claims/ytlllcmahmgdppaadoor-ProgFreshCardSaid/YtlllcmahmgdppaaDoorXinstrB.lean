/- Laid. -/
import Derived.Test.YtlllcmahmgdppaaDoorVmThree
import Derived.KernelRfl
import Derived.Test.YtlllcmahmgdppaaDoorProg
import Derived.Test.YtlllcmahmgdppaaDoorXinstrA
section
/- Code. -/
set_option maxRecDepth 100000
set_option linter.unusedSimpArgs false
set_option linter.unusedVariables false
namespace Go.Vm
open Go
def c44 : RFn := ⟨(.seq (.region (Nodes.flat none (.op (some 2) (.move (.c (.str ⟨#[]⟩))) 0
  .nil)) false)
 (.seq (.seq (.region (Nodes.flat none (.op (some 3) (.move (.t 0)) 0
  (.op (some 4) (.bin .lss (.t 3) (.c (.int .i64 0))) 0
  (.op (some 5) (.move (.t 4)) 0
  (.grd 5 false
  (.op (some 6) (.move (.t 0)) 0
  (.op (some 7) (.bin .geq (.t 6) (.c (.int .i64 10))) 0
  .nil))
  (.op (some 8) (.pick (.t 5) (.c (.bool true)) (.t 7)) 0
  .nil)))))) false)
 (.cond (.t 8)
 (.seq (.region (Nodes.flat none (.op (some 2) (.move (.c (.str ⟨#[]⟩))) 0
  .nil)) false)
 .ret)
 .skip))
 (.seq (.region (Nodes.flat none (.op (some 9) (.call 51 [(.c (.str ⟨#[99, 111, 110, 115, 116, 32, 99, 111, 112, 121, 32, 110, 101, 103, 32, 97, 100, 100, 32, 115, 117, 98, 32, 109, 117, 108, 32, 105, 110, 112, 117, 116, 32, 99, 97, 108, 108, 32, 117, 115, 101, 32, 114, 101, 116]⟩))]) 0
  (.op (some 10) (.move (.t 0)) 0
  (.op (some 11) (.idxAddr 1 (.t 9) (.t 10)) 0
  (.op (some 12) (.load none (.t 11)) 0
  (.op (some 2) (.move (.t 12)) 0
  .nil)))))) false)
 .ret))),
 [.tmp 2]⟩
theorem b44 : fnOf Go.Proofs.Tryd.prog (owOf []) 44 = some c44 := by kernel_rfl
def c59 : RFn := ⟨(.seq (.region (Nodes.flat none (.op (some 2) (.move (.c (.str ⟨#[]⟩))) 0
  .nil)) false)
 (.seq (.seq (.region (Nodes.flat none (.op (some 3) (.move (.t 0)) 0
  (.op (some 4) (.call 44 [(.t 3)]) 0
  .nil))) false)
 (.block 0 (.seq (.region (Nodes.flat none (.op (some 6) (.bin .eql (.t 4) (.c (.str ⟨#[99, 111, 110, 115, 116]⟩))) 0
  (.op (some 5) (.move (.t 6)) 0
  .nil))) false)
 (.cond (.t 5)
 (.seq (.region (Nodes.flat none (.op (some 2) (.move (.c (.str ⟨#[100, 99]⟩))) 0
  .nil)) false)
 .ret)
 (.seq (.seq (.region (Nodes.flat none (.op (some 8) (.bin .eql (.t 4) (.c (.str ⟨#[99, 111, 112, 121]⟩))) 0
  (.op (some 7) (.move (.t 8)) 0
  .nil))) false)
 (.cond (.t 7)
 .skip
 (.region (Nodes.flat none (.op (some 9) (.bin .eql (.t 4) (.c (.str ⟨#[110, 101, 103]⟩))) 0
  (.op (some 7) (.move (.t 9)) 0
  .nil))) false)))
 (.cond (.t 7)
 (.seq (.region (Nodes.flat none (.op (some 2) (.move (.c (.str ⟨#[100, 97]⟩))) 0
  .nil)) false)
 .ret)
 (.seq (.seq (.region (Nodes.flat none (.op (some 11) (.bin .eql (.t 4) (.c (.str ⟨#[97, 100, 100]⟩))) 0
  (.op (some 10) (.move (.t 11)) 0
  .nil))) false)
 (.cond (.t 10)
 .skip
 (.seq (.region (Nodes.flat none (.op (some 12) (.bin .eql (.t 4) (.c (.str ⟨#[115, 117, 98]⟩))) 0
  (.op (some 10) (.move (.t 12)) 0
  .nil))) false)
 (.cond (.t 10)
 .skip
 (.region (Nodes.flat none (.op (some 13) (.bin .eql (.t 4) (.c (.str ⟨#[109, 117, 108]⟩))) 0
  (.op (some 10) (.move (.t 13)) 0
  .nil))) false)))))
 (.cond (.t 10)
 (.seq (.region (Nodes.flat none (.op (some 2) (.move (.c (.str ⟨#[100, 97, 98]⟩))) 0
  .nil)) false)
 .ret)
 (.seq (.region (Nodes.flat none (.op (some 15) (.bin .eql (.t 4) (.c (.str ⟨#[105, 110, 112, 117, 116]⟩))) 0
  (.op (some 14) (.move (.t 15)) 0
  .nil))) false)
 (.cond (.t 14)
 (.seq (.region (Nodes.flat none (.op (some 2) (.move (.c (.str ⟨#[100]⟩))) 0
  .nil)) false)
 .ret)
 (.seq (.region (Nodes.flat none (.op (some 17) (.bin .eql (.t 4) (.c (.str ⟨#[99, 97, 108, 108]⟩))) 0
  (.op (some 16) (.move (.t 17)) 0
  .nil))) false)
 (.cond (.t 16)
 (.seq (.region (Nodes.flat none (.op (some 2) (.move (.c (.str ⟨#[100, 102]⟩))) 0
  .nil)) false)
 .ret)
 (.seq (.seq (.region (Nodes.flat none (.op (some 19) (.bin .eql (.t 4) (.c (.str ⟨#[117, 115, 101]⟩))) 0
  (.op (some 18) (.move (.t 19)) 0
  .nil))) false)
 (.cond (.t 18)
 .skip
 (.region (Nodes.flat none (.op (some 20) (.bin .eql (.t 4) (.c (.str ⟨#[114, 101, 116]⟩))) 0
  (.op (some 18) (.move (.t 20)) 0
  .nil))) false)))
 (.cond (.t 18)
 (.seq (.region (Nodes.flat none (.op (some 2) (.move (.c (.str ⟨#[97]⟩))) 0
  .nil)) false)
 .ret)
 .skip))))))))))))))
 (.seq (.region (Nodes.flat none (.op (some 2) (.move (.c (.str ⟨#[]⟩))) 0
  .nil)) false)
 .ret))),
 [.tmp 2]⟩
theorem b59 : fnOf Go.Proofs.Tryd.prog (owOf []) 59 = some c59 := by kernel_rfl
end Go.Vm
end
section
/- Walks. -/
set_option maxRecDepth 100000
set_option linter.unusedSimpArgs false
set_option linter.unusedVariables false
namespace Go.Vm
open Go
set_option maxHeartbeats 4000000
theorem fields_get (k : Nat) (h : k < 10) : (nmL.map PV.str)[k]? = some (.str (nmL.getD k bs0)) := by
  rcases (by omega : k = 0 ∨ k = 1 ∨ k = 2 ∨ k = 3 ∨ k = 4 ∨ k = 5 ∨ k = 6 ∨ k = 7 ∨ k = 8 ∨ k = 9) with rfl | rfl | rfl | rfl | rfl | rfl | rfl | rfl | rfl | rfl <;> rfl
theorem p_instr_Name (k : Int) : Pure Go.Proofs.Tryd.prog glD 44 [.int .i64 k] (.str (nm k)) := by
  refine Pure.fn hmix b44 ?_
  repeat' first
    | with_reducible refine tr_seq ?_
    | ((with_reducible refine tr_region_f ?_ ?_); kernel_rfl)
    | with_reducible refine n_nil ?_
    | exact ⟨rfl, rfl⟩
    | with_reducible refine seqQ_normal ?_
    | with_reducible refine seqQ_ret ?_
    | with_reducible refine blkQ_ret ?_
    | with_reducible refine tr_skip ?_
    | with_reducible refine tr_ret ?_
    | ((with_reducible apply tr_cond_e); rfl)
    | with_reducible refine condT_t ?_
    | with_reducible refine condT_f ?_
    | ((with_reducible apply n_and); rfl; rfl; intro h)
    | ((with_reducible apply n_or); rfl; rfl; intro h)
    | ((with_reducible apply n_idx_sl (y := .str (nmL.getD k.toNat bs0))); rfl; rfl; (first | omega | (simp only [decide_eq_true_eq, decide_eq_false_iff_not, Bool.or_eq_false_iff, Bool.not_eq_true', Bool.not_eq_false', Bool.not_true, Bool.not_false, ints_length, List.length_map, tab_length] at *; omega)); exact fields_get _ (by first | omega | (simp only [decide_eq_true_eq, decide_eq_false_iff_not, Bool.or_eq_false_iff, Bool.not_eq_true', Bool.not_eq_false', Bool.not_true, Bool.not_false, ints_length, List.length_map, tab_length] at *; omega)); rfl)
    | ((with_reducible apply n_val); rfl; rfl)
    | ((with_reducible apply n_call (f := 51)); rfl; rfl; exact p_fields)
    | (with_reducible refine condT_split (fun h => ?_) (fun h => ?_))
    | ((with_reducible apply fnQ_told_ret); rfl)
    | ((with_reducible apply fnQ_ret_soft); rfl; rfl)
  all_goals (simp only [Bool.or_eq_true, decide_eq_true_eq, Bool.or_eq_false_iff, decide_eq_false_iff_not] at h)
  · rw [nm, if_neg (by omega)]
    rfl
  · rw [nm, if_pos (by omega)]
theorem p_instr_parts (k : Int) : Pure Go.Proofs.Tryd.prog glD 59 [.int .i64 k] (.str (pt k)) := by
  have hn := p_instr_Name k
  rcases kind_cases k with rfl | rfl | rfl | rfl | rfl | rfl | rfl | rfl | rfl | rfl | h
  all_goals
    (try (rw [show nm k = bs0 by rw [nm, if_neg (by omega)]] at hn; rw [show pt k = bs0 by rw [pt, if_neg (by omega)]]))
    refine Pure.fn hmix b59 ?_
    repeat' first
      | with_reducible refine tr_seq ?_
      | ((with_reducible refine tr_region_f ?_ ?_); kernel_rfl)
      | with_reducible refine n_nil ?_
      | with_reducible refine seqQ_normal ?_
      | with_reducible refine seqQ_ret ?_
      | with_reducible refine blkQ_normal ?_
      | with_reducible refine blkQ_ret ?_
      | with_reducible refine tr_block ?_
      | with_reducible refine tr_skip ?_
      | with_reducible refine tr_ret ?_
      | ((with_reducible apply tr_cond_e); rfl)
      | with_reducible refine condT_t ?_
      | with_reducible refine condT_f ?_
      | ((with_reducible refine condT_T ?_ ?_); decide +kernel)
      | ((with_reducible refine condT_F ?_ ?_); decide +kernel)
      | ((with_reducible apply n_andF); rfl; rfl; decide +kernel)
      | ((with_reducible apply n_orT); rfl; rfl; decide +kernel)
      | with_reducible refine unrQ_normal ?_
      | with_reducible refine unrQ_exit ?_
      | with_reducible refine unrQ_ret ?_
      | ((with_reducible apply n_call (f := 44)); rfl; rfl; exact hn)
      | ((with_reducible apply n_val); rfl; rfl)
      | (with_reducible refine condT_split (fun h => ?_) (fun h => ?_))
      | ((with_reducible apply fnQ_told_ret); rfl)
      | ((with_reducible apply fnQ_ret_soft); rfl; rfl)
    rfl
end Go.Vm
end
