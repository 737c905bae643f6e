/- Laid. -/
import Derived.Test.YtlcbceneacnaiaaGreatDoorVmThree
import Derived.KernelRfl
import Derived.Test.YtlcbceneacnaiaaGreatDoorProg
import Derived.Test.YtlcbceneacnaiaaGreatDoorXsignC
section
/- Code. -/
set_option maxRecDepth 100000
set_option linter.unusedSimpArgs false
set_option linter.unusedVariables false
namespace Go.Vm
open Go
def c28 : RFn := ⟨(.seq (.region (Nodes.flat none (.op (some 4) (.move (.c (.bool false))) 0
  .nil)) false)
 (.seq (.seq (.region (Nodes.flat none (.op (some 6) (.move (.t 0)) 0
  (.op (some 7) (.len false (.t 6)) 0
  (.op (some 8) (.move (.t 1)) 0
  (.op (some 9) (.len false (.t 8)) 0
  (.op (some 10) (.bin .neq (.t 7) (.t 9)) 0
  .nil)))))) false)
 (.cond (.t 10)
 (.seq (.region (Nodes.flat none (.op (some 4) (.move (.c (.bool false))) 0
  .nil)) false)
 .ret)
 .skip))
 (.seq (.seq (.region (Nodes.flat none (.op (some 5) (.move (.c (.int .i64 0))) 0
  .nil)) false)
 (.block 0 (.loop (.seq (.seq (.region (Nodes.flat none (.op (some 11) (.move (.t 5)) 0
  (.op (some 12) (.move (.t 0)) 0
  (.op (some 13) (.len false (.t 12)) 0
  (.op (some 14) (.bin .lss (.t 11) (.t 13)) 0
  .nil))))) false)
 (.cond (.t 14)
 .skip
 (.exit 0)))
 (.seq (.block 1 (.seq (.region (Nodes.flat none (.op (some 17) (.move (.t 0)) 0
  (.op (some 18) (.move (.t 5)) 0
  (.op (some 19) (.idxAddr 1 (.t 17) (.t 18)) 3
  (.op (some 20) (.load none (.t 19)) 7
  (.op (some 21) (.move (.t 1)) 0
  (.op (some 22) (.move (.t 5)) 0
  (.op (some 23) (.idxAddr 1 (.t 21) (.t 22)) 48
  (.op (some 24) (.load none (.t 23)) 112
  (.op (some 25) (.bin .neq (.t 20) (.t 24)) 255
  .nil)))))))))) true)
 (.cond (.t 25)
 (.seq (.region (Nodes.flat none (.op (some 4) (.move (.c (.bool false))) 0
  .nil)) false)
 .ret)
 .skip)))
 (.region (Nodes.flat none (.op (some 15) (.move (.t 5)) 0
  (.op (some 16) (.bin .add (.t 15) (.c (.int .i64 1))) 0
  (.op (some 5) (.move (.t 16)) 0
  .nil)))) false))))))
 (.seq (.region (Nodes.flat none (.op (some 4) (.move (.c (.bool true))) 0
  .nil)) false)
 .ret)))),
 [.tmp 4]⟩
theorem b28 : fnOf Go.Proofs.Tryz.prog (owOf []) 28 = some c28 := by kernel_rfl
end Go.Vm
end
section
/- Walks. -/
set_option maxRecDepth 100000
set_option linter.unusedSimpArgs false
set_option linter.unusedVariables false
namespace Go.Vm
open Go
section
variable {gl : Nat → Option PV}
set_option maxHeartbeats 4000000
theorem take_eq_all {l m : List Int} {i : Int} (h : i = l.length) (hl : l.length = m.length) (he : l.take i.toNat = m.take i.toNat) : l = m := by
  rw [take_all h, take_all (by omega)] at he
  exact he
theorem p_ref01_Ints (l m : List Int) (hl : l.length ≤ 1000000000) : Pure Go.Proofs.Tryz.prog gl 28 [.sl (ints l), .sl (ints m)] (.bool (l == m)) := by
  refine Pure.fn hmix b28 ?_
  repeat' first
    | with_reducible refine tr_seq ?_
    | ((with_reducible refine tr_region_f ?_ ?_); kernel_rfl)
    | ((with_reducible refine tr_region_t ?_ ?_ ?_); kernel_rfl; kernel_rfl)
    | with_reducible refine n_nil ?_
    | with_reducible refine seqQ_normal ?_
    | with_reducible refine seqQ_exit ?_
    | with_reducible refine seqQ_ret ?_
    | with_reducible refine blkQ_normal ?_
    | with_reducible refine blkQ_exit ?_
    | with_reducible refine blkQ_ret ?_
    | ((with_reducible refine blkQ_exit_ne ?_ ?_); rfl)
    | with_reducible refine tr_block ?_
    | with_reducible refine tr_skip ?_
    | with_reducible refine tr_exit ?_
    | with_reducible refine tr_ret ?_
    | ((with_reducible apply tr_cond_e); rfl)
    | with_reducible refine condT_t ?_
    | with_reducible refine condT_f ?_
    | with_reducible refine loopV_exit ?_
    | with_reducible refine loopV_ret ?_
    | ((with_reducible apply n_idx_ints); rfl; rfl; (simp only [decide_eq_true_eq, ints_length, bne_iff_ne, ne_eq, bne_eq_false_iff_eq] at *; omega))
    | (refine tr_loop_v (α := Int) 0 (fun | i => [(5, some (.int .i64 i)), (11, none), (12, none), (13, none), (14, none), (17, none), (18, none), (19, none), (20, none), (21, none), (22, none), (23, none), (24, none), (25, none), (4, none), (15, none), (16, none)]) (fun | i => []) (fun | i => 0 ≤ i ∧ i ≤ l.length ∧ l.length = m.length ∧ l.take i.toNat = m.take i.toNat) (fun | i => (l.length - i).toNat) (0) (ks := [5, 11, 12, 13, 14, 17, 18, 19, 20, 21, 22, 23, 24, 25, 4, 15, 16]) (fun _ => rfl) (fun _ => rfl) rfl (by omega) ?_ ⟨⟨_, rfl, rfl⟩, trivial⟩ trivial ?_; rotate_left; rintro i hx; try dsimp only at hx)
    | ((first | (refine loopV_normal (_) ?_ ⟨⟨_, rfl, rfl⟩, trivial⟩ trivial ?_ ?_)); repeat (first | exact only_refl | refine only_put rfl ?_ | refine only_less rfl ?_ | refine only_ov rfl ?_))
    | ((with_reducible apply n_val); rfl; rfl)
    | (with_reducible refine condT_split (fun h => ?_) (fun h => ?_))
    | ((with_reducible apply fnQ_told_ret); rfl)
    | ((with_reducible apply fnQ_ret_soft); rfl; rfl)
  all_goals (try dsimp only at *)
  all_goals (try simp only [decide_eq_true_eq, decide_eq_false_iff_not, ints_length, bne_iff_ne, ne_eq, bne_eq_false_iff_eq] at *)
  · have : l ≠ m := fun e => h (by rw [e])
    simp [this]
  · have hne : l ≠ m := by
      intro e
      subst e
      exact absurd rfl ‹_›
    simp [hne]
  · rw [wrap_i64_of (by omega)]; omega
  · have e : l.getD i.toNat 0 = m.getD i.toNat 0 := by assumption
    rw [wrap_i64_of (by omega), take_snoc (by omega) (by omega), take_snoc (by omega) (by omega)]
    exact ⟨by omega, by omega, hx.2.2.1, by rw [hx.2.2.2, e]⟩
  · have : l = m := take_eq_all (by omega) hx.2.2.1 hx.2.2.2
    simp [this]
  · exact ⟨by omega, by omega, by omega, rfl⟩
end
end Go.Vm
end
