/- Laid. -/
import Derived.Test.YtlllcmahmgdppaaGreatDoorVmThree
import Derived.KernelRfl
import Derived.Test.YtlllcmahmgdppaaGreatDoorProg
import Derived.Test.YtlllcmahmgdppaaGreatDoorXsortL
section
/- Code. -/
set_option maxRecDepth 100000
set_option linter.unusedSimpArgs false
set_option linter.unusedVariables false
namespace Go.Vm
open Go
def c14 : RFn := ⟨(.seq (rf (.o 2 (.box (.t 0)) (.o 3 (.box (.t 1)) (.o 4 (.move (.c (.lit []))) .nil)))) (.seq (.seq (rf (.o 9 (.load (some 1) (.t 2)) (.o 10 (.load none (.t 3)) (.o 11 (.call 21 [(.t 9), (.t 10)]) (.o 8 (.m 11) (.o 12 (.extract 0 (.t 8)) (.o 13 (.extract 1 (.t 8)) (.o 5 (.alloc (.agg [(.int .i64 0), (.int .i64 0), (.lit [])])) (.op none (.store 3 (.t 5) (.t 12)) 0 (.o 6 (.m 13) .nil)))))))))) (.seq (rf (.o 14 (.m 6) (.o 15 (.un .not (.t 14)) .nil))) (.cond (.t 15) (.seq (rf (.o 4 (.move (.c (.lit []))) .nil)) .ret) .skip))) (.seq (rf (.o 7 (.alloc (.lit [])) .nil)) (.seq (rf (.o 16 (.load (some 1) (.t 2)) (.o 17 (.mkfunc 52 [(.t 3), (.t 7)]) (.o 18 (.call 51 [(.t 16), (.t 17)]) .nil)))) (.seq (rf (.o 19 (.load none (.t 7)) (.o 4 (.m 19) .nil))) .ret))))), [.tmp 4]⟩
theorem b14 : fnOf Go.Proofs.Tryz.prog (owOf []) 14 = some c14 := by kernel_rfl
def c15 : RFn := ⟨(.seq (rf (.o 3 (.box (.t 0)) (.o 4 (.box (.t 1)) (.o 5 (.box (.t 2)) (.o 6 (.move (.c (.lit []))) .nil))))) (.seq (.seq (rf (.o 11 (.load (some 1) (.t 3)) (.o 12 (.load none (.t 4)) (.o 13 (.call 21 [(.t 11), (.t 12)]) (.o 10 (.m 13) (.o 14 (.extract 0 (.t 10)) (.o 15 (.extract 1 (.t 10)) (.o 7 (.alloc (.agg [(.int .i64 0), (.int .i64 0), (.lit [])])) (.op none (.store 3 (.t 7) (.t 14)) 0 (.o 8 (.m 15) .nil)))))))))) (.seq (rf (.o 16 (.m 8) (.o 17 (.un .not (.t 16)) (.o 18 (.m 17) (.grd 18 false (.o 19 (.load none (.t 5)) (.o 20 (.bin .lss (.t 19) (.i 0)) .nil)) (.o 21 (.pick (.t 18) (.c (.bool true)) (.t 20)) .nil)))))) (.cond (.t 21) (.seq (rf (.o 6 (.move (.c (.lit []))) .nil)) .ret) .skip))) (.seq (rf (.o 9 (.alloc (.lit [])) .nil)) (.seq (rf (.o 22 (.load (some 1) (.t 3)) (.o 23 (.mkfunc 53 [(.t 4), (.t 5), (.t 9)]) (.o 24 (.call 51 [(.t 22), (.t 23)]) .nil)))) (.seq (rf (.o 25 (.load none (.t 9)) (.o 26 (.call 54 [(.t 25)]) .nil))) (.seq (rf (.o 27 (.load none (.t 9)) (.o 6 (.m 27) .nil))) .ret)))))), [.tmp 6]⟩
theorem b15 : fnOf Go.Proofs.Tryz.prog (owOf []) 15 = some c15 := by kernel_rfl
end Go.Vm
end
section
/- Walks. -/
set_option maxRecDepth 100000
set_option linter.unusedSimpArgs false
set_option linter.unusedVariables false
namespace Go.Vm
open Go
set_option maxHeartbeats 4000000
theorem p_Calls (p : List Fn) (f : Int) (hf : few p = true) : Pure Go.Proofs.Tryz.prog glD 14 [pP p, .int .i64 f] (.sl ((callsV p f).map pPs)) := by
  have h1 : Pure Go.Proofs.Tryz.prog glD 21 [pP p, .int .i64 f] (.tup [pF ((funV p f).getD F0), .bool (funV p f).isSome]) := p_Fun p f (few_fit hf)
  have hE := h_eachCalls (gl := glD) p f hf
  cases ho : (funV p f).isSome with
  | false =>
    have e : callsV p f = [] := by rw [callsV, ho]; rfl
    rw [e]
    rw [ho] at h1
    refine Pure.fn hmix b14 ?_
    repeat' first | (with_reducible first | refine tr_seq ?_ | refine n_nil ?_ | refine seqQ_normal ?_ | refine seqQ_ret ?_ | refine blkQ_ret ?_ | refine tr_skip ?_ | refine tr_ret ?_ | refine condT_t ?_ | refine condT_f ?_) | ((with_reducible refine tr_region_f ?_ ?_); kernel_rfl) | ((with_reducible apply tr_cond_e); rfl) | ((with_reducible refine condT_T ?_ ?_); decide +kernel) | ((with_reducible refine condT_F ?_ ?_); decide +kernel) | ((with_reducible apply n_andF); rfl; rfl; decide +kernel) | ((with_reducible apply n_orT); rfl; rfl; decide +kernel) | with_reducible refine unrQ_normal ?_ | with_reducible refine unrQ_exit ?_ | with_reducible refine unrQ_ret ?_ | ((with_reducible apply n_call (f := 21)); rfl; rfl; exact h1) | ((with_reducible apply n_val); rfl; rfl) | ((with_reducible apply n_new); rfl; (first | (simp only [hn0, hn1, hn2, hn3, hn4, hn5, List.length_cons, List.length_nil, Nat.reduceAdd, Nat.zero_add]; first | done | rfl) | rfl); rfl) | ((with_reducible apply n_store); rfl; rfl; rfl; rfl; rfl) | (with_reducible refine condT_split (fun h => ?_) (fun h => ?_)) | ((with_reducible apply fnQ_told_ret); rfl) | ((with_reducible apply fnQ_ret_soft); rfl; rfl)
    all_goals rfl
  | true =>
    have e : callsV p f = em1 p (clG p f) p.length := by rw [callsV, if_pos ho]
    rw [e]
    rw [ho] at h1
    refine Pure.fn hmix b14 ?_
    repeat' first | (with_reducible first | refine tr_seq ?_ | refine n_nil ?_ | refine seqQ_normal ?_ | refine seqQ_ret ?_ | refine blkQ_ret ?_ | refine tr_skip ?_ | refine tr_ret ?_ | refine condT_t ?_ | refine condT_f ?_) | ((with_reducible refine tr_region_f ?_ ?_); kernel_rfl) | ((with_reducible apply tr_cond_e); rfl) | ((with_reducible refine condT_T ?_ ?_); decide +kernel) | ((with_reducible refine condT_F ?_ ?_); decide +kernel) | ((with_reducible apply n_andF); rfl; rfl; decide +kernel) | ((with_reducible apply n_orT); rfl; rfl; decide +kernel) | with_reducible refine unrQ_normal ?_ | with_reducible refine unrQ_exit ?_ | with_reducible refine unrQ_ret ?_ | ((with_reducible apply n_call (f := 21)); rfl; rfl; exact h1) | ((with_reducible apply n_val); rfl; rfl) | ((with_reducible apply n_new); rfl; (first | (simp only [hn0, hn1, hn2, hn3, hn4, hn5, hn6, List.length_cons, List.length_nil, Nat.reduceAdd, Nat.reduceSub, Nat.zero_add, Nat.add_zero]; first | done | rfl) | rfl); rfl) | ((with_reducible apply n_store); rfl; rfl; rfl; rfl; rfl) | ((with_reducible apply n_frameL (f := 51) [1, 3]); (first | (simp only [hn0, hn1, hn2, hn3, hn4, hn5, hn6, List.length_cons, List.length_nil, Nat.reduceAdd, Nat.reduceSub, Nat.zero_add, Nat.add_zero]; done) | (simp only [hn0, hn1, hn2, hn3, hn4, hn5, hn6, List.length_cons, List.length_nil, Nat.reduceAdd, Nat.reduceSub, Nat.zero_add, Nat.add_zero]; rfl) | rfl); rfl; exact h_eachCalls p f hf; rfl; rfl; rfl; decide; decide; (repeat (first | exact trivial | (refine ⟨⟨_, rfl, rfl, rfl, ?_, ?_⟩, ?_⟩; (first | rfl | exact (renL_pure (vals_pure (fun _ => rfl) _)).symm | exact (renL_pure (ints_pure _)).symm); (first | rfl | exact vals_under (fun _ => rfl) _)) | refine ⟨trivial, ?_⟩)); rfl; (repeat (first | exact RenL.nil | apply RenL.none | (apply RenL.some; (first | exact renL_pure (vals_pure (fun _ => rfl) _) | exact renL_pure (ints_pure _) | rfl))))) | (with_reducible refine condT_split (fun h => ?_) (fun h => ?_)) | ((with_reducible apply fnQ_told_ret); rfl) | ((with_reducible apply fnQ_ret_soft); rfl; rfl)
    exact fnQ_ret_vals (f := pPs) (xs := em1 p (clG p f) p.length) rfl rfl (fun _ => rfl) rfl rfl
theorem p_Defs (p : List Fn) (f v : Int) (hf : few p = true) : Pure Go.Proofs.Tryz.prog glD 15 [pP p, .int .i64 f, .int .i64 v] (.sl (ints (defsV p f v))) := by
  have h1 : Pure Go.Proofs.Tryz.prog glD 21 [pP p, .int .i64 f] (.tup [pF ((funV p f).getD F0), .bool (funV p f).isSome]) := p_Fun p f (few_fit hf)
  have hl : (defsU p f v).length ≤ 1000000 := by
    have := em1_le (g := dfG p f v) hf (dfG_le p f v) p.length
    have := (few_bs hf).1
    rw [defsU]; omega
  cases ho : ((funV p f).isSome && decide (0 ≤ v)) with
  | false =>
    have e : defsV p f v = [] := by rw [defsV, ho]; rfl
    rw [e]
    refine Pure.fn hmix b15 ?_
    repeat' first | (with_reducible first | refine tr_seq ?_ | refine n_nil ?_ | refine seqQ_normal ?_ | refine seqQ_ret ?_ | refine blkQ_ret ?_ | refine tr_skip ?_ | refine tr_ret ?_ | refine condT_t ?_ | refine condT_f ?_) | ((with_reducible refine tr_region_f ?_ ?_); kernel_rfl) | exact ⟨rfl, rfl⟩ | ((with_reducible apply tr_cond_e); rfl) | ((with_reducible apply n_and); rfl; rfl; intro h) | ((with_reducible apply n_or); rfl; rfl; intro h) | ((with_reducible apply n_call (f := 21)); rfl; rfl; exact h1) | (refine condT_F ?_ ?_; (exfalso; rename _ = false => hq; revert hq ho; cases (funV p f).isSome <;> simp <;> omega)) | ((with_reducible apply n_val); rfl; rfl) | ((with_reducible apply n_new); rfl; (first | (simp only [hn0, hn1, hn2, hn3, hn4, hn5, List.length_cons, List.length_nil, Nat.reduceAdd, Nat.zero_add]; first | done | rfl) | rfl); rfl) | ((with_reducible apply n_store); rfl; rfl; rfl; rfl; rfl) | (with_reducible refine condT_split (fun h => ?_) (fun h => ?_)) | ((with_reducible apply fnQ_told_ret); rfl) | ((with_reducible apply fnQ_ret_soft); rfl; rfl)
    · rfl
    · exfalso
      rename (_ || _) = false => hq
      revert hq ho
      cases (funV p f).isSome
      · simp
      · intro h1 h2
        simp at h1 h2
        omega
  | true =>
    have e : defsV p f v = sortL (defsU p f v) := by rw [defsV, if_pos ho]
    rw [e]
    simp only [Bool.and_eq_true, decide_eq_true_eq] at ho
    rw [ho.1] at h1
    by_cases hz : defsU p f v = []
    · have hE := h_eachDefs p f v hf
      have hz' : em1 p (dfG p f v) p.length = [] := hz
      rw [hz'] at hE
      refine Pure.fn hmix b15 ?_
      repeat' first | (with_reducible first | refine tr_seq ?_ | refine n_nil ?_ | refine seqQ_normal ?_ | refine seqQ_ret ?_ | refine blkQ_ret ?_ | refine tr_skip ?_ | refine tr_ret ?_ | refine condT_t ?_ | refine condT_f ?_) | ((with_reducible refine tr_region_f ?_ ?_); kernel_rfl) | exact ⟨rfl, rfl⟩ | ((with_reducible apply tr_cond_e); rfl) | ((with_reducible refine condT_T ?_ ?_); decide +kernel) | ((with_reducible refine condT_F ?_ ?_); decide +kernel) | ((with_reducible apply n_andF); rfl; rfl; decide +kernel) | ((with_reducible apply n_orT); rfl; rfl; decide +kernel) | ((with_reducible apply n_and); rfl; rfl; intro h) | ((with_reducible apply n_or); rfl; rfl; intro h) | with_reducible refine unrQ_normal ?_ | with_reducible refine unrQ_exit ?_ | with_reducible refine unrQ_ret ?_ | ((with_reducible apply n_call (f := 21)); rfl; rfl; exact h1) | ((with_reducible apply n_val); rfl; rfl) | ((with_reducible apply n_new); rfl; (first | (simp only [hn0, hn1, hn2, hn3, hn4, hn5, hn6, List.length_cons, List.length_nil, Nat.reduceAdd, Nat.reduceSub, Nat.zero_add, Nat.add_zero]; first | done | rfl) | rfl); rfl) | ((with_reducible apply n_store); rfl; rfl; rfl; rfl; rfl) | ((with_reducible apply n_callb (f := 54)); rfl; rfl; exact p_sort0; rfl) | ((with_reducible apply n_frameL  [1, 2, 4]); (first | (simp only [hn0, hn1, hn2, hn3, hn4, hn5, hn6, List.length_cons, List.length_nil, Nat.reduceAdd, Nat.reduceSub, Nat.zero_add, Nat.add_zero]; done) | (simp only [hn0, hn1, hn2, hn3, hn4, hn5, hn6, List.length_cons, List.length_nil, Nat.reduceAdd, Nat.reduceSub, Nat.zero_add, Nat.add_zero]; rfl) | rfl); rfl; exact hE; rfl; rfl; rfl; decide; decide; (repeat (first | exact trivial | (refine ⟨⟨_, rfl, rfl, rfl, ?_, ?_⟩, ?_⟩; (first | rfl | exact (renL_pure (vals_pure (fun _ => rfl) _)).symm | exact (renL_pure (ints_pure _)).symm); (first | rfl | exact vals_under (fun _ => rfl) _)) | refine ⟨trivial, ?_⟩)); rfl; (repeat (first | exact RenL.nil | apply RenL.none | (apply RenL.some; (first | exact renL_pure (vals_pure (fun _ => rfl) _) | exact renL_pure (ints_pure _) | rfl))))) | (with_reducible refine condT_split (fun h => ?_) (fun h => ?_)) | ((with_reducible apply fnQ_told_ret); rfl) | ((with_reducible apply fnQ_ret_soft); rfl; rfl)
      · exfalso
        rename (_ || _) = true => hq
        simp at hq
        omega
      · rw [show sortL (defsU p f v) = [] by rw [hz]; simp [sortL]]
        rfl
    · refine Pure.fn hmix b15 ?_
      repeat' first | (with_reducible first | refine tr_seq ?_ | refine n_nil ?_ | refine seqQ_normal ?_ | refine seqQ_ret ?_ | refine blkQ_ret ?_ | refine tr_skip ?_ | refine tr_ret ?_ | refine condT_t ?_ | refine condT_f ?_) | ((with_reducible refine tr_region_f ?_ ?_); kernel_rfl) | exact ⟨rfl, rfl⟩ | ((with_reducible apply tr_cond_e); rfl) | ((with_reducible refine condT_T ?_ ?_); decide +kernel) | ((with_reducible refine condT_F ?_ ?_); decide +kernel) | ((with_reducible apply n_andF); rfl; rfl; decide +kernel) | ((with_reducible apply n_orT); rfl; rfl; decide +kernel) | ((with_reducible apply n_and); rfl; rfl; intro h) | ((with_reducible apply n_or); rfl; rfl; intro h) | with_reducible refine unrQ_normal ?_ | with_reducible refine unrQ_exit ?_ | with_reducible refine unrQ_ret ?_ | ((with_reducible apply n_call (f := 21)); rfl; rfl; exact h1) | ((with_reducible apply n_spec (f := 54)); rfl; exact h_SortAny hz hl rfl; exact Nat.le_refl _) | ((with_reducible apply n_val); rfl; rfl) | ((with_reducible apply n_new); rfl; (first | (simp only [hn0, hn1, hn2, hn3, hn4, hn5, hn6, List.length_cons, List.length_nil, Nat.reduceAdd, Nat.reduceSub, Nat.zero_add, Nat.add_zero]; first | done | rfl) | rfl); rfl) | ((with_reducible apply n_store); rfl; rfl; rfl; rfl; rfl) | ((with_reducible apply n_frameL (f := 51) [1, 2, 4]); (first | (simp only [hn0, hn1, hn2, hn3, hn4, hn5, hn6, List.length_cons, List.length_nil, Nat.reduceAdd, Nat.reduceSub, Nat.zero_add, Nat.add_zero]; done) | (simp only [hn0, hn1, hn2, hn3, hn4, hn5, hn6, List.length_cons, List.length_nil, Nat.reduceAdd, Nat.reduceSub, Nat.zero_add, Nat.add_zero]; rfl) | rfl); rfl; exact h_eachDefs p f v hf; rfl; rfl; rfl; decide; decide; (repeat (first | exact trivial | (refine ⟨⟨_, rfl, rfl, rfl, ?_, ?_⟩, ?_⟩; (first | rfl | exact (renL_pure (vals_pure (fun _ => rfl) _)).symm | exact (renL_pure (ints_pure _)).symm); (first | rfl | exact vals_under (fun _ => rfl) _)) | refine ⟨trivial, ?_⟩)); rfl; (repeat (first | exact RenL.nil | apply RenL.none | (apply RenL.some; (first | exact renL_pure (vals_pure (fun _ => rfl) _) | exact renL_pure (ints_pure _) | rfl))))) | (with_reducible refine condT_split (fun h => ?_) (fun h => ?_)) | ((with_reducible apply fnQ_told_ret); rfl) | ((with_reducible apply fnQ_ret_soft); rfl; rfl)
      · exfalso
        rename (_ || _) = true => hq
        simp at hq
        omega
      · exact fnQ_ret_vals (f := pz) (xs := sortL (defsU p f v)) rfl rfl (fun _ => rfl) (by rw [sortL, List.length_mergeSort]; rfl) rfl
end Go.Vm
end
