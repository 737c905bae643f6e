/- Laid. -/
import Derived.Test.YtlcbceneacnaiaaGreatDoorVmThree
import Derived.KernelRfl
import Derived.Test.YtlcbceneacnaiaaGreatDoorProg
import Derived.Test.YtlcbceneacnaiaaGreatDoorXenvU
section
/- Code. -/
set_option maxRecDepth 100000
set_option linter.unusedSimpArgs false
set_option linter.unusedVariables false
namespace Go.Vm
open Go
def c11 : RFn := ⟨(.seq (.region (Nodes.flat none (.op (some 2) (.box (.t 0)) 0
  (.op (some 3) (.box (.t 1)) 0
  (.op (some 4) (.move (.c (.bool false))) 0
  .nil)))) false)
 (.seq (.seq (.region (Nodes.flat none (.op (some 6) (.fieldAddr 0 (.t 2)) 0
  (.op (some 7) (.load none (.t 6)) 0
  (.op (some 8) (.fieldAddr 0 (.t 3)) 0
  (.op (some 9) (.load none (.t 8)) 0
  (.op (some 10) (.binb .neq (.t 7) (.t 9)) 0
  (.op (some 11) (.move (.t 10)) 0
  (.grd 11 false
  (.op (some 12) (.fieldAddr 1 (.t 2)) 0
  (.op (some 13) (.load none (.t 12)) 0
  (.op (some 14) (.len false (.t 13)) 0
  (.op (some 15) (.fieldAddr 1 (.t 3)) 0
  (.op (some 16) (.load none (.t 15)) 0
  (.op (some 17) (.len false (.t 16)) 0
  (.op (some 18) (.bin .neq (.t 14) (.t 17)) 0
  .nil)))))))
  (.op (some 19) (.pick (.t 11) (.c (.bool true)) (.t 18)) 0
  .nil))))))))) false)
 (.cond (.t 19)
 (.seq (.region (Nodes.flat none (.op (some 4) (.move (.c (.bool false))) 0
  .nil)) false)
 .ret)
 .skip))
 (.seq (.seq (.region (Nodes.flat none (.op (some 5) (.move (.c (.int .i64 0))) 0
  .nil)) false)
 (.block 0 (.loop (.seq (.seq (.region (Nodes.flat none (.op (some 20) (.move (.t 5)) 0
  (.op (some 21) (.fieldAddr 1 (.t 2)) 0
  (.op (some 22) (.load none (.t 21)) 0
  (.op (some 23) (.len false (.t 22)) 0
  (.op (some 24) (.bin .lss (.t 20) (.t 23)) 0
  .nil)))))) false)
 (.cond (.t 24)
 .skip
 (.exit 0)))
 (.seq (.block 1 (.seq (.region (Nodes.flat none (.op (some 27) (.fieldAddr 1 (.t 2)) 0
  (.op (some 28) (.load none (.t 27)) 1
  (.op (some 29) (.move (.t 5)) 0
  (.op (some 30) (.idxAddr 1 (.t 28) (.t 29)) 7
  (.op (some 31) (.load none (.t 30)) 15
  (.op (some 32) (.fieldAddr 1 (.t 3)) 0
  (.op (some 33) (.load none (.t 32)) 32
  (.op (some 34) (.move (.t 5)) 0
  (.op (some 35) (.idxAddr 1 (.t 33) (.t 34)) 224
  (.op (some 36) (.load none (.t 35)) 480
  (.op (some 37) (.bin .neq (.t 31) (.t 36)) 1023
  .nil)))))))))))) true)
 (.cond (.t 37)
 (.seq (.region (Nodes.flat none (.op (some 4) (.move (.c (.bool false))) 0
  .nil)) false)
 .ret)
 .skip)))
 (.region (Nodes.flat none (.op (some 25) (.move (.t 5)) 0
  (.op (some 26) (.bin .add (.t 25) (.c (.int .i64 1))) 0
  (.op (some 5) (.move (.t 26)) 0
  .nil)))) false))))))
 (.seq (.region (Nodes.flat none (.op (some 4) (.move (.c (.bool true))) 0
  .nil)) false)
 .ret)))),
 [.tmp 4]⟩
theorem b11 : fnOf Go.Proofs.Tryz.prog (owOf []) 11 = some c11 := by kernel_rfl
end Go.Vm
end
section
/- Walks. -/
set_option maxRecDepth 100000
set_option linter.unusedSimpArgs false
set_option linter.unusedVariables false
namespace Go.Vm
open Go
section
variable {gl : Nat → Option PV}
set_option maxHeartbeats 4000000
theorem p_sames4 (oa ob : Bool) (l m : List I64) (hl : l.length ≤ 1000) : Pure Go.Proofs.Tryz.prog gl 11 [eIn pi oa l, eIn pi ob m] (.bool (oa == ob && l == m)) := by
  refine Pure.fn hmix b11 ?_
  repeat' first
    | with_reducible refine tr_seq ?_
    | ((with_reducible refine tr_region_f ?_ ?_); kernel_rfl)
    | ((with_reducible refine tr_region_t ?_ ?_ ?_); kernel_rfl; kernel_rfl)
    | with_reducible refine n_nil ?_
    | exact ⟨rfl, rfl⟩
    | with_reducible refine seqQ_normal ?_
    | with_reducible refine seqQ_exit ?_
    | with_reducible refine seqQ_ret ?_
    | with_reducible refine blkQ_normal ?_
    | with_reducible refine blkQ_exit ?_
    | with_reducible refine blkQ_ret ?_
    | ((with_reducible refine blkQ_exit_ne ?_ ?_); rfl)
    | with_reducible refine tr_block ?_
    | with_reducible refine tr_skip ?_
    | with_reducible refine tr_exit ?_
    | with_reducible refine tr_ret ?_
    | ((with_reducible apply tr_cond_e); rfl)
    | with_reducible refine condT_t ?_
    | with_reducible refine condT_f ?_
    | ((with_reducible apply n_and); rfl; rfl; intro h)
    | ((with_reducible apply n_or); rfl; rfl; intro h)
    | with_reducible refine loopV_exit ?_
    | with_reducible refine loopV_ret ?_
    | (first | ((with_reducible apply n_bin); rfl; rfl; focus ((with_reducible (first | apply b_add | apply b_sub)) <;> first | omega | (simp only [decide_eq_true_eq, decide_eq_false_iff_not, Bool.or_eq_false_iff, Bool.not_eq_true', Bool.not_eq_false', Bool.not_true, Bool.not_false, ints_length, List.length_map, tab_length] at *; omega))) | ((with_reducible apply n_max); rfl; rfl) | ((with_reducible apply n_min); rfl; rfl))
    | ((with_reducible apply n_idx_vals zi); rfl; rfl; exact (fun _ => rfl); (first | omega | (simp only [decide_eq_true_eq, decide_eq_false_iff_not, Bool.or_eq_false_iff, Bool.not_eq_true', Bool.not_eq_false', Bool.not_true, Bool.not_false, ints_length, List.length_map, tab_length] at *; omega)))
    | (refine tr_loop_v (α := Nat) 2 (fun | k => [(5, some (.int .i64 (k : Int))), (20, none), (21, none), (22, none), (23, none), (24, none), (27, none), (28, none), (29, none), (30, none), (31, none), (32, none), (33, none), (34, none), (35, none), (36, none), (37, none), (4, none), (25, none), (26, none)]) (fun | k => [some ⟨0, 2, [eIn pi oa l]⟩, some ⟨0, 2, [eIn pi ob m]⟩]) (fun | k => k ≤ l.length ∧ l.length = m.length ∧ ∀ j, j < k → l.getD j zi = m.getD j zi) (fun | k => l.length - k) (0) (ks := [5, 20, 21, 22, 23, 24, 27, 28, 29, 30, 31, 32, 33, 34, 35, 36, 37, 4, 25, 26]) (fun _ => rfl) (fun _ => rfl) rfl (by omega) ?_ ⟨⟨_, rfl, rfl⟩, trivial⟩ ⟨⟨_, rfl, rfl, rfl, (by first |  rfl | exact fzP_pure (ints_pure _) | exact fzP_pure (u64s_pure _) | exact fzP_pure (by assumption) | exact fzP_pure (by first | (simp [pureE, pure1, ints]; done) | (simp_all [pe_int, pe_bool, pe_str, pe_sl, pe_agg, p1_int, p1_bool, p1_str, p1_sl]; done)))⟩, ⟨_, rfl, rfl, rfl, (by first |  rfl | exact fzP_pure (ints_pure _) | exact fzP_pure (u64s_pure _) | exact fzP_pure (by assumption) | exact fzP_pure (by first | (simp [pureE, pure1, ints]; done) | (simp_all [pe_int, pe_bool, pe_str, pe_sl, pe_agg, p1_int, p1_bool, p1_str, p1_sl]; done)))⟩, trivial⟩ ?_; rotate_left; rintro k hx; try dsimp only at hx)
    | ((first | (refine loopV_normal ((k + 1)) ?_ ⟨⟨_, rfl, rfl⟩, trivial⟩ ⟨⟨_, rfl, rfl, rfl, (by first |  rfl | exact fzP_pure (ints_pure _) | exact fzP_pure (u64s_pure _) | exact fzP_pure (by assumption) | exact fzP_pure (by first | (simp [pureE, pure1, ints]; done) | (simp_all [pe_int, pe_bool, pe_str, pe_sl, pe_agg, p1_int, p1_bool, p1_str, p1_sl]; done)))⟩, ⟨_, rfl, rfl, rfl, (by first |  rfl | exact fzP_pure (ints_pure _) | exact fzP_pure (u64s_pure _) | exact fzP_pure (by assumption) | exact fzP_pure (by first | (simp [pureE, pure1, ints]; done) | (simp_all [pe_int, pe_bool, pe_str, pe_sl, pe_agg, p1_int, p1_bool, p1_str, p1_sl]; done)))⟩, trivial⟩ ?_ ?_)); repeat (first | exact only_refl | refine only_put rfl ?_ | refine only_less rfl ?_ | refine only_ov rfl ?_))
    | ((with_reducible apply n_val); rfl; rfl)
    | ((with_reducible apply n_new); rfl; (first | (simp only [hn0, hn1, hn2, hn3, hn4, hn5, List.length_cons, List.length_nil, Nat.reduceAdd, Nat.zero_add]; done) | (simp only [hn0, hn1, hn2, hn3, hn4, hn5, List.length_cons, List.length_nil, Nat.reduceAdd, Nat.zero_add]; rfl) | rfl); rfl)
    | (with_reducible refine condT_split (fun h => ?_) (fun h => ?_))
    | ((with_reducible apply fnQ_told_ret); rfl)
    | ((with_reducible apply fnQ_ret_soft); rfl; rfl)
  all_goals (try dsimp only at *)
  all_goals (try simp only [decide_eq_true_eq, decide_eq_false_iff_not, List.length_map, Bool.or_eq_true, Bool.or_eq_false_iff, bne_iff_ne, ne_eq, bne_eq_false_iff_eq, Bool.not_eq_true', Bool.not_eq_false', Bool.and_true] at *)
  · refine congrArg PV.bool (Eq.symm ?_)
    rw [Bool.and_eq_false_iff]
    rcases h with h | h
    · left; simpa using h
    · right
      have : l ≠ m := fun e => h (by rw [e])
      simpa using this
  · refine congrArg PV.bool (Eq.symm ?_)
    rw [Bool.and_eq_false_iff]
    right
    have : l ≠ m := fun e => by subst e; simp at h
    simpa using this
  · omega
  · refine ⟨by omega, hx.2.1, fun j hj => ?_⟩
    by_cases e : j = k
    · subst e
      exact Subtype.ext h
    · exact hx.2.2 j (by omega)
  · refine congrArg PV.bool (Eq.symm ?_)
    have e : l = m := ext_getD zi hx.2.1 (fun i hi => hx.2.2 i (by omega))
    rw [e]
    simp_all
  · exact ⟨by omega, by omega, fun j hj => absurd hj (by omega)⟩
theorem eOutS_eq (e f : Option (List S8)) : (eOn e == eOn f && (eV e).map (S8.i) == (eV f).map (S8.i)) = decide (e = f) := by
  rw [Bool.eq_iff_iff, decide_eq_true_eq, Bool.and_eq_true, beq_iff_eq, beq_iff_eq]
  constructor
  · rintro ⟨h1, h2⟩
    rw [← eAbs_outS e, ← eAbs_outS f, h1, h2]
  · rintro rfl; exact ⟨rfl, rfl⟩
theorem p_sameS (e f : Option (List S8)) (he : Few e) : Pure Go.Proofs.Tryz.prog gl 11 [eOut ps e, eOut ps f] (.bool (decide (e = f))) := by
  rw [eOutS_in, eOutS_in, ← eOutS_eq]
  exact p_sames4 _ _ _ _ (by unfold Few at he; rw [List.length_map]; omega)
theorem p_rs4_GetSign {p : PV} {e : Option (List S8)} (i : Int) (h : RepE pi s8 p e) : Pure Go.Proofs.Tryz.prog gl 86 [p, .int .i64 i] (ps (eGet z8 e i)) := by
  obtain ⟨on, l, rfl, rfl, hl⟩ := h
  exact p_refs4_get ..
theorem p_rs4_SetSign {p : PV} {e : Option (List S8)} (i : Int) (c : I64) (h : RepE pi s8 p e) : Pure Go.Proofs.Tryz.prog gl 40 [p, .int .i64 i, pi c] (eOut ps (eSet e i (s8 c))) := by
  obtain ⟨on, l, rfl, rfl, hl⟩ := h
  exact p_refs4_set _ _ _ _ (by omega)
theorem p_rs4_JoinSign {p q : PV} {e f : Option (List S8)} (h : RepE pi s8 p e) (k : RepE pi s8 q f) : Pure Go.Proofs.Tryz.prog gl 39 [p, q] (eOut ps (eJoin z8 S8.join e f)) := by
  obtain ⟨on, l, rfl, rfl, hl⟩ := h
  obtain ⟨on', l', rfl, rfl, hl'⟩ := k
  exact p_refs4_join _ _ _ _ (by omega) (by omega)
end
end Go.Vm
end
