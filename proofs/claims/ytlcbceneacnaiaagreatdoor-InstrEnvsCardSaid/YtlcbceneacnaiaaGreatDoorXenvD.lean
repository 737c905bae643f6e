/- Laid. -/
import Derived.Test.YtlcbceneacnaiaaGreatDoorVmThree
import Derived.KernelRfl
import Derived.Test.YtlcbceneacnaiaaGreatDoorProg
import Derived.Test.YtlcbceneacnaiaaGreatDoorXenvC
section
/- Code. -/
set_option maxRecDepth 100000
set_option linter.unusedSimpArgs false
set_option linter.unusedVariables false
namespace Go.Vm
open Go
def c6 : RFn := ⟨(.seq (.region (Nodes.flat none (.op (some 2) (.box (.t 0)) 0
  (.op (some 3) (.box (.t 1)) 0
  (.op (some 4) (.move (.c (.bool false))) 0
  .nil)))) false)
 (.seq (.seq (.region (Nodes.flat none (.op (some 6) (.fieldAddr 0 (.t 2)) 0
  (.op (some 7) (.load none (.t 6)) 0
  (.op (some 8) (.fieldAddr 0 (.t 3)) 0
  (.op (some 9) (.load none (.t 8)) 0
  (.op (some 10) (.binb .neq (.t 7) (.t 9)) 0
  (.op (some 11) (.move (.t 10)) 0
  (.grd 11 false
  (.op (some 12) (.fieldAddr 1 (.t 2)) 0
  (.op (some 13) (.load none (.t 12)) 0
  (.op (some 14) (.len false (.t 13)) 0
  (.op (some 15) (.fieldAddr 1 (.t 3)) 0
  (.op (some 16) (.load none (.t 15)) 0
  (.op (some 17) (.len false (.t 16)) 0
  (.op (some 18) (.bin .neq (.t 14) (.t 17)) 0
  .nil)))))))
  (.op (some 19) (.pick (.t 11) (.c (.bool true)) (.t 18)) 0
  .nil))))))))) false)
 (.cond (.t 19)
 (.seq (.region (Nodes.flat none (.op (some 4) (.move (.c (.bool false))) 0
  .nil)) false)
 .ret)
 .skip))
 (.seq (.seq (.region (Nodes.flat none (.op (some 5) (.move (.c (.int .i64 0))) 0
  .nil)) false)
 (.block 0 (.loop (.seq (.seq (.region (Nodes.flat none (.op (some 20) (.move (.t 5)) 0
  (.op (some 21) (.fieldAddr 1 (.t 2)) 0
  (.op (some 22) (.load none (.t 21)) 0
  (.op (some 23) (.len false (.t 22)) 0
  (.op (some 24) (.bin .lss (.t 20) (.t 23)) 0
  .nil)))))) false)
 (.cond (.t 24)
 .skip
 (.exit 0)))
 (.seq (.block 1 (.seq (.region (Nodes.flat none (.op (some 27) (.fieldAddr 1 (.t 2)) 0
  (.op (some 28) (.load none (.t 27)) 1
  (.op (some 29) (.move (.t 5)) 0
  (.op (some 30) (.idxAddr 2 (.t 28) (.t 29)) 7
  (.op (some 31) (.load (some 2) (.t 30)) 15
  (.op (some 32) (.fieldAddr 1 (.t 3)) 0
  (.op (some 33) (.load none (.t 32)) 32
  (.op (some 34) (.move (.t 5)) 0
  (.op (some 35) (.idxAddr 2 (.t 33) (.t 34)) 224
  (.op (some 36) (.load (some 2) (.t 35)) 480
  (.op (some 37) (.eqs true [(0, 1), (1, 1)] (.t 31) (.t 36)) 1023
  .nil)))))))))))) true)
 (.cond (.t 37)
 (.seq (.region (Nodes.flat none (.op (some 4) (.move (.c (.bool false))) 0
  .nil)) false)
 .ret)
 .skip)))
 (.region (Nodes.flat none (.op (some 25) (.move (.t 5)) 0
  (.op (some 26) (.bin .add (.t 25) (.c (.int .i64 1))) 0
  (.op (some 5) (.move (.t 26)) 0
  .nil)))) false))))))
 (.seq (.region (Nodes.flat none (.op (some 4) (.move (.c (.bool true))) 0
  .nil)) false)
 .ret)))),
 [.tmp 4]⟩
theorem b6 : fnOf Go.Proofs.Tryz.prog (owOf []) 6 = some c6 := by kernel_rfl
end Go.Vm
end
section
/- Walks. -/
set_option maxRecDepth 100000
set_option linter.unusedSimpArgs false
set_option linter.unusedVariables false
namespace Go.Vm
open Go
section
variable {gl : Nat → Option PV}
set_option maxHeartbeats 4000000
theorem p_same4 (oa ob : Bool) (l m : List (Int × Int)) (hl : l.length ≤ 1000) : Pure Go.Proofs.Tryz.prog gl 6 [eIn pq oa l, eIn pq ob m] (.bool (oa == ob && l == m)) := by
  refine Pure.fn hmix b6 ?_
  repeat' first
    | with_reducible refine tr_seq ?_
    | ((with_reducible refine tr_region_f ?_ ?_); kernel_rfl)
    | ((with_reducible refine tr_region_t ?_ ?_ ?_); kernel_rfl; kernel_rfl)
    | with_reducible refine n_nil ?_
    | exact ⟨rfl, rfl⟩
    | with_reducible refine seqQ_normal ?_
    | with_reducible refine seqQ_exit ?_
    | with_reducible refine seqQ_ret ?_
    | with_reducible refine blkQ_normal ?_
    | with_reducible refine blkQ_exit ?_
    | with_reducible refine blkQ_ret ?_
    | ((with_reducible refine blkQ_exit_ne ?_ ?_); rfl)
    | with_reducible refine tr_block ?_
    | with_reducible refine tr_skip ?_
    | with_reducible refine tr_exit ?_
    | with_reducible refine tr_ret ?_
    | ((with_reducible apply tr_cond_e); rfl)
    | with_reducible refine condT_t ?_
    | with_reducible refine condT_f ?_
    | ((with_reducible apply n_and); rfl; rfl; intro h)
    | ((with_reducible apply n_or); rfl; rfl; intro h)
    | with_reducible refine loopV_exit ?_
    | with_reducible refine loopV_ret ?_
    | (first | ((with_reducible apply n_bin); rfl; rfl; focus ((with_reducible (first | apply b_add | apply b_sub)) <;> first | omega | (simp only [decide_eq_true_eq, decide_eq_false_iff_not, Bool.or_eq_false_iff, Bool.not_eq_true', Bool.not_eq_false', Bool.not_true, Bool.not_false, ints_length, List.length_map, tab_length] at *; omega))) | ((with_reducible apply n_max); rfl; rfl) | ((with_reducible apply n_min); rfl; rfl))
    | ((with_reducible apply n_idx_vals ((0, 0) : Int × Int)); rfl; rfl; exact (fun _ => rfl); (first | omega | (simp only [decide_eq_true_eq, decide_eq_false_iff_not, Bool.or_eq_false_iff, Bool.not_eq_true', Bool.not_eq_false', Bool.not_true, Bool.not_false, ints_length, List.length_map, tab_length] at *; omega)))
    | (refine tr_loop_v (α := Nat) 2 (fun | k => [(5, some (.int .i64 (k : Int))), (20, none), (21, none), (22, none), (23, none), (24, none), (27, none), (28, none), (29, none), (30, none), (31, none), (32, none), (33, none), (34, none), (35, none), (36, none), (37, none), (4, none), (25, none), (26, none)]) (fun | k => [some ⟨0, 2, [eIn pq oa l]⟩, some ⟨0, 2, [eIn pq ob m]⟩]) (fun | k => k ≤ l.length ∧ l.length = m.length ∧ ∀ j, j < k → l.getD j (0, 0) = m.getD j (0, 0)) (fun | k => l.length - k) (0) (ks := [5, 20, 21, 22, 23, 24, 27, 28, 29, 30, 31, 32, 33, 34, 35, 36, 37, 4, 25, 26]) (fun _ => rfl) (fun _ => rfl) rfl (by omega) ?_ ⟨⟨_, rfl, rfl⟩, trivial⟩ ⟨⟨_, rfl, rfl, rfl, (by first |  rfl | exact fzP_pure (ints_pure _) | exact fzP_pure (u64s_pure _) | exact fzP_pure (by assumption) | exact fzP_pure (by first | (simp [pureE, pure1, ints]; done) | (simp_all [pe_int, pe_bool, pe_str, pe_sl, pe_agg, p1_int, p1_bool, p1_str, p1_sl]; done)))⟩, ⟨_, rfl, rfl, rfl, (by first |  rfl | exact fzP_pure (ints_pure _) | exact fzP_pure (u64s_pure _) | exact fzP_pure (by assumption) | exact fzP_pure (by first | (simp [pureE, pure1, ints]; done) | (simp_all [pe_int, pe_bool, pe_str, pe_sl, pe_agg, p1_int, p1_bool, p1_str, p1_sl]; done)))⟩, trivial⟩ ?_; rotate_left; rintro k hx; try dsimp only at hx)
    | ((first | (refine loopV_normal ((k + 1)) ?_ ⟨⟨_, rfl, rfl⟩, trivial⟩ ⟨⟨_, rfl, rfl, rfl, (by first |  rfl | exact fzP_pure (ints_pure _) | exact fzP_pure (u64s_pure _) | exact fzP_pure (by assumption) | exact fzP_pure (by first | (simp [pureE, pure1, ints]; done) | (simp_all [pe_int, pe_bool, pe_str, pe_sl, pe_agg, p1_int, p1_bool, p1_str, p1_sl]; done)))⟩, ⟨_, rfl, rfl, rfl, (by first |  rfl | exact fzP_pure (ints_pure _) | exact fzP_pure (u64s_pure _) | exact fzP_pure (by assumption) | exact fzP_pure (by first | (simp [pureE, pure1, ints]; done) | (simp_all [pe_int, pe_bool, pe_str, pe_sl, pe_agg, p1_int, p1_bool, p1_str, p1_sl]; done)))⟩, trivial⟩ ?_ ?_)); repeat (first | exact only_refl | refine only_put rfl ?_ | refine only_less rfl ?_ | refine only_ov rfl ?_))
    | ((with_reducible apply n_val); rfl; rfl)
    | ((with_reducible apply n_new); rfl; (first | (simp only [hn0, hn1, hn2, hn3, hn4, hn5, List.length_cons, List.length_nil, Nat.reduceAdd, Nat.zero_add]; done) | (simp only [hn0, hn1, hn2, hn3, hn4, hn5, List.length_cons, List.length_nil, Nat.reduceAdd, Nat.zero_add]; rfl) | rfl); rfl)
    | ((with_reducible apply n_eqs_t); rfl; rfl; rfl)
    | (with_reducible refine condT_split (fun h => ?_) (fun h => ?_))
    | ((with_reducible apply fnQ_told_ret); rfl)
    | ((with_reducible apply fnQ_ret_soft); rfl; rfl)
  all_goals (try dsimp only at *)
  all_goals (try simp only [decide_eq_true_eq, decide_eq_false_iff_not, List.length_map, Bool.or_eq_true, Bool.or_eq_false_iff, bne_iff_ne, ne_eq, bne_eq_false_iff_eq, Bool.not_eq_true', Bool.not_eq_false', Bool.and_true] at *)
  · refine congrArg PV.bool (Eq.symm ?_)
    rw [Bool.and_eq_false_iff]
    rcases h with h | h
    · left; simpa using h
    · right
      have : l ≠ m := fun e => h (by rw [e])
      simpa using this
  · refine congrArg PV.bool (Eq.symm ?_)
    rw [Bool.and_eq_false_iff]
    right
    have : l ≠ m := fun e => by subst e; simp at h
    simpa using this
  · omega
  · refine ⟨by omega, hx.2.1, fun j hj => ?_⟩
    by_cases e : j = k
    · subst e
      rw [Bool.and_eq_true, beq_iff_eq, beq_iff_eq] at h
      exact Prod.ext h.1 h.2
    · exact hx.2.2 j (by omega)
  · refine congrArg PV.bool (Eq.symm ?_)
    have e : l = m := ext_getD (0, 0) hx.2.1 (fun i hi => hx.2.2 i (by omega))
    rw [e]
    simp_all
  · exact ⟨by omega, by omega, fun j hj => absurd hj (by omega)⟩
theorem eOut_eq (e f : Option (List V3)) : (eOn e == eOn f && (eV e).map (fun v => (v.k, v.c)) == (eV f).map (fun v => (v.k, v.c))) = decide (e = f) := by
  rw [Bool.eq_iff_iff, decide_eq_true_eq, Bool.and_eq_true, beq_iff_eq, beq_iff_eq]
  constructor
  · rintro ⟨h1, h2⟩
    rw [← eAbs_out e, ← eAbs_out f, h1, h2]
  · rintro rfl; exact ⟨rfl, rfl⟩
theorem p_sameE (e f : Option (List V3)) (he : Few e) : Pure Go.Proofs.Tryz.prog gl 6 [eOut pv e, eOut pv f] (.bool (decide (e = f))) := by
  rw [eOut_in, eOut_in, ← eOut_eq]
  exact p_same4 _ _ _ _ (by unfold Few at he; rw [List.length_map]; omega)
theorem p_r4_GetFlat {p : PV} {e : Option (List V3)} (i : Int) (h : RepE pq fq p e) : Pure Go.Proofs.Tryz.prog gl 71 [p, .int .i64 i] (pv (eGet .bot e i)) := by
  obtain ⟨on, l, rfl, rfl, hl⟩ := h
  exact p_ref4_get ..
theorem p_r4_SetFlat {p : PV} {e : Option (List V3)} (i k c : Int) (h : RepE pq fq p e) : Pure Go.Proofs.Tryz.prog gl 35 [p, .int .i64 i, .agg [.int .i64 k, .int .i64 c]] (eOut pv (eSet e i (toV k c))) := by
  obtain ⟨on, l, rfl, rfl, hl⟩ := h
  exact p_ref4_set _ _ _ _ _ (by omega)
theorem p_r4_JoinFlat {p q : PV} {e f : Option (List V3)} (h : RepE pq fq p e) (k : RepE pq fq q f) : Pure Go.Proofs.Tryz.prog gl 34 [p, q] (eOut pv (eJoin .bot V3.join e f)) := by
  obtain ⟨on, l, rfl, rfl, hl⟩ := h
  obtain ⟨on', l', rfl, rfl, hl'⟩ := k
  exact p_ref4_join _ _ _ _ (by omega) (by omega)
def hgt (n o : Int) : Int := IntKind.i64.wrap (IntKind.i64.wrap (max 0 (min n 1024) * max 0 (min o 1024)) + 1)
end
end Go.Vm
end
