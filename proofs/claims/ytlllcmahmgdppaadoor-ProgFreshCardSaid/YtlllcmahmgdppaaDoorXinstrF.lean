/- Laid. -/
import Derived.Test.YtlllcmahmgdppaaDoorVmThree
import Derived.KernelRfl
import Derived.Test.YtlllcmahmgdppaaDoorProg
import Derived.Test.YtlllcmahmgdppaaDoorXinstrE
import Derived.Test.YtlllcmahmgdppaaDoorLAll
section
/- Code. -/
set_option maxRecDepth 100000
set_option linter.unusedSimpArgs false
set_option linter.unusedVariables false
namespace Go.Vm
open Go
def c22 : RFn := ⟨(.seq (.region (Nodes.flat none (.op (some 4) (.move (.c (.bool false))) 0
  .nil)) false)
 (.seq (.region (Nodes.flat none (.op (some 5) (.move (.t 0)) 0
  (.op (some 6) (.move (.t 1)) 0
  (.op (some 7) (.call 28 [(.t 5), (.t 6)]) 0
  (.op (some 8) (.bin .geq (.t 7) (.c (.int .i64 0))) 0
  (.op (some 4) (.move (.t 8)) 0
  .nil)))))) false)
 .ret)),
 [.tmp 4]⟩
theorem b22 : fnOf Go.Proofs.Tryd.prog (owOf []) 22 = some c22 := by kernel_rfl
def c28 : RFn := ⟨(.seq (.region (Nodes.flat none (.op (some 4) (.move (.c (.int .i64 0))) 0
  .nil)) false)
 (.seq (.seq (.region (Nodes.flat none (.op (some 6) (.move (.t 0)) 0
  (.op (some 7) (.len false (.t 6)) 0
  (.op (some 8) (.move (.c (.int .i64 0))) 0
  .nil)))) false)
 (.block 0 (.loop (.seq (.region (Nodes.flat none (.op (some 9) (.bin .lss (.t 8) (.t 7)) 0
  .nil)) false)
 (.seq (.cond (.t 9)
 .skip
 (.exit 0))
 (.seq (.block 1 (.seq (.region (Nodes.flat none (.op (some 10) (.move (.t 8)) 0
  (.op (some 5) (.move (.t 10)) 0
  .nil))) false)
 (.seq (.region (Nodes.flat none (.op (some 11) (.move (.t 1)) 0
  (.op (some 12) (.move (.t 0)) 0
  (.op (some 13) (.move (.t 5)) 0
  (.op (some 14) (.idxAddr 1 (.t 12) (.t 13)) 0
  (.op (some 15) (.load none (.t 14)) 0
  (.op (some 16) (.bin .eql (.t 11) (.t 15)) 0
  .nil))))))) false)
 (.cond (.t 16)
 (.seq (.region (Nodes.flat none (.op (some 17) (.move (.t 5)) 0
  (.op (some 4) (.move (.t 17)) 0
  .nil))) false)
 .ret)
 .skip))))
 (.region (Nodes.flat none (.op (some 18) (.bin .add (.t 8) (.c (.int .i64 1))) 0
  (.op (some 8) (.move (.t 18)) 0
  .nil))) false)))))))
 (.seq (.region (Nodes.flat none (.op (some 4) (.move (.c (.int .i64 (-1)))) 0
  .nil)) false)
 .ret))),
 [.tmp 4]⟩
theorem b28 : fnOf Go.Proofs.Tryd.prog (owOf []) 28 = some c28 := by kernel_rfl
def c47 : RFn := ⟨(.seq (.region (Nodes.flat none (.op (some 1) (.box (.t 0)) 0
  (.op (some 2) (.move (.c (.lit []))) 0
  .nil))) false)
 (.seq (.seq (.region (Nodes.flat none (.op (some 7) (.load (some 11) (.t 1)) 0
  (.op (some 8) (.call 41 [(.t 7)]) 0
  (.op (some 9) (.un .not (.t 8)) 0
  .nil)))) false)
 (.cond (.t 9)
 (.seq (.region (Nodes.flat none (.op (some 2) (.move (.c (.lit []))) 0
  .nil)) false)
 .ret)
 .skip))
 (.seq (.region (Nodes.flat none (.op (some 3) (.move (.c (.lit []))) 0
  .nil)) false)
 (.seq (.seq (.region (Nodes.flat none (.op (some 10) (.load (some 11) (.t 1)) 0
  (.op (some 11) (.call 53 [(.t 10), (.c (.str ⟨#[97]⟩))]) 0
  .nil))) false)
 (.cond (.t 11)
 (.region (Nodes.flat none (.op (some 12) (.move (.t 3)) 0
  (.op (some 13) (.fieldAddr 3 (.t 1)) 0
  (.op (some 14) (.load none (.t 13)) 0
  (.op (some 15) (.bslice false 1 1 (.int .i64 0) [(0, (.t 14))]) 0
  (.op (some 16) (.append 1 (.int .i64 0) (.t 12) (.t 15)) 0
  (.op (some 3) (.move (.t 16)) 0
  .nil))))))) false)
 .skip))
 (.seq (.seq (.region (Nodes.flat none (.op (some 17) (.load (some 11) (.t 1)) 0
  (.op (some 18) (.call 53 [(.t 17), (.c (.str ⟨#[98]⟩))]) 0
  .nil))) false)
 (.cond (.t 18)
 (.region (Nodes.flat none (.op (some 19) (.move (.t 3)) 0
  (.op (some 20) (.fieldAddr 4 (.t 1)) 0
  (.op (some 21) (.load none (.t 20)) 0
  (.op (some 22) (.bslice false 1 1 (.int .i64 0) [(0, (.t 21))]) 0
  (.op (some 23) (.append 1 (.int .i64 0) (.t 19) (.t 22)) 0
  (.op (some 3) (.move (.t 23)) 0
  .nil))))))) false)
 .skip))
 (.seq (.region (Nodes.flat none (.op (some 4) (.move (.c (.lit []))) 0
  .nil)) false)
 (.seq (.seq (.region (Nodes.flat none (.op (some 24) (.move (.t 3)) 0
  (.op (some 25) (.fieldAddr 8 (.t 1)) 0
  (.op (some 26) (.fieldAddr 7 (.t 1)) 0
  (.op (some 27) (.load none (.t 26)) 0
  (.op (some 28) (.prim (.sliceArr 3 false true false) [(.t 25), (.t 27)]) 0
  (.op (some 29) (.append 1 (.int .i64 0) (.t 24) (.t 28)) 0
  (.op (some 30) (.len false (.t 29)) 0
  (.op (some 31) (.move (.c (.int .i64 0))) 0
  .nil))))))))) false)
 (.block 0 (.loop (.seq (.region (Nodes.flat none (.op (some 32) (.bin .lss (.t 31) (.t 30)) 0
  .nil)) false)
 (.seq (.cond (.t 32)
 .skip
 (.exit 0))
 (.seq (.block 1 (.seq (.region (Nodes.flat none (.op (some 33) (.idxAddr 1 (.t 29) (.t 31)) 0
  (.op (some 34) (.load none (.t 33)) 0
  (.op (some 6) (.move (.t 34)) 0
  .nil)))) false)
 (.seq (.region (Nodes.flat none (.op (some 35) (.move (.t 4)) 0
  (.op (some 36) (.move (.t 6)) 0
  (.op (some 37) (.call 22 [(.t 35), (.t 36)]) 0
  (.op (some 38) (.un .not (.t 37)) 0
  .nil))))) false)
 (.cond (.t 38)
 (.region (Nodes.flat none (.op (some 39) (.move (.t 4)) 0
  (.op (some 40) (.move (.t 6)) 0
  (.op (some 41) (.bslice false 1 1 (.int .i64 0) [(0, (.t 40))]) 0
  (.op (some 42) (.append 1 (.int .i64 0) (.t 39) (.t 41)) 0
  (.op (some 4) (.move (.t 42)) 0
  .nil)))))) false)
 .skip))))
 (.region (Nodes.flat none (.op (some 43) (.bin .add (.t 31) (.c (.int .i64 1))) 0
  (.op (some 31) (.move (.t 43)) 0
  .nil))) false)))))))
 (.seq (.region (Nodes.flat none (.op (some 44) (.move (.t 4)) 0
  (.op (some 2) (.move (.t 44)) 0
  .nil))) false)
 .ret)))))))),
 [.tmp 2]⟩
theorem b47 : fnOf Go.Proofs.Tryd.prog (owOf [(5, 3), (7, 3), (13, 2)]) 47 = some c47 := by kernel_rfl
end Go.Vm
end
section
/- Walks. -/
set_option maxRecDepth 100000
set_option linter.unusedSimpArgs false
set_option linter.unusedVariables false
namespace Go.Vm
open Go
set_option maxHeartbeats 4000000
theorem p_slContains {gl : Nat → Option PV} (l : List Int) (v : Int) (hl : l.length ≤ 100000) : Pure Go.Proofs.Tryd.prog gl 22 [.sl (l.map pint), .int .i64 v] (.bool (l.contains v)) := by
  have hi : Pure Go.Proofs.Tryd.prog gl 28 [.sl (l.map pint), .int .i64 v] (.int .i64 (ixOf l v)) := by
    refine Pure.fn hmix b28 ?_
    repeat' first
      | with_reducible refine tr_seq ?_
      | ((with_reducible refine tr_region_f ?_ ?_); kernel_rfl)
      | with_reducible refine n_nil ?_
      | with_reducible refine seqQ_normal ?_
      | with_reducible refine seqQ_exit ?_
      | with_reducible refine seqQ_ret ?_
      | with_reducible refine blkQ_normal ?_
      | with_reducible refine blkQ_exit ?_
      | with_reducible refine blkQ_ret ?_
      | ((with_reducible refine blkQ_exit_ne ?_ ?_); rfl)
      | with_reducible refine tr_block ?_
      | with_reducible refine tr_skip ?_
      | with_reducible refine tr_exit ?_
      | with_reducible refine tr_ret ?_
      | ((with_reducible apply tr_cond_e); rfl)
      | with_reducible refine condT_t ?_
      | with_reducible refine condT_f ?_
      | with_reducible refine loopV_exit ?_
      | with_reducible refine loopV_ret ?_
      | ((with_reducible apply n_idx_vals (0 : Int)); rfl; rfl; exact (fun _ => rfl); (first | omega | (simp only [List.length_take, List.length_drop, PV.cells, decide_eq_true_eq, decide_eq_false_iff_not, Bool.or_eq_false_iff, Bool.not_eq_true', Bool.not_eq_false', Bool.not_true, Bool.not_false, ints_length, List.length_map, tab_length, List.length_append, List.length_set, List.length_replicate, List.length_cons, List.length_nil] at *; omega)))
      | (first | ((with_reducible apply n_bin); rfl; rfl; focus ((with_reducible (first | apply b_add | apply b_sub)) <;> first | omega | (simp only [List.length_take, List.length_drop, PV.cells, decide_eq_true_eq, decide_eq_false_iff_not, Bool.or_eq_false_iff, Bool.not_eq_true', Bool.not_eq_false', Bool.not_true, Bool.not_false, ints_length, List.length_map, tab_length, List.length_append, List.length_set, List.length_replicate, List.length_cons, List.length_nil] at *; omega))) | ((with_reducible apply n_max); rfl; rfl) | ((with_reducible apply n_min); rfl; rfl))
      | (refine tr_loop_v (α := Nat) 0 (fun | k => [(8, some (.int .i64 (k : Int))), (9, none), (10, none), (5, none), (11, none), (12, none), (13, none), (14, none), (15, none), (16, none), (17, none), (4, none), (18, none)]) (fun | k => []) (fun | k => k ≤ l.length ∧ ∀ j, j < k → l.getD j 0 ≠ v) (fun | k => l.length - k) (0) (ks := [8, 9, 10, 5, 11, 12, 13, 14, 15, 16, 17, 4, 18]) (fun _ => rfl) (fun _ => rfl) rfl (by omega) ?_ ⟨⟨_, rfl, rfl⟩, trivial⟩ trivial ?_; rotate_left; rintro k hx; try dsimp only at hx)
      | ((first | (refine loopV_normal ((k + 1)) ?_ ⟨⟨_, rfl, rfl⟩, trivial⟩ trivial ?_ ?_)); repeat (first | exact only_refl | refine only_put rfl ?_ | refine only_less rfl ?_ | refine only_ov rfl ?_))
      | ((with_reducible apply n_val); rfl; rfl)
      | (with_reducible refine condT_split (fun h => ?_) (fun h => ?_))
      | ((with_reducible apply fnQ_told_ret); rfl)
      | ((with_reducible apply fnQ_ret_soft); rfl; rfl)
    all_goals (try dsimp only at *)
    all_goals (try simp only [decide_eq_true_eq, decide_eq_false_iff_not, List.length_map, beq_iff_eq, beq_eq_false_iff_ne, ne_eq] at *)
    · rw [ixOf_at (by omega) h.symm hx.2]; rfl
    · omega
    · refine ⟨by omega, fun j hj => ?_⟩
      by_cases e : j = k
      · subst e; exact fun e => h e.symm
      · exact hx.2 j (by omega)
    · rw [ixOf_no fun j hj => hx.2 j (by omega)]
    · exact ⟨by omega, fun j hj => absurd hj (by omega)⟩
  refine Pure.fn hmix b22 ?_
  repeat' first
    | with_reducible refine tr_seq ?_
    | ((with_reducible refine tr_region_f ?_ ?_); kernel_rfl)
    | with_reducible refine n_nil ?_
    | with_reducible refine seqQ_normal ?_
    | with_reducible refine seqQ_ret ?_
    | with_reducible refine blkQ_ret ?_
    | with_reducible refine tr_ret ?_
    | ((with_reducible apply n_call (f := 28)); rfl; rfl; exact hi)
    | ((with_reducible apply n_val); rfl; rfl)
    | ((with_reducible apply fnQ_told_ret); rfl)
    | ((with_reducible apply fnQ_ret_soft); rfl; rfl)
  exact congrArg PV.bool (ixOf_in l v)
theorem dd_t {o : List Int} {v : Int} (h : o.contains v = true) : dd o v = o := by rw [dd, if_pos h]
theorem dd_f {o : List Int} {v : Int} (h : o.contains v = false) : dd o v = o ++ [v] := by rw [dd, h]; rfl
theorem dedup_step {U : List Int} {k : Nat} (hk : k < U.length) : dedup (U.take (k + 1)) = dd (dedup (U.take k)) (U.getD k 0) := by
  rw [← take_snoc1 hk 0, dedup_snoc]
theorem dd_len (o : List Int) (v : Int) : (dd o v).length ≤ o.length + 1 := by
  unfold dd
  split <;> simp
theorem dedup_len (U : List Int) : (dedup U).length ≤ U.length := by
  suffices h : ∀ (l o : List Int), (l.foldl (fun o v => if o.contains v then o else o ++ [v]) o).length ≤ o.length + l.length by
    have := h U []
    simp only [List.length_nil, Nat.zero_add] at this
    exact this
  intro l
  induction l with
  | nil => intro o; simp
  | cons x l ih =>
    intro o
    have := ih (dd o x)
    have h2 := dd_len o x
    simp only [List.foldl_cons, List.length_cons]
    exact Nat.le_trans this (by omega)
theorem rawUses_len (i : In) : (rawUses i).length ≤ 5 := by
  unfold rawUses
  simp only [List.length_append, List.length_take, List.length_set, List.length_replicate, List.length_cons, List.length_nil]
  split <;> split <;> simp <;> omega
theorem f_Uses (i : In) (hf : form i = true) : Fresh Go.Proofs.Tryd.prog glD 47 [pI i] (.ref 2 (usesI i).length 0 (usesI i).length) (Hp.ofL [none, none, some ⟨(usesI i).length, 1, (usesI i).map pint⟩]) := by
  have d := p_hasD i
  have a := p_hasA i
  have b := p_hasB i
  have fm := p_Form i
  have hU : usesI i = dedup (rawUses i) := by rw [usesI, if_pos hf]
  have hl := rawUses_len i
  rw [hU]
  rw [hf] at fm
  have h0 := hf
  simp only [form, Bool.and_eq_true, decide_eq_true_eq] at h0
  have hk := h0.1.1.1.1.1
  have hn := h0.1.1.1.2
  have hb := h0.2
  clear hU hf h0
  have hz : i.kind ≠ 7 → i.n = 0 := by
    intro h7
    have := congrArg In.n hb
    simp only [bareI, hF, i0] at this
    simpa [h7] using this
  clear hb
  refine Fresh.fnL hmix b47 ?_
  obtain ⟨id, k, dst, va, vb, vc, vf, n, x, y, z⟩ := i
  simp only at hk hn hz d a b fm
  rcases (by omega : (k = 0 ∨ k = 6) ∨ (k = 1 ∨ k = 2 ∨ k = 8 ∨ k = 9) ∨ (k = 3 ∨ k = 4 ∨ k = 5) ∨ k = 7) with h | h | h | h7
  · obtain rfl : n = 0 := hz (by omega)
    rcases h with rfl | rfl
    all_goals
      repeat' first
        | (refine tr_virt 3 1 1 rfl (by omega) rfl ?_)
        | with_reducible refine tr_seq ?_
        | ((with_reducible refine tr_region_f ?_ ?_); kernel_rfl)
        | with_reducible refine n_nil ?_
        | with_reducible refine seqQ_normal ?_
        | with_reducible refine seqQ_exit ?_
        | with_reducible refine seqQ_ret ?_
        | with_reducible refine blkQ_normal ?_
        | with_reducible refine blkQ_exit ?_
        | with_reducible refine blkQ_ret ?_
        | ((with_reducible refine blkQ_exit_ne ?_ ?_); rfl)
        | with_reducible refine tr_block ?_
        | with_reducible refine tr_skip ?_
        | with_reducible refine tr_exit ?_
        | with_reducible refine tr_ret ?_
        | ((with_reducible apply tr_cond_e); rfl)
        | with_reducible refine condT_t ?_
        | with_reducible refine condT_f ?_
        | ((with_reducible refine condT_T ?_ ?_); decide +kernel)
        | ((with_reducible refine condT_F ?_ ?_); decide +kernel)
        | ((with_reducible apply n_andF); rfl; rfl; decide +kernel)
        | ((with_reducible apply n_orT); rfl; rfl; decide +kernel)
        | with_reducible refine loopV_exit ?_
        | with_reducible refine loopV_ret ?_
        | with_reducible refine unrQ_normal ?_
        | with_reducible refine unrQ_exit ?_
        | with_reducible refine unrQ_ret ?_
        | ((with_reducible apply n_call (f := 53)); rfl; rfl; (first | exact d | exact a | exact b))
        | ((with_reducible apply n_call (f := 41)); rfl; rfl; exact fm)
        | ((with_reducible apply n_callb (f := 22)); rfl; exact softs_vals rfl (fun _ => rfl) rfl rfl; exact p_slContains _ _ (by have := dedup_len (([] : List Int).take j); have := List.length_take_le j ([] : List Int); simp only [List.length_set, List.length_replicate, List.length_cons, List.length_nil] at *; rw [hx.2.1]; omega); rfl)
        | ((with_reducible apply n_idx_own); rfl; rfl; rfl; (simp only [decide_eq_true_eq, List.length_map, List.length_append, List.length_set, List.length_replicate, List.length_cons, List.length_nil] at *; omega))
        | ((with_reducible apply n_load_vals (f := pint) (xs := []) (0 : Int)); rfl; rfl; rfl; (simp only [decide_eq_true_eq, List.length_map, List.length_append, List.length_set, List.length_replicate, List.length_cons, List.length_nil, Int.toNat_natCast] at *; omega))
        | ((with_reducible apply n_append_valsL (f := pint) (([] : List Int).getD j 0)); rfl; rfl; rfl; rfl; rfl; rfl; (have := dedup_len (([] : List Int).take j); have := List.length_take_le j ([] : List Int); simp only [List.length_set, List.length_replicate, List.length_cons, List.length_nil] at *; rw [hx.2.1]; omega); rfl)
        | (first | ((with_reducible apply n_bin); rfl; rfl; focus ((with_reducible (first | apply b_add | apply b_sub)) <;> first | omega | (simp only [List.length_take, List.length_drop, PV.cells, decide_eq_true_eq, decide_eq_false_iff_not, Bool.or_eq_false_iff, Bool.not_eq_true', Bool.not_eq_false', Bool.not_true, Bool.not_false, ints_length, List.length_map, tab_length, List.length_append, List.length_set, List.length_replicate, List.length_cons, List.length_nil] at *; omega))) | ((with_reducible apply n_max); rfl; rfl) | ((with_reducible apply n_min); rfl; rfl))
        | (refine tr_virt 4 1 2 rfl (by omega) rfl ?_; refine tr_loop_v (α := Nat × Nat × List Int) 3 (fun | (j, g, o) => [(31, some (.int .i64 (j : Int))), (4, some (.ref 2 g 0 o.length)), (32, none), (33, none), (34, none), (6, none), (35, none), (36, none), (37, none), (38, none), (39, none), (40, none), (41, none), (42, none), (43, none)]) (fun | (j, g, o) => [none, some ⟨1, 1, ([] : List Int).map pint⟩, some ⟨g, 1, o.map pint⟩]) (fun | (j, g, o) => j ≤ ([] : List Int).length ∧ o = dedup (([] : List Int).take j) ∧ g = o.length) (fun | (j, g, o) => ([] : List Int).length - j) ((0, 0, [])) (ks := [31, 4, 32, 33, 34, 6, 35, 36, 37, 38, 39, 40, 41, 42, 43]) (fun _ => rfl) (fun _ => rfl) rfl (by omega) ?_ ⟨⟨_, rfl, rfl⟩, ⟨_, rfl, rfl⟩, trivial⟩ ⟨⟨_, rfl, rfl, rfl, (by first | exact fzP_eqp rfl rfl | exact fzP_vals (fun _ => rfl) rfl |  rfl | exact fzP_pure (ints_pure _) | exact fzP_pure (u64s_pure _) | exact fzP_pure (by assumption) | exact fzP_pure (by first | (simp [pureE, pure1, ints]; done) | (simp_all [pe_int, pe_bool, pe_str, pe_sl, pe_agg, p1_int, p1_bool, p1_str, p1_sl]; done)))⟩, ⟨_, rfl, rfl, rfl, (by first | exact fzP_eqp rfl rfl | exact fzP_vals (fun _ => rfl) rfl |  rfl | exact fzP_pure (ints_pure _) | exact fzP_pure (u64s_pure _) | exact fzP_pure (by assumption) | exact fzP_pure (by first | (simp [pureE, pure1, ints]; done) | (simp_all [pe_int, pe_bool, pe_str, pe_sl, pe_agg, p1_int, p1_bool, p1_str, p1_sl]; done)))⟩, trivial⟩ ?_; rotate_left; rintro ⟨j, g, o⟩ hx; try dsimp only at hx)
        | ((first | (refine loopV_normal ((j + 1, g, o)) ?_ ⟨⟨_, rfl, rfl⟩, ⟨_, rfl, rfl⟩, trivial⟩ ⟨⟨_, rfl, rfl, rfl, (by first | exact fzP_eqp rfl rfl | exact fzP_vals (fun _ => rfl) rfl |  rfl | exact fzP_pure (ints_pure _) | exact fzP_pure (u64s_pure _) | exact fzP_pure (by assumption) | exact fzP_pure (by first | (simp [pureE, pure1, ints]; done) | (simp_all [pe_int, pe_bool, pe_str, pe_sl, pe_agg, p1_int, p1_bool, p1_str, p1_sl]; done)))⟩, ⟨_, rfl, rfl, rfl, (by first | exact fzP_eqp rfl rfl | exact fzP_vals (fun _ => rfl) rfl |  rfl | exact fzP_pure (ints_pure _) | exact fzP_pure (u64s_pure _) | exact fzP_pure (by assumption) | exact fzP_pure (by first | (simp [pureE, pure1, ints]; done) | (simp_all [pe_int, pe_bool, pe_str, pe_sl, pe_agg, p1_int, p1_bool, p1_str, p1_sl]; done)))⟩, trivial⟩ ?_ ?_) | (refine loopV_normal ((j + 1, g + 1, o ++ [([] : List Int).getD j 0])) ?_ ⟨⟨_, rfl, rfl⟩, ⟨_, rfl, rfl⟩, trivial⟩ ⟨⟨_, rfl, rfl, rfl, (by first | exact fzP_eqp rfl rfl | exact fzP_vals (fun _ => rfl) rfl |  rfl | exact fzP_pure (ints_pure _) | exact fzP_pure (u64s_pure _) | exact fzP_pure (by assumption) | exact fzP_pure (by first | (simp [pureE, pure1, ints]; done) | (simp_all [pe_int, pe_bool, pe_str, pe_sl, pe_agg, p1_int, p1_bool, p1_str, p1_sl]; done)))⟩, ⟨_, rfl, rfl, rfl, (by first | exact fzP_eqp rfl rfl | exact fzP_vals (fun _ => rfl) rfl |  rfl | exact fzP_pure (ints_pure _) | exact fzP_pure (u64s_pure _) | exact fzP_pure (by assumption) | exact fzP_pure (by first | (simp [pureE, pure1, ints]; done) | (simp_all [pe_int, pe_bool, pe_str, pe_sl, pe_agg, p1_int, p1_bool, p1_str, p1_sl]; done)))⟩, trivial⟩ ?_ ?_)); repeat (first | exact only_refl | refine only_put rfl ?_ | refine only_less rfl ?_ | refine only_ov rfl ?_))
        | ((with_reducible apply n_val); rfl; rfl)
        | ((with_reducible apply n_new); rfl; (first | (simp only [hn0, hn1, hn2, hn3, hn4, hn5, List.length_cons, List.length_nil, Nat.reduceAdd, Nat.zero_add]; done) | (simp only [hn0, hn1, hn2, hn3, hn4, hn5, List.length_cons, List.length_nil, Nat.reduceAdd, Nat.zero_add]; rfl) | rfl); rfl)
        | ((with_reducible apply n_append); rfl; rfl; rfl; rfl; rfl; rfl; (first | decide | (simp only [List.length_append, List.length_cons, List.length_nil, List.length_set, List.length_replicate, ints_length] at *; omega)); rfl)
        | ((with_reducible apply n_append_lit); rfl; rfl; rfl; rfl; rfl; (first | decide | (simp only [List.length_append, List.length_cons, List.length_nil, List.length_set, List.length_replicate, ints_length] at *; omega)); (first | (simp only [hn0, hn1, hn2, hn3, hn4, hn5, List.length_cons, List.length_nil, Nat.reduceAdd, Nat.zero_add]; done) | (simp only [hn0, hn1, hn2, hn3, hn4, hn5, List.length_cons, List.length_nil, Nat.reduceAdd, Nat.zero_add]; rfl) | rfl); rfl)
        | (with_reducible refine condT_split (fun h => ?_) (fun h => ?_))
        | ((with_reducible apply fnQ_told_ret); rfl)
        | ((with_reducible apply fnQ_ret_soft); rfl; rfl)
        | ((with_reducible apply fnQ_ret_row); rfl; rfl; rfl)
      all_goals (try dsimp only at *)
      all_goals (try simp only [decide_eq_true_eq, decide_eq_false_iff_not, Bool.not_eq_true', Bool.not_eq_false', List.length_append, List.length_set, List.length_replicate, List.length_cons, List.length_nil, Int.toNat_natCast] at *)
      · omega
      · obtain ⟨h1, h2, h3⟩ := hx
        refine ⟨by omega, ?_, by omega⟩
        rw [dedup_step (by simp only [List.length_set, List.length_replicate, List.length_cons, List.length_nil]; omega), ← h2, dd_f (by assumption)]
      · omega
      · obtain ⟨h1, h2, h3⟩ := hx
        refine ⟨by omega, ?_, by omega⟩
        rw [dedup_step (by simp only [List.length_set, List.length_replicate, List.length_cons, List.length_nil]; omega), ← h2, dd_t (by assumption)]
      · obtain rfl : j = 0 := by omega
        obtain ⟨_, rfl, rfl⟩ := hx
        rfl
      · obtain rfl : j = 0 := by omega
        obtain ⟨_, rfl, rfl⟩ := hx
        exact ⟨⟨_, rfl, rfl, rfl, fzP_vals (fun _ => rfl) rfl⟩, trivial⟩
      · (first | exact ⟨by omega, rfl, rfl⟩ | exact ⟨by omega, rfl, trivial⟩)
  · obtain rfl : n = 0 := hz (by omega)
    rcases h with rfl | rfl | rfl | rfl
    all_goals
      repeat' first
        | (refine tr_virt 3 1 1 rfl (by omega) rfl ?_)
        | with_reducible refine tr_seq ?_
        | ((with_reducible refine tr_region_f ?_ ?_); kernel_rfl)
        | with_reducible refine n_nil ?_
        | with_reducible refine seqQ_normal ?_
        | with_reducible refine seqQ_exit ?_
        | with_reducible refine seqQ_ret ?_
        | with_reducible refine blkQ_normal ?_
        | with_reducible refine blkQ_exit ?_
        | with_reducible refine blkQ_ret ?_
        | ((with_reducible refine blkQ_exit_ne ?_ ?_); rfl)
        | with_reducible refine tr_block ?_
        | with_reducible refine tr_skip ?_
        | with_reducible refine tr_exit ?_
        | with_reducible refine tr_ret ?_
        | ((with_reducible apply tr_cond_e); rfl)
        | with_reducible refine condT_t ?_
        | with_reducible refine condT_f ?_
        | ((with_reducible refine condT_T ?_ ?_); decide +kernel)
        | ((with_reducible refine condT_F ?_ ?_); decide +kernel)
        | ((with_reducible apply n_andF); rfl; rfl; decide +kernel)
        | ((with_reducible apply n_orT); rfl; rfl; decide +kernel)
        | with_reducible refine loopV_exit ?_
        | with_reducible refine loopV_ret ?_
        | with_reducible refine unrQ_normal ?_
        | with_reducible refine unrQ_exit ?_
        | with_reducible refine unrQ_ret ?_
        | ((with_reducible apply n_call (f := 53)); rfl; rfl; (first | exact d | exact a | exact b))
        | ((with_reducible apply n_call (f := 41)); rfl; rfl; exact fm)
        | ((with_reducible apply n_callb (f := 22)); rfl; exact softs_vals rfl (fun _ => rfl) rfl rfl; exact p_slContains _ _ (by have := dedup_len (([va] : List Int).take j); have := List.length_take_le j ([va] : List Int); simp only [List.length_set, List.length_replicate, List.length_cons, List.length_nil] at *; rw [hx.2.1]; omega); rfl)
        | ((with_reducible apply n_idx_own); rfl; rfl; rfl; (simp only [decide_eq_true_eq, List.length_map, List.length_append, List.length_set, List.length_replicate, List.length_cons, List.length_nil] at *; omega))
        | ((with_reducible apply n_load_vals (f := pint) (xs := [va]) (0 : Int)); rfl; rfl; rfl; (simp only [decide_eq_true_eq, List.length_map, List.length_append, List.length_set, List.length_replicate, List.length_cons, List.length_nil, Int.toNat_natCast] at *; omega))
        | ((with_reducible apply n_append_valsL (f := pint) (([va] : List Int).getD j 0)); rfl; rfl; rfl; rfl; rfl; rfl; (have := dedup_len (([va] : List Int).take j); have := List.length_take_le j ([va] : List Int); simp only [List.length_set, List.length_replicate, List.length_cons, List.length_nil] at *; rw [hx.2.1]; omega); rfl)
        | (first | ((with_reducible apply n_bin); rfl; rfl; focus ((with_reducible (first | apply b_add | apply b_sub)) <;> first | omega | (simp only [List.length_take, List.length_drop, PV.cells, decide_eq_true_eq, decide_eq_false_iff_not, Bool.or_eq_false_iff, Bool.not_eq_true', Bool.not_eq_false', Bool.not_true, Bool.not_false, ints_length, List.length_map, tab_length, List.length_append, List.length_set, List.length_replicate, List.length_cons, List.length_nil] at *; omega))) | ((with_reducible apply n_max); rfl; rfl) | ((with_reducible apply n_min); rfl; rfl))
        | (refine tr_virt 4 1 2 rfl (by omega) rfl ?_; refine tr_loop_v (α := Nat × Nat × List Int) 3 (fun | (j, g, o) => [(31, some (.int .i64 (j : Int))), (4, some (.ref 2 g 0 o.length)), (32, none), (33, none), (34, none), (6, none), (35, none), (36, none), (37, none), (38, none), (39, none), (40, none), (41, none), (42, none), (43, none)]) (fun | (j, g, o) => [none, some ⟨2, 1, ([va] : List Int).map pint⟩, some ⟨g, 1, o.map pint⟩]) (fun | (j, g, o) => j ≤ ([va] : List Int).length ∧ o = dedup (([va] : List Int).take j) ∧ g = o.length) (fun | (j, g, o) => ([va] : List Int).length - j) ((0, 0, [])) (ks := [31, 4, 32, 33, 34, 6, 35, 36, 37, 38, 39, 40, 41, 42, 43]) (fun _ => rfl) (fun _ => rfl) rfl (by omega) ?_ ⟨⟨_, rfl, rfl⟩, ⟨_, rfl, rfl⟩, trivial⟩ ⟨⟨_, rfl, rfl, rfl, (by first | exact fzP_eqp rfl rfl | exact fzP_vals (fun _ => rfl) rfl |  rfl | exact fzP_pure (ints_pure _) | exact fzP_pure (u64s_pure _) | exact fzP_pure (by assumption) | exact fzP_pure (by first | (simp [pureE, pure1, ints]; done) | (simp_all [pe_int, pe_bool, pe_str, pe_sl, pe_agg, p1_int, p1_bool, p1_str, p1_sl]; done)))⟩, ⟨_, rfl, rfl, rfl, (by first | exact fzP_eqp rfl rfl | exact fzP_vals (fun _ => rfl) rfl |  rfl | exact fzP_pure (ints_pure _) | exact fzP_pure (u64s_pure _) | exact fzP_pure (by assumption) | exact fzP_pure (by first | (simp [pureE, pure1, ints]; done) | (simp_all [pe_int, pe_bool, pe_str, pe_sl, pe_agg, p1_int, p1_bool, p1_str, p1_sl]; done)))⟩, trivial⟩ ?_; rotate_left; rintro ⟨j, g, o⟩ hx; try dsimp only at hx)
        | ((first | (refine loopV_normal ((j + 1, g, o)) ?_ ⟨⟨_, rfl, rfl⟩, ⟨_, rfl, rfl⟩, trivial⟩ ⟨⟨_, rfl, rfl, rfl, (by first | exact fzP_eqp rfl rfl | exact fzP_vals (fun _ => rfl) rfl |  rfl | exact fzP_pure (ints_pure _) | exact fzP_pure (u64s_pure _) | exact fzP_pure (by assumption) | exact fzP_pure (by first | (simp [pureE, pure1, ints]; done) | (simp_all [pe_int, pe_bool, pe_str, pe_sl, pe_agg, p1_int, p1_bool, p1_str, p1_sl]; done)))⟩, ⟨_, rfl, rfl, rfl, (by first | exact fzP_eqp rfl rfl | exact fzP_vals (fun _ => rfl) rfl |  rfl | exact fzP_pure (ints_pure _) | exact fzP_pure (u64s_pure _) | exact fzP_pure (by assumption) | exact fzP_pure (by first | (simp [pureE, pure1, ints]; done) | (simp_all [pe_int, pe_bool, pe_str, pe_sl, pe_agg, p1_int, p1_bool, p1_str, p1_sl]; done)))⟩, trivial⟩ ?_ ?_) | (refine loopV_normal ((j + 1, g + 1, o ++ [([va] : List Int).getD j 0])) ?_ ⟨⟨_, rfl, rfl⟩, ⟨_, rfl, rfl⟩, trivial⟩ ⟨⟨_, rfl, rfl, rfl, (by first | exact fzP_eqp rfl rfl | exact fzP_vals (fun _ => rfl) rfl |  rfl | exact fzP_pure (ints_pure _) | exact fzP_pure (u64s_pure _) | exact fzP_pure (by assumption) | exact fzP_pure (by first | (simp [pureE, pure1, ints]; done) | (simp_all [pe_int, pe_bool, pe_str, pe_sl, pe_agg, p1_int, p1_bool, p1_str, p1_sl]; done)))⟩, ⟨_, rfl, rfl, rfl, (by first | exact fzP_eqp rfl rfl | exact fzP_vals (fun _ => rfl) rfl |  rfl | exact fzP_pure (ints_pure _) | exact fzP_pure (u64s_pure _) | exact fzP_pure (by assumption) | exact fzP_pure (by first | (simp [pureE, pure1, ints]; done) | (simp_all [pe_int, pe_bool, pe_str, pe_sl, pe_agg, p1_int, p1_bool, p1_str, p1_sl]; done)))⟩, trivial⟩ ?_ ?_)); repeat (first | exact only_refl | refine only_put rfl ?_ | refine only_less rfl ?_ | refine only_ov rfl ?_))
        | ((with_reducible apply n_val); rfl; rfl)
        | ((with_reducible apply n_new); rfl; (first | (simp only [hn0, hn1, hn2, hn3, hn4, hn5, List.length_cons, List.length_nil, Nat.reduceAdd, Nat.zero_add]; done) | (simp only [hn0, hn1, hn2, hn3, hn4, hn5, List.length_cons, List.length_nil, Nat.reduceAdd, Nat.zero_add]; rfl) | rfl); rfl)
        | ((with_reducible apply n_append); rfl; rfl; rfl; rfl; rfl; rfl; (first | decide | (simp only [List.length_append, List.length_cons, List.length_nil, List.length_set, List.length_replicate, ints_length] at *; omega)); rfl)
        | ((with_reducible apply n_append_lit); rfl; rfl; rfl; rfl; rfl; (first | decide | (simp only [List.length_append, List.length_cons, List.length_nil, List.length_set, List.length_replicate, ints_length] at *; omega)); (first | (simp only [hn0, hn1, hn2, hn3, hn4, hn5, List.length_cons, List.length_nil, Nat.reduceAdd, Nat.zero_add]; done) | (simp only [hn0, hn1, hn2, hn3, hn4, hn5, List.length_cons, List.length_nil, Nat.reduceAdd, Nat.zero_add]; rfl) | rfl); rfl)
        | (with_reducible refine condT_split (fun h => ?_) (fun h => ?_))
        | ((with_reducible apply fnQ_told_ret); rfl)
        | ((with_reducible apply fnQ_ret_soft); rfl; rfl)
        | ((with_reducible apply fnQ_ret_row); rfl; rfl; rfl)
      all_goals (try dsimp only at *)
      all_goals (try simp only [decide_eq_true_eq, decide_eq_false_iff_not, Bool.not_eq_true', Bool.not_eq_false', List.length_append, List.length_set, List.length_replicate, List.length_cons, List.length_nil, Int.toNat_natCast] at *)
      · omega
      · obtain ⟨h1, h2, h3⟩ := hx
        refine ⟨by omega, ?_, by omega⟩
        rw [dedup_step (by simp only [List.length_set, List.length_replicate, List.length_cons, List.length_nil]; omega), ← h2, dd_f (by assumption)]
      · omega
      · obtain ⟨h1, h2, h3⟩ := hx
        refine ⟨by omega, ?_, by omega⟩
        rw [dedup_step (by simp only [List.length_set, List.length_replicate, List.length_cons, List.length_nil]; omega), ← h2, dd_t (by assumption)]
      · obtain rfl : j = 1 := by omega
        obtain ⟨_, rfl, rfl⟩ := hx
        rfl
      · obtain rfl : j = 1 := by omega
        obtain ⟨_, rfl, rfl⟩ := hx
        exact ⟨⟨_, rfl, rfl, rfl, fzP_vals (fun _ => rfl) rfl⟩, trivial⟩
      · (first | exact ⟨by omega, rfl, rfl⟩ | exact ⟨by omega, rfl, trivial⟩)
  · obtain rfl : n = 0 := hz (by omega)
    rcases h with rfl | rfl | rfl
    all_goals
      repeat' first
        | (refine tr_virt 3 1 1 rfl (by omega) rfl ?_)
        | with_reducible refine tr_seq ?_
        | ((with_reducible refine tr_region_f ?_ ?_); kernel_rfl)
        | with_reducible refine n_nil ?_
        | with_reducible refine seqQ_normal ?_
        | with_reducible refine seqQ_exit ?_
        | with_reducible refine seqQ_ret ?_
        | with_reducible refine blkQ_normal ?_
        | with_reducible refine blkQ_exit ?_
        | with_reducible refine blkQ_ret ?_
        | ((with_reducible refine blkQ_exit_ne ?_ ?_); rfl)
        | with_reducible refine tr_block ?_
        | with_reducible refine tr_skip ?_
        | with_reducible refine tr_exit ?_
        | with_reducible refine tr_ret ?_
        | ((with_reducible apply tr_cond_e); rfl)
        | with_reducible refine condT_t ?_
        | with_reducible refine condT_f ?_
        | ((with_reducible refine condT_T ?_ ?_); decide +kernel)
        | ((with_reducible refine condT_F ?_ ?_); decide +kernel)
        | ((with_reducible apply n_andF); rfl; rfl; decide +kernel)
        | ((with_reducible apply n_orT); rfl; rfl; decide +kernel)
        | with_reducible refine loopV_exit ?_
        | with_reducible refine loopV_ret ?_
        | with_reducible refine unrQ_normal ?_
        | with_reducible refine unrQ_exit ?_
        | with_reducible refine unrQ_ret ?_
        | ((with_reducible apply n_call (f := 53)); rfl; rfl; (first | exact d | exact a | exact b))
        | ((with_reducible apply n_call (f := 41)); rfl; rfl; exact fm)
        | ((with_reducible apply n_callb (f := 22)); rfl; exact softs_vals rfl (fun _ => rfl) rfl rfl; exact p_slContains _ _ (by have := dedup_len (([va, vb] : List Int).take j); have := List.length_take_le j ([va, vb] : List Int); simp only [List.length_set, List.length_replicate, List.length_cons, List.length_nil] at *; rw [hx.2.1]; omega); rfl)
        | ((with_reducible apply n_idx_own); rfl; rfl; rfl; (simp only [decide_eq_true_eq, List.length_map, List.length_append, List.length_set, List.length_replicate, List.length_cons, List.length_nil] at *; omega))
        | ((with_reducible apply n_load_vals (f := pint) (xs := [va, vb]) (0 : Int)); rfl; rfl; rfl; (simp only [decide_eq_true_eq, List.length_map, List.length_append, List.length_set, List.length_replicate, List.length_cons, List.length_nil, Int.toNat_natCast] at *; omega))
        | ((with_reducible apply n_append_valsL (f := pint) (([va, vb] : List Int).getD j 0)); rfl; rfl; rfl; rfl; rfl; rfl; (have := dedup_len (([va, vb] : List Int).take j); have := List.length_take_le j ([va, vb] : List Int); simp only [List.length_set, List.length_replicate, List.length_cons, List.length_nil] at *; rw [hx.2.1]; omega); rfl)
        | (first | ((with_reducible apply n_bin); rfl; rfl; focus ((with_reducible (first | apply b_add | apply b_sub)) <;> first | omega | (simp only [List.length_take, List.length_drop, PV.cells, decide_eq_true_eq, decide_eq_false_iff_not, Bool.or_eq_false_iff, Bool.not_eq_true', Bool.not_eq_false', Bool.not_true, Bool.not_false, ints_length, List.length_map, tab_length, List.length_append, List.length_set, List.length_replicate, List.length_cons, List.length_nil] at *; omega))) | ((with_reducible apply n_max); rfl; rfl) | ((with_reducible apply n_min); rfl; rfl))
        | (refine tr_virt 4 1 2 rfl (by omega) rfl ?_; refine tr_loop_v (α := Nat × Nat × List Int) 3 (fun | (j, g, o) => [(31, some (.int .i64 (j : Int))), (4, some (.ref 2 g 0 o.length)), (32, none), (33, none), (34, none), (6, none), (35, none), (36, none), (37, none), (38, none), (39, none), (40, none), (41, none), (42, none), (43, none)]) (fun | (j, g, o) => [none, some ⟨3, 1, ([va, vb] : List Int).map pint⟩, some ⟨g, 1, o.map pint⟩]) (fun | (j, g, o) => j ≤ ([va, vb] : List Int).length ∧ o = dedup (([va, vb] : List Int).take j) ∧ g = o.length) (fun | (j, g, o) => ([va, vb] : List Int).length - j) ((0, 0, [])) (ks := [31, 4, 32, 33, 34, 6, 35, 36, 37, 38, 39, 40, 41, 42, 43]) (fun _ => rfl) (fun _ => rfl) rfl (by omega) ?_ ⟨⟨_, rfl, rfl⟩, ⟨_, rfl, rfl⟩, trivial⟩ ⟨⟨_, rfl, rfl, rfl, (by first | exact fzP_eqp rfl rfl | exact fzP_vals (fun _ => rfl) rfl |  rfl | exact fzP_pure (ints_pure _) | exact fzP_pure (u64s_pure _) | exact fzP_pure (by assumption) | exact fzP_pure (by first | (simp [pureE, pure1, ints]; done) | (simp_all [pe_int, pe_bool, pe_str, pe_sl, pe_agg, p1_int, p1_bool, p1_str, p1_sl]; done)))⟩, ⟨_, rfl, rfl, rfl, (by first | exact fzP_eqp rfl rfl | exact fzP_vals (fun _ => rfl) rfl |  rfl | exact fzP_pure (ints_pure _) | exact fzP_pure (u64s_pure _) | exact fzP_pure (by assumption) | exact fzP_pure (by first | (simp [pureE, pure1, ints]; done) | (simp_all [pe_int, pe_bool, pe_str, pe_sl, pe_agg, p1_int, p1_bool, p1_str, p1_sl]; done)))⟩, trivial⟩ ?_; rotate_left; rintro ⟨j, g, o⟩ hx; try dsimp only at hx)
        | ((first | (refine loopV_normal ((j + 1, g, o)) ?_ ⟨⟨_, rfl, rfl⟩, ⟨_, rfl, rfl⟩, trivial⟩ ⟨⟨_, rfl, rfl, rfl, (by first | exact fzP_eqp rfl rfl | exact fzP_vals (fun _ => rfl) rfl |  rfl | exact fzP_pure (ints_pure _) | exact fzP_pure (u64s_pure _) | exact fzP_pure (by assumption) | exact fzP_pure (by first | (simp [pureE, pure1, ints]; done) | (simp_all [pe_int, pe_bool, pe_str, pe_sl, pe_agg, p1_int, p1_bool, p1_str, p1_sl]; done)))⟩, ⟨_, rfl, rfl, rfl, (by first | exact fzP_eqp rfl rfl | exact fzP_vals (fun _ => rfl) rfl |  rfl | exact fzP_pure (ints_pure _) | exact fzP_pure (u64s_pure _) | exact fzP_pure (by assumption) | exact fzP_pure (by first | (simp [pureE, pure1, ints]; done) | (simp_all [pe_int, pe_bool, pe_str, pe_sl, pe_agg, p1_int, p1_bool, p1_str, p1_sl]; done)))⟩, trivial⟩ ?_ ?_) | (refine loopV_normal ((j + 1, g + 1, o ++ [([va, vb] : List Int).getD j 0])) ?_ ⟨⟨_, rfl, rfl⟩, ⟨_, rfl, rfl⟩, trivial⟩ ⟨⟨_, rfl, rfl, rfl, (by first | exact fzP_eqp rfl rfl | exact fzP_vals (fun _ => rfl) rfl |  rfl | exact fzP_pure (ints_pure _) | exact fzP_pure (u64s_pure _) | exact fzP_pure (by assumption) | exact fzP_pure (by first | (simp [pureE, pure1, ints]; done) | (simp_all [pe_int, pe_bool, pe_str, pe_sl, pe_agg, p1_int, p1_bool, p1_str, p1_sl]; done)))⟩, ⟨_, rfl, rfl, rfl, (by first | exact fzP_eqp rfl rfl | exact fzP_vals (fun _ => rfl) rfl |  rfl | exact fzP_pure (ints_pure _) | exact fzP_pure (u64s_pure _) | exact fzP_pure (by assumption) | exact fzP_pure (by first | (simp [pureE, pure1, ints]; done) | (simp_all [pe_int, pe_bool, pe_str, pe_sl, pe_agg, p1_int, p1_bool, p1_str, p1_sl]; done)))⟩, trivial⟩ ?_ ?_)); repeat (first | exact only_refl | refine only_put rfl ?_ | refine only_less rfl ?_ | refine only_ov rfl ?_))
        | ((with_reducible apply n_val); rfl; rfl)
        | ((with_reducible apply n_new); rfl; (first | (simp only [hn0, hn1, hn2, hn3, hn4, hn5, List.length_cons, List.length_nil, Nat.reduceAdd, Nat.zero_add]; done) | (simp only [hn0, hn1, hn2, hn3, hn4, hn5, List.length_cons, List.length_nil, Nat.reduceAdd, Nat.zero_add]; rfl) | rfl); rfl)
        | ((with_reducible apply n_append); rfl; rfl; rfl; rfl; rfl; rfl; (first | decide | (simp only [List.length_append, List.length_cons, List.length_nil, List.length_set, List.length_replicate, ints_length] at *; omega)); rfl)
        | ((with_reducible apply n_append_lit); rfl; rfl; rfl; rfl; rfl; (first | decide | (simp only [List.length_append, List.length_cons, List.length_nil, List.length_set, List.length_replicate, ints_length] at *; omega)); (first | (simp only [hn0, hn1, hn2, hn3, hn4, hn5, List.length_cons, List.length_nil, Nat.reduceAdd, Nat.zero_add]; done) | (simp only [hn0, hn1, hn2, hn3, hn4, hn5, List.length_cons, List.length_nil, Nat.reduceAdd, Nat.zero_add]; rfl) | rfl); rfl)
        | (with_reducible refine condT_split (fun h => ?_) (fun h => ?_))
        | ((with_reducible apply fnQ_told_ret); rfl)
        | ((with_reducible apply fnQ_ret_soft); rfl; rfl)
        | ((with_reducible apply fnQ_ret_row); rfl; rfl; rfl)
      all_goals (try dsimp only at *)
      all_goals (try simp only [decide_eq_true_eq, decide_eq_false_iff_not, Bool.not_eq_true', Bool.not_eq_false', List.length_append, List.length_set, List.length_replicate, List.length_cons, List.length_nil, Int.toNat_natCast] at *)
      · omega
      · obtain ⟨h1, h2, h3⟩ := hx
        refine ⟨by omega, ?_, by omega⟩
        rw [dedup_step (by simp only [List.length_set, List.length_replicate, List.length_cons, List.length_nil]; omega), ← h2, dd_f (by assumption)]
      · omega
      · obtain ⟨h1, h2, h3⟩ := hx
        refine ⟨by omega, ?_, by omega⟩
        rw [dedup_step (by simp only [List.length_set, List.length_replicate, List.length_cons, List.length_nil]; omega), ← h2, dd_t (by assumption)]
      · obtain rfl : j = 2 := by omega
        obtain ⟨_, rfl, rfl⟩ := hx
        rfl
      · obtain rfl : j = 2 := by omega
        obtain ⟨_, rfl, rfl⟩ := hx
        exact ⟨⟨_, rfl, rfl, rfl, fzP_vals (fun _ => rfl) rfl⟩, trivial⟩
      · (first | exact ⟨by omega, rfl, rfl⟩ | exact ⟨by omega, rfl, trivial⟩)
  · subst h7
    rcases (by omega : n = 0 ∨ n = 1 ∨ n = 2 ∨ n = 3) with rfl | rfl | rfl | rfl
    · repeat' first
        | (refine tr_virt 3 1 1 rfl (by omega) rfl ?_)
        | with_reducible refine tr_seq ?_
        | ((with_reducible refine tr_region_f ?_ ?_); kernel_rfl)
        | with_reducible refine n_nil ?_
        | with_reducible refine seqQ_normal ?_
        | with_reducible refine seqQ_exit ?_
        | with_reducible refine seqQ_ret ?_
        | with_reducible refine blkQ_normal ?_
        | with_reducible refine blkQ_exit ?_
        | with_reducible refine blkQ_ret ?_
        | ((with_reducible refine blkQ_exit_ne ?_ ?_); rfl)
        | with_reducible refine tr_block ?_
        | with_reducible refine tr_skip ?_
        | with_reducible refine tr_exit ?_
        | with_reducible refine tr_ret ?_
        | ((with_reducible apply tr_cond_e); rfl)
        | with_reducible refine condT_t ?_
        | with_reducible refine condT_f ?_
        | ((with_reducible refine condT_T ?_ ?_); decide +kernel)
        | ((with_reducible refine condT_F ?_ ?_); decide +kernel)
        | ((with_reducible apply n_andF); rfl; rfl; decide +kernel)
        | ((with_reducible apply n_orT); rfl; rfl; decide +kernel)
        | with_reducible refine loopV_exit ?_
        | with_reducible refine loopV_ret ?_
        | with_reducible refine unrQ_normal ?_
        | with_reducible refine unrQ_exit ?_
        | with_reducible refine unrQ_ret ?_
        | ((with_reducible apply n_call (f := 53)); rfl; rfl; (first | exact d | exact a | exact b))
        | ((with_reducible apply n_call (f := 41)); rfl; rfl; exact fm)
        | ((with_reducible apply n_callb (f := 22)); rfl; exact softs_vals rfl (fun _ => rfl) rfl rfl; exact p_slContains _ _ (by have := dedup_len (([] : List Int).take j); have := List.length_take_le j ([] : List Int); simp only [List.length_take, List.length_drop, PV.cells, List.length_set, List.length_replicate, List.length_cons, List.length_nil] at *; rw [hx.2.1]; omega); rfl)
        | ((with_reducible apply n_idx_own); rfl; rfl; rfl; (simp only [decide_eq_true_eq, List.length_map, List.length_append, List.length_take, List.length_drop, PV.cells, List.length_set, List.length_replicate, List.length_cons, List.length_nil] at *; omega))
        | ((with_reducible apply n_load_vals (f := pint) (xs := []) (0 : Int)); rfl; rfl; rfl; (simp only [decide_eq_true_eq, List.length_map, List.length_append, List.length_take, List.length_drop, PV.cells, List.length_set, List.length_replicate, List.length_cons, List.length_nil, Int.toNat_natCast] at *; omega))
        | ((with_reducible apply n_append_valsL (f := pint) (([] : List Int).getD j 0)); rfl; rfl; rfl; rfl; rfl; rfl; (have := dedup_len (([] : List Int).take j); have := List.length_take_le j ([] : List Int); simp only [List.length_take, List.length_drop, PV.cells, List.length_set, List.length_replicate, List.length_cons, List.length_nil] at *; rw [hx.2.1]; omega); rfl)
        | (first | ((with_reducible apply n_bin); rfl; rfl; focus ((with_reducible (first | apply b_add | apply b_sub)) <;> first | omega | (simp only [List.length_take, List.length_drop, PV.cells, decide_eq_true_eq, decide_eq_false_iff_not, Bool.or_eq_false_iff, Bool.not_eq_true', Bool.not_eq_false', Bool.not_true, Bool.not_false, ints_length, List.length_map, tab_length, List.length_append, List.length_set, List.length_replicate, List.length_cons, List.length_nil] at *; omega))) | ((with_reducible apply n_max); rfl; rfl) | ((with_reducible apply n_min); rfl; rfl))
        | (refine tr_virt 4 1 2 rfl (by omega) rfl ?_; refine tr_loop_v (α := Nat × Nat × List Int) 3 (fun | (j, g, o) => [(31, some (.int .i64 (j : Int))), (4, some (.ref 2 g 0 o.length)), (32, none), (33, none), (34, none), (6, none), (35, none), (36, none), (37, none), (38, none), (39, none), (40, none), (41, none), (42, none), (43, none)]) (fun | (j, g, o) => [none, some ⟨1, 1, ([] : List Int).map pint⟩, some ⟨g, 1, o.map pint⟩]) (fun | (j, g, o) => j ≤ ([] : List Int).length ∧ o = dedup (([] : List Int).take j) ∧ g = o.length) (fun | (j, g, o) => ([] : List Int).length - j) ((0, 0, [])) (ks := [31, 4, 32, 33, 34, 6, 35, 36, 37, 38, 39, 40, 41, 42, 43]) (fun _ => rfl) (fun _ => rfl) rfl (by omega) ?_ ⟨⟨_, rfl, rfl⟩, ⟨_, rfl, rfl⟩, trivial⟩ ⟨⟨_, rfl, rfl, rfl, (by first | exact fzP_eqp rfl rfl | exact fzP_vals (fun _ => rfl) rfl |  rfl | exact fzP_pure (ints_pure _) | exact fzP_pure (u64s_pure _) | exact fzP_pure (by assumption) | exact fzP_pure (by first | (simp [pureE, pure1, ints]; done) | (simp_all [pe_int, pe_bool, pe_str, pe_sl, pe_agg, p1_int, p1_bool, p1_str, p1_sl]; done)))⟩, ⟨_, rfl, rfl, rfl, (by first | exact fzP_eqp rfl rfl | exact fzP_vals (fun _ => rfl) rfl |  rfl | exact fzP_pure (ints_pure _) | exact fzP_pure (u64s_pure _) | exact fzP_pure (by assumption) | exact fzP_pure (by first | (simp [pureE, pure1, ints]; done) | (simp_all [pe_int, pe_bool, pe_str, pe_sl, pe_agg, p1_int, p1_bool, p1_str, p1_sl]; done)))⟩, trivial⟩ ?_; rotate_left; rintro ⟨j, g, o⟩ hx; try dsimp only at hx)
        | ((first | (refine loopV_normal ((j + 1, g, o)) ?_ ⟨⟨_, rfl, rfl⟩, ⟨_, rfl, rfl⟩, trivial⟩ ⟨⟨_, rfl, rfl, rfl, (by first | exact fzP_eqp rfl rfl | exact fzP_vals (fun _ => rfl) rfl |  rfl | exact fzP_pure (ints_pure _) | exact fzP_pure (u64s_pure _) | exact fzP_pure (by assumption) | exact fzP_pure (by first | (simp [pureE, pure1, ints]; done) | (simp_all [pe_int, pe_bool, pe_str, pe_sl, pe_agg, p1_int, p1_bool, p1_str, p1_sl]; done)))⟩, ⟨_, rfl, rfl, rfl, (by first | exact fzP_eqp rfl rfl | exact fzP_vals (fun _ => rfl) rfl |  rfl | exact fzP_pure (ints_pure _) | exact fzP_pure (u64s_pure _) | exact fzP_pure (by assumption) | exact fzP_pure (by first | (simp [pureE, pure1, ints]; done) | (simp_all [pe_int, pe_bool, pe_str, pe_sl, pe_agg, p1_int, p1_bool, p1_str, p1_sl]; done)))⟩, trivial⟩ ?_ ?_) | (refine loopV_normal ((j + 1, g + 1, o ++ [([] : List Int).getD j 0])) ?_ ⟨⟨_, rfl, rfl⟩, ⟨_, rfl, rfl⟩, trivial⟩ ⟨⟨_, rfl, rfl, rfl, (by first | exact fzP_eqp rfl rfl | exact fzP_vals (fun _ => rfl) rfl |  rfl | exact fzP_pure (ints_pure _) | exact fzP_pure (u64s_pure _) | exact fzP_pure (by assumption) | exact fzP_pure (by first | (simp [pureE, pure1, ints]; done) | (simp_all [pe_int, pe_bool, pe_str, pe_sl, pe_agg, p1_int, p1_bool, p1_str, p1_sl]; done)))⟩, ⟨_, rfl, rfl, rfl, (by first | exact fzP_eqp rfl rfl | exact fzP_vals (fun _ => rfl) rfl |  rfl | exact fzP_pure (ints_pure _) | exact fzP_pure (u64s_pure _) | exact fzP_pure (by assumption) | exact fzP_pure (by first | (simp [pureE, pure1, ints]; done) | (simp_all [pe_int, pe_bool, pe_str, pe_sl, pe_agg, p1_int, p1_bool, p1_str, p1_sl]; done)))⟩, trivial⟩ ?_ ?_)); repeat (first | exact only_refl | refine only_put rfl ?_ | refine only_less rfl ?_ | refine only_ov rfl ?_))
        | ((with_reducible apply n_val); rfl; rfl)
        | ((with_reducible apply n_new); rfl; (first | (simp only [hn0, hn1, hn2, hn3, hn4, hn5, List.length_cons, List.length_nil, Nat.reduceAdd, Nat.zero_add]; done) | (simp only [hn0, hn1, hn2, hn3, hn4, hn5, List.length_cons, List.length_nil, Nat.reduceAdd, Nat.zero_add]; rfl) | rfl); rfl)
        | ((with_reducible apply n_append); rfl; rfl; rfl; rfl; rfl; rfl; (first | decide | (simp only [List.length_append, List.length_take, List.length_drop, PV.cells, List.length_set, List.length_replicate, List.length_cons, List.length_nil, List.length_take]; omega)); rfl)
        | ((with_reducible apply n_append_lit); rfl; rfl; rfl; rfl; rfl; (first | decide | (simp only [List.length_append, List.length_take, List.length_drop, PV.cells, List.length_set, List.length_replicate, List.length_cons, List.length_nil, List.length_take]; omega)); (first | (simp only [hn0, hn1, hn2, hn3, hn4, hn5, List.length_cons, List.length_nil, Nat.reduceAdd, Nat.zero_add]; done) | (simp only [hn0, hn1, hn2, hn3, hn4, hn5, List.length_cons, List.length_nil, Nat.reduceAdd, Nat.zero_add]; rfl) | rfl); rfl)
        | (with_reducible refine condT_split (fun h => ?_) (fun h => ?_))
        | ((with_reducible apply fnQ_told_ret); rfl)
        | ((with_reducible apply fnQ_ret_soft); rfl; rfl)
        | ((with_reducible apply fnQ_ret_row); rfl; rfl; rfl)
      all_goals (try dsimp only at *)
      all_goals (try simp only [decide_eq_true_eq, decide_eq_false_iff_not, Bool.not_eq_true', Bool.not_eq_false', List.length_append, List.length_take, List.length_drop, PV.cells, List.length_set, List.length_replicate, List.length_cons, List.length_nil, Int.toNat_natCast] at *)
      · omega
      · obtain ⟨h1, h2, h3⟩ := hx
        refine ⟨by omega, ?_, by omega⟩
        rw [dedup_step (by simp only [List.length_take, List.length_drop, PV.cells, List.length_set, List.length_replicate, List.length_cons, List.length_nil]; omega), ← h2, dd_f (by assumption)]
      · omega
      · obtain ⟨h1, h2, h3⟩ := hx
        refine ⟨by omega, ?_, by omega⟩
        rw [dedup_step (by simp only [List.length_take, List.length_drop, PV.cells, List.length_set, List.length_replicate, List.length_cons, List.length_nil]; omega), ← h2, dd_t (by assumption)]
      · obtain rfl : j = 0 := by omega
        obtain ⟨_, rfl, rfl⟩ := hx
        rfl
      · obtain rfl : j = 0 := by omega
        obtain ⟨_, rfl, rfl⟩ := hx
        exact ⟨⟨_, rfl, rfl, rfl, fzP_vals (fun _ => rfl) rfl⟩, trivial⟩
      · (first | exact ⟨by omega, rfl, rfl⟩ | exact ⟨by omega, rfl, trivial⟩)
    · repeat' first
        | (refine tr_virt 3 1 1 rfl (by omega) rfl ?_)
        | with_reducible refine tr_seq ?_
        | ((with_reducible refine tr_region_f ?_ ?_); kernel_rfl)
        | with_reducible refine n_nil ?_
        | with_reducible refine seqQ_normal ?_
        | with_reducible refine seqQ_exit ?_
        | with_reducible refine seqQ_ret ?_
        | with_reducible refine blkQ_normal ?_
        | with_reducible refine blkQ_exit ?_
        | with_reducible refine blkQ_ret ?_
        | ((with_reducible refine blkQ_exit_ne ?_ ?_); rfl)
        | with_reducible refine tr_block ?_
        | with_reducible refine tr_skip ?_
        | with_reducible refine tr_exit ?_
        | with_reducible refine tr_ret ?_
        | ((with_reducible apply tr_cond_e); rfl)
        | with_reducible refine condT_t ?_
        | with_reducible refine condT_f ?_
        | ((with_reducible refine condT_T ?_ ?_); decide +kernel)
        | ((with_reducible refine condT_F ?_ ?_); decide +kernel)
        | ((with_reducible apply n_andF); rfl; rfl; decide +kernel)
        | ((with_reducible apply n_orT); rfl; rfl; decide +kernel)
        | with_reducible refine loopV_exit ?_
        | with_reducible refine loopV_ret ?_
        | with_reducible refine unrQ_normal ?_
        | with_reducible refine unrQ_exit ?_
        | with_reducible refine unrQ_ret ?_
        | ((with_reducible apply n_call (f := 53)); rfl; rfl; (first | exact d | exact a | exact b))
        | ((with_reducible apply n_call (f := 41)); rfl; rfl; exact fm)
        | ((with_reducible apply n_callb (f := 22)); rfl; exact softs_vals rfl (fun _ => rfl) rfl rfl; exact p_slContains _ _ (by have := dedup_len (([x] : List Int).take j); have := List.length_take_le j ([x] : List Int); simp only [List.length_take, List.length_drop, PV.cells, List.length_set, List.length_replicate, List.length_cons, List.length_nil] at *; rw [hx.2.1]; omega); rfl)
        | ((with_reducible apply n_idx_own); rfl; rfl; rfl; (simp only [decide_eq_true_eq, List.length_map, List.length_append, List.length_take, List.length_drop, PV.cells, List.length_set, List.length_replicate, List.length_cons, List.length_nil] at *; omega))
        | ((with_reducible apply n_load_vals (f := pint) (xs := [x]) (0 : Int)); rfl; rfl; rfl; (simp only [decide_eq_true_eq, List.length_map, List.length_append, List.length_take, List.length_drop, PV.cells, List.length_set, List.length_replicate, List.length_cons, List.length_nil, Int.toNat_natCast] at *; omega))
        | ((with_reducible apply n_append_valsL (f := pint) (([x] : List Int).getD j 0)); rfl; rfl; rfl; rfl; rfl; rfl; (have := dedup_len (([x] : List Int).take j); have := List.length_take_le j ([x] : List Int); simp only [List.length_take, List.length_drop, PV.cells, List.length_set, List.length_replicate, List.length_cons, List.length_nil] at *; rw [hx.2.1]; omega); rfl)
        | (first | ((with_reducible apply n_bin); rfl; rfl; focus ((with_reducible (first | apply b_add | apply b_sub)) <;> first | omega | (simp only [List.length_take, List.length_drop, PV.cells, decide_eq_true_eq, decide_eq_false_iff_not, Bool.or_eq_false_iff, Bool.not_eq_true', Bool.not_eq_false', Bool.not_true, Bool.not_false, ints_length, List.length_map, tab_length, List.length_append, List.length_set, List.length_replicate, List.length_cons, List.length_nil] at *; omega))) | ((with_reducible apply n_max); rfl; rfl) | ((with_reducible apply n_min); rfl; rfl))
        | (refine tr_virt 4 1 2 rfl (by omega) rfl ?_; refine tr_loop_v (α := Nat × Nat × List Int) 3 (fun | (j, g, o) => [(31, some (.int .i64 (j : Int))), (4, some (.ref 2 g 0 o.length)), (32, none), (33, none), (34, none), (6, none), (35, none), (36, none), (37, none), (38, none), (39, none), (40, none), (41, none), (42, none), (43, none)]) (fun | (j, g, o) => [none, some ⟨1, 1, ([x] : List Int).map pint⟩, some ⟨g, 1, o.map pint⟩]) (fun | (j, g, o) => j ≤ ([x] : List Int).length ∧ o = dedup (([x] : List Int).take j) ∧ g = o.length) (fun | (j, g, o) => ([x] : List Int).length - j) ((0, 0, [])) (ks := [31, 4, 32, 33, 34, 6, 35, 36, 37, 38, 39, 40, 41, 42, 43]) (fun _ => rfl) (fun _ => rfl) rfl (by omega) ?_ ⟨⟨_, rfl, rfl⟩, ⟨_, rfl, rfl⟩, trivial⟩ ⟨⟨_, rfl, rfl, rfl, (by first | exact fzP_eqp rfl rfl | exact fzP_vals (fun _ => rfl) rfl |  rfl | exact fzP_pure (ints_pure _) | exact fzP_pure (u64s_pure _) | exact fzP_pure (by assumption) | exact fzP_pure (by first | (simp [pureE, pure1, ints]; done) | (simp_all [pe_int, pe_bool, pe_str, pe_sl, pe_agg, p1_int, p1_bool, p1_str, p1_sl]; done)))⟩, ⟨_, rfl, rfl, rfl, (by first | exact fzP_eqp rfl rfl | exact fzP_vals (fun _ => rfl) rfl |  rfl | exact fzP_pure (ints_pure _) | exact fzP_pure (u64s_pure _) | exact fzP_pure (by assumption) | exact fzP_pure (by first | (simp [pureE, pure1, ints]; done) | (simp_all [pe_int, pe_bool, pe_str, pe_sl, pe_agg, p1_int, p1_bool, p1_str, p1_sl]; done)))⟩, trivial⟩ ?_; rotate_left; rintro ⟨j, g, o⟩ hx; try dsimp only at hx)
        | ((first | (refine loopV_normal ((j + 1, g, o)) ?_ ⟨⟨_, rfl, rfl⟩, ⟨_, rfl, rfl⟩, trivial⟩ ⟨⟨_, rfl, rfl, rfl, (by first | exact fzP_eqp rfl rfl | exact fzP_vals (fun _ => rfl) rfl |  rfl | exact fzP_pure (ints_pure _) | exact fzP_pure (u64s_pure _) | exact fzP_pure (by assumption) | exact fzP_pure (by first | (simp [pureE, pure1, ints]; done) | (simp_all [pe_int, pe_bool, pe_str, pe_sl, pe_agg, p1_int, p1_bool, p1_str, p1_sl]; done)))⟩, ⟨_, rfl, rfl, rfl, (by first | exact fzP_eqp rfl rfl | exact fzP_vals (fun _ => rfl) rfl |  rfl | exact fzP_pure (ints_pure _) | exact fzP_pure (u64s_pure _) | exact fzP_pure (by assumption) | exact fzP_pure (by first | (simp [pureE, pure1, ints]; done) | (simp_all [pe_int, pe_bool, pe_str, pe_sl, pe_agg, p1_int, p1_bool, p1_str, p1_sl]; done)))⟩, trivial⟩ ?_ ?_) | (refine loopV_normal ((j + 1, g + 1, o ++ [([x] : List Int).getD j 0])) ?_ ⟨⟨_, rfl, rfl⟩, ⟨_, rfl, rfl⟩, trivial⟩ ⟨⟨_, rfl, rfl, rfl, (by first | exact fzP_eqp rfl rfl | exact fzP_vals (fun _ => rfl) rfl |  rfl | exact fzP_pure (ints_pure _) | exact fzP_pure (u64s_pure _) | exact fzP_pure (by assumption) | exact fzP_pure (by first | (simp [pureE, pure1, ints]; done) | (simp_all [pe_int, pe_bool, pe_str, pe_sl, pe_agg, p1_int, p1_bool, p1_str, p1_sl]; done)))⟩, ⟨_, rfl, rfl, rfl, (by first | exact fzP_eqp rfl rfl | exact fzP_vals (fun _ => rfl) rfl |  rfl | exact fzP_pure (ints_pure _) | exact fzP_pure (u64s_pure _) | exact fzP_pure (by assumption) | exact fzP_pure (by first | (simp [pureE, pure1, ints]; done) | (simp_all [pe_int, pe_bool, pe_str, pe_sl, pe_agg, p1_int, p1_bool, p1_str, p1_sl]; done)))⟩, trivial⟩ ?_ ?_)); repeat (first | exact only_refl | refine only_put rfl ?_ | refine only_less rfl ?_ | refine only_ov rfl ?_))
        | ((with_reducible apply n_val); rfl; rfl)
        | ((with_reducible apply n_new); rfl; (first | (simp only [hn0, hn1, hn2, hn3, hn4, hn5, List.length_cons, List.length_nil, Nat.reduceAdd, Nat.zero_add]; done) | (simp only [hn0, hn1, hn2, hn3, hn4, hn5, List.length_cons, List.length_nil, Nat.reduceAdd, Nat.zero_add]; rfl) | rfl); rfl)
        | ((with_reducible apply n_append); rfl; rfl; rfl; rfl; rfl; rfl; (first | decide | (simp only [List.length_append, List.length_take, List.length_drop, PV.cells, List.length_set, List.length_replicate, List.length_cons, List.length_nil, List.length_take]; omega)); rfl)
        | ((with_reducible apply n_append_lit); rfl; rfl; rfl; rfl; rfl; (first | decide | (simp only [List.length_append, List.length_take, List.length_drop, PV.cells, List.length_set, List.length_replicate, List.length_cons, List.length_nil, List.length_take]; omega)); (first | (simp only [hn0, hn1, hn2, hn3, hn4, hn5, List.length_cons, List.length_nil, Nat.reduceAdd, Nat.zero_add]; done) | (simp only [hn0, hn1, hn2, hn3, hn4, hn5, List.length_cons, List.length_nil, Nat.reduceAdd, Nat.zero_add]; rfl) | rfl); rfl)
        | (with_reducible refine condT_split (fun h => ?_) (fun h => ?_))
        | ((with_reducible apply fnQ_told_ret); rfl)
        | ((with_reducible apply fnQ_ret_soft); rfl; rfl)
        | ((with_reducible apply fnQ_ret_row); rfl; rfl; rfl)
      all_goals (try dsimp only at *)
      all_goals (try simp only [decide_eq_true_eq, decide_eq_false_iff_not, Bool.not_eq_true', Bool.not_eq_false', List.length_append, List.length_take, List.length_drop, PV.cells, List.length_set, List.length_replicate, List.length_cons, List.length_nil, Int.toNat_natCast] at *)
      · omega
      · obtain ⟨h1, h2, h3⟩ := hx
        refine ⟨by omega, ?_, by omega⟩
        rw [dedup_step (by simp only [List.length_take, List.length_drop, PV.cells, List.length_set, List.length_replicate, List.length_cons, List.length_nil]; omega), ← h2, dd_f (by assumption)]
      · omega
      · obtain ⟨h1, h2, h3⟩ := hx
        refine ⟨by omega, ?_, by omega⟩
        rw [dedup_step (by simp only [List.length_take, List.length_drop, PV.cells, List.length_set, List.length_replicate, List.length_cons, List.length_nil]; omega), ← h2, dd_t (by assumption)]
      · obtain rfl : j = 1 := by omega
        obtain ⟨_, rfl, rfl⟩ := hx
        rfl
      · obtain rfl : j = 1 := by omega
        obtain ⟨_, rfl, rfl⟩ := hx
        exact ⟨⟨_, rfl, rfl, rfl, fzP_vals (fun _ => rfl) rfl⟩, trivial⟩
      · (first | exact ⟨by omega, rfl, rfl⟩ | exact ⟨by omega, rfl, trivial⟩)
    · repeat' first
        | (refine tr_virt 3 1 1 rfl (by omega) rfl ?_)
        | with_reducible refine tr_seq ?_
        | ((with_reducible refine tr_region_f ?_ ?_); kernel_rfl)
        | with_reducible refine n_nil ?_
        | with_reducible refine seqQ_normal ?_
        | with_reducible refine seqQ_exit ?_
        | with_reducible refine seqQ_ret ?_
        | with_reducible refine blkQ_normal ?_
        | with_reducible refine blkQ_exit ?_
        | with_reducible refine blkQ_ret ?_
        | ((with_reducible refine blkQ_exit_ne ?_ ?_); rfl)
        | with_reducible refine tr_block ?_
        | with_reducible refine tr_skip ?_
        | with_reducible refine tr_exit ?_
        | with_reducible refine tr_ret ?_
        | ((with_reducible apply tr_cond_e); rfl)
        | with_reducible refine condT_t ?_
        | with_reducible refine condT_f ?_
        | ((with_reducible refine condT_T ?_ ?_); decide +kernel)
        | ((with_reducible refine condT_F ?_ ?_); decide +kernel)
        | ((with_reducible apply n_andF); rfl; rfl; decide +kernel)
        | ((with_reducible apply n_orT); rfl; rfl; decide +kernel)
        | with_reducible refine loopV_exit ?_
        | with_reducible refine loopV_ret ?_
        | with_reducible refine unrQ_normal ?_
        | with_reducible refine unrQ_exit ?_
        | with_reducible refine unrQ_ret ?_
        | ((with_reducible apply n_call (f := 53)); rfl; rfl; (first | exact d | exact a | exact b))
        | ((with_reducible apply n_call (f := 41)); rfl; rfl; exact fm)
        | ((with_reducible apply n_callb (f := 22)); rfl; exact softs_vals rfl (fun _ => rfl) rfl rfl; exact p_slContains _ _ (by have := dedup_len (([x, y] : List Int).take j); have := List.length_take_le j ([x, y] : List Int); simp only [List.length_take, List.length_drop, PV.cells, List.length_set, List.length_replicate, List.length_cons, List.length_nil] at *; rw [hx.2.1]; omega); rfl)
        | ((with_reducible apply n_idx_own); rfl; rfl; rfl; (simp only [decide_eq_true_eq, List.length_map, List.length_append, List.length_take, List.length_drop, PV.cells, List.length_set, List.length_replicate, List.length_cons, List.length_nil] at *; omega))
        | ((with_reducible apply n_load_vals (f := pint) (xs := [x, y]) (0 : Int)); rfl; rfl; rfl; (simp only [decide_eq_true_eq, List.length_map, List.length_append, List.length_take, List.length_drop, PV.cells, List.length_set, List.length_replicate, List.length_cons, List.length_nil, Int.toNat_natCast] at *; omega))
        | ((with_reducible apply n_append_valsL (f := pint) (([x, y] : List Int).getD j 0)); rfl; rfl; rfl; rfl; rfl; rfl; (have := dedup_len (([x, y] : List Int).take j); have := List.length_take_le j ([x, y] : List Int); simp only [List.length_take, List.length_drop, PV.cells, List.length_set, List.length_replicate, List.length_cons, List.length_nil] at *; rw [hx.2.1]; omega); rfl)
        | (first | ((with_reducible apply n_bin); rfl; rfl; focus ((with_reducible (first | apply b_add | apply b_sub)) <;> first | omega | (simp only [List.length_take, List.length_drop, PV.cells, decide_eq_true_eq, decide_eq_false_iff_not, Bool.or_eq_false_iff, Bool.not_eq_true', Bool.not_eq_false', Bool.not_true, Bool.not_false, ints_length, List.length_map, tab_length, List.length_append, List.length_set, List.length_replicate, List.length_cons, List.length_nil] at *; omega))) | ((with_reducible apply n_max); rfl; rfl) | ((with_reducible apply n_min); rfl; rfl))
        | (refine tr_virt 4 1 2 rfl (by omega) rfl ?_; refine tr_loop_v (α := Nat × Nat × List Int) 3 (fun | (j, g, o) => [(31, some (.int .i64 (j : Int))), (4, some (.ref 2 g 0 o.length)), (32, none), (33, none), (34, none), (6, none), (35, none), (36, none), (37, none), (38, none), (39, none), (40, none), (41, none), (42, none), (43, none)]) (fun | (j, g, o) => [none, some ⟨1, 1, ([x, y] : List Int).map pint⟩, some ⟨g, 1, o.map pint⟩]) (fun | (j, g, o) => j ≤ ([x, y] : List Int).length ∧ o = dedup (([x, y] : List Int).take j) ∧ g = o.length) (fun | (j, g, o) => ([x, y] : List Int).length - j) ((0, 0, [])) (ks := [31, 4, 32, 33, 34, 6, 35, 36, 37, 38, 39, 40, 41, 42, 43]) (fun _ => rfl) (fun _ => rfl) rfl (by omega) ?_ ⟨⟨_, rfl, rfl⟩, ⟨_, rfl, rfl⟩, trivial⟩ ⟨⟨_, rfl, rfl, rfl, (by first | exact fzP_eqp rfl rfl | exact fzP_vals (fun _ => rfl) rfl |  rfl | exact fzP_pure (ints_pure _) | exact fzP_pure (u64s_pure _) | exact fzP_pure (by assumption) | exact fzP_pure (by first | (simp [pureE, pure1, ints]; done) | (simp_all [pe_int, pe_bool, pe_str, pe_sl, pe_agg, p1_int, p1_bool, p1_str, p1_sl]; done)))⟩, ⟨_, rfl, rfl, rfl, (by first | exact fzP_eqp rfl rfl | exact fzP_vals (fun _ => rfl) rfl |  rfl | exact fzP_pure (ints_pure _) | exact fzP_pure (u64s_pure _) | exact fzP_pure (by assumption) | exact fzP_pure (by first | (simp [pureE, pure1, ints]; done) | (simp_all [pe_int, pe_bool, pe_str, pe_sl, pe_agg, p1_int, p1_bool, p1_str, p1_sl]; done)))⟩, trivial⟩ ?_; rotate_left; rintro ⟨j, g, o⟩ hx; try dsimp only at hx)
        | ((first | (refine loopV_normal ((j + 1, g, o)) ?_ ⟨⟨_, rfl, rfl⟩, ⟨_, rfl, rfl⟩, trivial⟩ ⟨⟨_, rfl, rfl, rfl, (by first | exact fzP_eqp rfl rfl | exact fzP_vals (fun _ => rfl) rfl |  rfl | exact fzP_pure (ints_pure _) | exact fzP_pure (u64s_pure _) | exact fzP_pure (by assumption) | exact fzP_pure (by first | (simp [pureE, pure1, ints]; done) | (simp_all [pe_int, pe_bool, pe_str, pe_sl, pe_agg, p1_int, p1_bool, p1_str, p1_sl]; done)))⟩, ⟨_, rfl, rfl, rfl, (by first | exact fzP_eqp rfl rfl | exact fzP_vals (fun _ => rfl) rfl |  rfl | exact fzP_pure (ints_pure _) | exact fzP_pure (u64s_pure _) | exact fzP_pure (by assumption) | exact fzP_pure (by first | (simp [pureE, pure1, ints]; done) | (simp_all [pe_int, pe_bool, pe_str, pe_sl, pe_agg, p1_int, p1_bool, p1_str, p1_sl]; done)))⟩, trivial⟩ ?_ ?_) | (refine loopV_normal ((j + 1, g + 1, o ++ [([x, y] : List Int).getD j 0])) ?_ ⟨⟨_, rfl, rfl⟩, ⟨_, rfl, rfl⟩, trivial⟩ ⟨⟨_, rfl, rfl, rfl, (by first | exact fzP_eqp rfl rfl | exact fzP_vals (fun _ => rfl) rfl |  rfl | exact fzP_pure (ints_pure _) | exact fzP_pure (u64s_pure _) | exact fzP_pure (by assumption) | exact fzP_pure (by first | (simp [pureE, pure1, ints]; done) | (simp_all [pe_int, pe_bool, pe_str, pe_sl, pe_agg, p1_int, p1_bool, p1_str, p1_sl]; done)))⟩, ⟨_, rfl, rfl, rfl, (by first | exact fzP_eqp rfl rfl | exact fzP_vals (fun _ => rfl) rfl |  rfl | exact fzP_pure (ints_pure _) | exact fzP_pure (u64s_pure _) | exact fzP_pure (by assumption) | exact fzP_pure (by first | (simp [pureE, pure1, ints]; done) | (simp_all [pe_int, pe_bool, pe_str, pe_sl, pe_agg, p1_int, p1_bool, p1_str, p1_sl]; done)))⟩, trivial⟩ ?_ ?_)); repeat (first | exact only_refl | refine only_put rfl ?_ | refine only_less rfl ?_ | refine only_ov rfl ?_))
        | ((with_reducible apply n_val); rfl; rfl)
        | ((with_reducible apply n_new); rfl; (first | (simp only [hn0, hn1, hn2, hn3, hn4, hn5, List.length_cons, List.length_nil, Nat.reduceAdd, Nat.zero_add]; done) | (simp only [hn0, hn1, hn2, hn3, hn4, hn5, List.length_cons, List.length_nil, Nat.reduceAdd, Nat.zero_add]; rfl) | rfl); rfl)
        | ((with_reducible apply n_append); rfl; rfl; rfl; rfl; rfl; rfl; (first | decide | (simp only [List.length_append, List.length_take, List.length_drop, PV.cells, List.length_set, List.length_replicate, List.length_cons, List.length_nil, List.length_take]; omega)); rfl)
        | ((with_reducible apply n_append_lit); rfl; rfl; rfl; rfl; rfl; (first | decide | (simp only [List.length_append, List.length_take, List.length_drop, PV.cells, List.length_set, List.length_replicate, List.length_cons, List.length_nil, List.length_take]; omega)); (first | (simp only [hn0, hn1, hn2, hn3, hn4, hn5, List.length_cons, List.length_nil, Nat.reduceAdd, Nat.zero_add]; done) | (simp only [hn0, hn1, hn2, hn3, hn4, hn5, List.length_cons, List.length_nil, Nat.reduceAdd, Nat.zero_add]; rfl) | rfl); rfl)
        | (with_reducible refine condT_split (fun h => ?_) (fun h => ?_))
        | ((with_reducible apply fnQ_told_ret); rfl)
        | ((with_reducible apply fnQ_ret_soft); rfl; rfl)
        | ((with_reducible apply fnQ_ret_row); rfl; rfl; rfl)
      all_goals (try dsimp only at *)
      all_goals (try simp only [decide_eq_true_eq, decide_eq_false_iff_not, Bool.not_eq_true', Bool.not_eq_false', List.length_append, List.length_take, List.length_drop, PV.cells, List.length_set, List.length_replicate, List.length_cons, List.length_nil, Int.toNat_natCast] at *)
      · omega
      · obtain ⟨h1, h2, h3⟩ := hx
        refine ⟨by omega, ?_, by omega⟩
        rw [dedup_step (by simp only [List.length_take, List.length_drop, PV.cells, List.length_set, List.length_replicate, List.length_cons, List.length_nil]; omega), ← h2, dd_f (by assumption)]
      · omega
      · obtain ⟨h1, h2, h3⟩ := hx
        refine ⟨by omega, ?_, by omega⟩
        rw [dedup_step (by simp only [List.length_take, List.length_drop, PV.cells, List.length_set, List.length_replicate, List.length_cons, List.length_nil]; omega), ← h2, dd_t (by assumption)]
      · obtain rfl : j = 2 := by omega
        obtain ⟨_, rfl, rfl⟩ := hx
        rfl
      · obtain rfl : j = 2 := by omega
        obtain ⟨_, rfl, rfl⟩ := hx
        exact ⟨⟨_, rfl, rfl, rfl, fzP_vals (fun _ => rfl) rfl⟩, trivial⟩
      · (first | exact ⟨by omega, rfl, rfl⟩ | exact ⟨by omega, rfl, trivial⟩)
    · repeat' first
        | (refine tr_virt 3 1 1 rfl (by omega) rfl ?_)
        | with_reducible refine tr_seq ?_
        | ((with_reducible refine tr_region_f ?_ ?_); kernel_rfl)
        | with_reducible refine n_nil ?_
        | with_reducible refine seqQ_normal ?_
        | with_reducible refine seqQ_exit ?_
        | with_reducible refine seqQ_ret ?_
        | with_reducible refine blkQ_normal ?_
        | with_reducible refine blkQ_exit ?_
        | with_reducible refine blkQ_ret ?_
        | ((with_reducible refine blkQ_exit_ne ?_ ?_); rfl)
        | with_reducible refine tr_block ?_
        | with_reducible refine tr_skip ?_
        | with_reducible refine tr_exit ?_
        | with_reducible refine tr_ret ?_
        | ((with_reducible apply tr_cond_e); rfl)
        | with_reducible refine condT_t ?_
        | with_reducible refine condT_f ?_
        | ((with_reducible refine condT_T ?_ ?_); decide +kernel)
        | ((with_reducible refine condT_F ?_ ?_); decide +kernel)
        | ((with_reducible apply n_andF); rfl; rfl; decide +kernel)
        | ((with_reducible apply n_orT); rfl; rfl; decide +kernel)
        | with_reducible refine loopV_exit ?_
        | with_reducible refine loopV_ret ?_
        | with_reducible refine unrQ_normal ?_
        | with_reducible refine unrQ_exit ?_
        | with_reducible refine unrQ_ret ?_
        | ((with_reducible apply n_call (f := 53)); rfl; rfl; (first | exact d | exact a | exact b))
        | ((with_reducible apply n_call (f := 41)); rfl; rfl; exact fm)
        | ((with_reducible apply n_callb (f := 22)); rfl; exact softs_vals rfl (fun _ => rfl) rfl rfl; exact p_slContains _ _ (by have := dedup_len (([x, y, z] : List Int).take j); have := List.length_take_le j ([x, y, z] : List Int); simp only [List.length_take, List.length_drop, PV.cells, List.length_set, List.length_replicate, List.length_cons, List.length_nil] at *; rw [hx.2.1]; omega); rfl)
        | ((with_reducible apply n_idx_own); rfl; rfl; rfl; (simp only [decide_eq_true_eq, List.length_map, List.length_append, List.length_take, List.length_drop, PV.cells, List.length_set, List.length_replicate, List.length_cons, List.length_nil] at *; omega))
        | ((with_reducible apply n_load_vals (f := pint) (xs := [x, y, z]) (0 : Int)); rfl; rfl; rfl; (simp only [decide_eq_true_eq, List.length_map, List.length_append, List.length_take, List.length_drop, PV.cells, List.length_set, List.length_replicate, List.length_cons, List.length_nil, Int.toNat_natCast] at *; omega))
        | ((with_reducible apply n_append_valsL (f := pint) (([x, y, z] : List Int).getD j 0)); rfl; rfl; rfl; rfl; rfl; rfl; (have := dedup_len (([x, y, z] : List Int).take j); have := List.length_take_le j ([x, y, z] : List Int); simp only [List.length_take, List.length_drop, PV.cells, List.length_set, List.length_replicate, List.length_cons, List.length_nil] at *; rw [hx.2.1]; omega); rfl)
        | (first | ((with_reducible apply n_bin); rfl; rfl; focus ((with_reducible (first | apply b_add | apply b_sub)) <;> first | omega | (simp only [List.length_take, List.length_drop, PV.cells, decide_eq_true_eq, decide_eq_false_iff_not, Bool.or_eq_false_iff, Bool.not_eq_true', Bool.not_eq_false', Bool.not_true, Bool.not_false, ints_length, List.length_map, tab_length, List.length_append, List.length_set, List.length_replicate, List.length_cons, List.length_nil] at *; omega))) | ((with_reducible apply n_max); rfl; rfl) | ((with_reducible apply n_min); rfl; rfl))
        | (refine tr_virt 4 1 2 rfl (by omega) rfl ?_; refine tr_loop_v (α := Nat × Nat × List Int) 3 (fun | (j, g, o) => [(31, some (.int .i64 (j : Int))), (4, some (.ref 2 g 0 o.length)), (32, none), (33, none), (34, none), (6, none), (35, none), (36, none), (37, none), (38, none), (39, none), (40, none), (41, none), (42, none), (43, none)]) (fun | (j, g, o) => [none, some ⟨1, 1, ([x, y, z] : List Int).map pint⟩, some ⟨g, 1, o.map pint⟩]) (fun | (j, g, o) => j ≤ ([x, y, z] : List Int).length ∧ o = dedup (([x, y, z] : List Int).take j) ∧ g = o.length) (fun | (j, g, o) => ([x, y, z] : List Int).length - j) ((0, 0, [])) (ks := [31, 4, 32, 33, 34, 6, 35, 36, 37, 38, 39, 40, 41, 42, 43]) (fun _ => rfl) (fun _ => rfl) rfl (by omega) ?_ ⟨⟨_, rfl, rfl⟩, ⟨_, rfl, rfl⟩, trivial⟩ ⟨⟨_, rfl, rfl, rfl, (by first | exact fzP_eqp rfl rfl | exact fzP_vals (fun _ => rfl) rfl |  rfl | exact fzP_pure (ints_pure _) | exact fzP_pure (u64s_pure _) | exact fzP_pure (by assumption) | exact fzP_pure (by first | (simp [pureE, pure1, ints]; done) | (simp_all [pe_int, pe_bool, pe_str, pe_sl, pe_agg, p1_int, p1_bool, p1_str, p1_sl]; done)))⟩, ⟨_, rfl, rfl, rfl, (by first | exact fzP_eqp rfl rfl | exact fzP_vals (fun _ => rfl) rfl |  rfl | exact fzP_pure (ints_pure _) | exact fzP_pure (u64s_pure _) | exact fzP_pure (by assumption) | exact fzP_pure (by first | (simp [pureE, pure1, ints]; done) | (simp_all [pe_int, pe_bool, pe_str, pe_sl, pe_agg, p1_int, p1_bool, p1_str, p1_sl]; done)))⟩, trivial⟩ ?_; rotate_left; rintro ⟨j, g, o⟩ hx; try dsimp only at hx)
        | ((first | (refine loopV_normal ((j + 1, g, o)) ?_ ⟨⟨_, rfl, rfl⟩, ⟨_, rfl, rfl⟩, trivial⟩ ⟨⟨_, rfl, rfl, rfl, (by first | exact fzP_eqp rfl rfl | exact fzP_vals (fun _ => rfl) rfl |  rfl | exact fzP_pure (ints_pure _) | exact fzP_pure (u64s_pure _) | exact fzP_pure (by assumption) | exact fzP_pure (by first | (simp [pureE, pure1, ints]; done) | (simp_all [pe_int, pe_bool, pe_str, pe_sl, pe_agg, p1_int, p1_bool, p1_str, p1_sl]; done)))⟩, ⟨_, rfl, rfl, rfl, (by first | exact fzP_eqp rfl rfl | exact fzP_vals (fun _ => rfl) rfl |  rfl | exact fzP_pure (ints_pure _) | exact fzP_pure (u64s_pure _) | exact fzP_pure (by assumption) | exact fzP_pure (by first | (simp [pureE, pure1, ints]; done) | (simp_all [pe_int, pe_bool, pe_str, pe_sl, pe_agg, p1_int, p1_bool, p1_str, p1_sl]; done)))⟩, trivial⟩ ?_ ?_) | (refine loopV_normal ((j + 1, g + 1, o ++ [([x, y, z] : List Int).getD j 0])) ?_ ⟨⟨_, rfl, rfl⟩, ⟨_, rfl, rfl⟩, trivial⟩ ⟨⟨_, rfl, rfl, rfl, (by first | exact fzP_eqp rfl rfl | exact fzP_vals (fun _ => rfl) rfl |  rfl | exact fzP_pure (ints_pure _) | exact fzP_pure (u64s_pure _) | exact fzP_pure (by assumption) | exact fzP_pure (by first | (simp [pureE, pure1, ints]; done) | (simp_all [pe_int, pe_bool, pe_str, pe_sl, pe_agg, p1_int, p1_bool, p1_str, p1_sl]; done)))⟩, ⟨_, rfl, rfl, rfl, (by first | exact fzP_eqp rfl rfl | exact fzP_vals (fun _ => rfl) rfl |  rfl | exact fzP_pure (ints_pure _) | exact fzP_pure (u64s_pure _) | exact fzP_pure (by assumption) | exact fzP_pure (by first | (simp [pureE, pure1, ints]; done) | (simp_all [pe_int, pe_bool, pe_str, pe_sl, pe_agg, p1_int, p1_bool, p1_str, p1_sl]; done)))⟩, trivial⟩ ?_ ?_)); repeat (first | exact only_refl | refine only_put rfl ?_ | refine only_less rfl ?_ | refine only_ov rfl ?_))
        | ((with_reducible apply n_val); rfl; rfl)
        | ((with_reducible apply n_new); rfl; (first | (simp only [hn0, hn1, hn2, hn3, hn4, hn5, List.length_cons, List.length_nil, Nat.reduceAdd, Nat.zero_add]; done) | (simp only [hn0, hn1, hn2, hn3, hn4, hn5, List.length_cons, List.length_nil, Nat.reduceAdd, Nat.zero_add]; rfl) | rfl); rfl)
        | ((with_reducible apply n_append); rfl; rfl; rfl; rfl; rfl; rfl; (first | decide | (simp only [List.length_append, List.length_take, List.length_drop, PV.cells, List.length_set, List.length_replicate, List.length_cons, List.length_nil, List.length_take]; omega)); rfl)
        | ((with_reducible apply n_append_lit); rfl; rfl; rfl; rfl; rfl; (first | decide | (simp only [List.length_append, List.length_take, List.length_drop, PV.cells, List.length_set, List.length_replicate, List.length_cons, List.length_nil, List.length_take]; omega)); (first | (simp only [hn0, hn1, hn2, hn3, hn4, hn5, List.length_cons, List.length_nil, Nat.reduceAdd, Nat.zero_add]; done) | (simp only [hn0, hn1, hn2, hn3, hn4, hn5, List.length_cons, List.length_nil, Nat.reduceAdd, Nat.zero_add]; rfl) | rfl); rfl)
        | (with_reducible refine condT_split (fun h => ?_) (fun h => ?_))
        | ((with_reducible apply fnQ_told_ret); rfl)
        | ((with_reducible apply fnQ_ret_soft); rfl; rfl)
        | ((with_reducible apply fnQ_ret_row); rfl; rfl; rfl)
      all_goals (try dsimp only at *)
      all_goals (try simp only [decide_eq_true_eq, decide_eq_false_iff_not, Bool.not_eq_true', Bool.not_eq_false', List.length_append, List.length_take, List.length_drop, PV.cells, List.length_set, List.length_replicate, List.length_cons, List.length_nil, Int.toNat_natCast] at *)
      · omega
      · obtain ⟨h1, h2, h3⟩ := hx
        refine ⟨by omega, ?_, by omega⟩
        rw [dedup_step (by simp only [List.length_take, List.length_drop, PV.cells, List.length_set, List.length_replicate, List.length_cons, List.length_nil]; omega), ← h2, dd_f (by assumption)]
      · omega
      · obtain ⟨h1, h2, h3⟩ := hx
        refine ⟨by omega, ?_, by omega⟩
        rw [dedup_step (by simp only [List.length_take, List.length_drop, PV.cells, List.length_set, List.length_replicate, List.length_cons, List.length_nil]; omega), ← h2, dd_t (by assumption)]
      · obtain rfl : j = 3 := by omega
        obtain ⟨_, rfl, rfl⟩ := hx
        rfl
      · obtain rfl : j = 3 := by omega
        obtain ⟨_, rfl, rfl⟩ := hx
        exact ⟨⟨_, rfl, rfl, rfl, fzP_vals (fun _ => rfl) rfl⟩, trivial⟩
      · (first | exact ⟨by omega, rfl, rfl⟩ | exact ⟨by omega, rfl, trivial⟩)
theorem p_Uses (i : In) : Pure Go.Proofs.Tryd.prog glD 47 [pI i] (.sl (ints (usesI i))) := by
  cases hf : form i with
  | true => exact (f_Uses i hf).pure (soft_vals (f := pint) rfl (fun _ => rfl) rfl)
  | false =>
    have fm := p_Form i
    rw [hf] at fm
    refine Pure.fn hmix b47 ?_
    repeat' first
      | with_reducible refine tr_seq ?_
      | ((with_reducible refine tr_region_f ?_ ?_); kernel_rfl)
      | with_reducible refine n_nil ?_
      | with_reducible refine seqQ_normal ?_
      | with_reducible refine seqQ_exit ?_
      | with_reducible refine seqQ_ret ?_
      | with_reducible refine blkQ_normal ?_
      | with_reducible refine blkQ_exit ?_
      | with_reducible refine blkQ_ret ?_
      | ((with_reducible refine blkQ_exit_ne ?_ ?_); rfl)
      | with_reducible refine tr_block ?_
      | with_reducible refine tr_skip ?_
      | with_reducible refine tr_exit ?_
      | with_reducible refine tr_ret ?_
      | ((with_reducible apply tr_cond_e); rfl)
      | with_reducible refine condT_t ?_
      | with_reducible refine condT_f ?_
      | ((with_reducible refine condT_T ?_ ?_); decide +kernel)
      | ((with_reducible refine condT_F ?_ ?_); decide +kernel)
      | ((with_reducible apply n_andF); rfl; rfl; decide +kernel)
      | ((with_reducible apply n_orT); rfl; rfl; decide +kernel)
      | with_reducible refine loopV_exit ?_
      | with_reducible refine loopV_ret ?_
      | with_reducible refine unrQ_normal ?_
      | with_reducible refine unrQ_exit ?_
      | with_reducible refine unrQ_ret ?_
      | ((with_reducible apply n_call (f := 41)); rfl; rfl; exact fm)
      | ((with_reducible apply n_val); rfl; rfl)
      | ((with_reducible apply n_new); rfl; (first | (simp only [hn0, hn1, hn2, hn3, hn4, hn5, List.length_cons, List.length_nil, Nat.reduceAdd, Nat.zero_add]; done) | (simp only [hn0, hn1, hn2, hn3, hn4, hn5, List.length_cons, List.length_nil, Nat.reduceAdd, Nat.zero_add]; rfl) | rfl); rfl)
      | ((with_reducible apply n_append); rfl; rfl; rfl; rfl; rfl; rfl; (first | decide | (simp only [List.length_append, List.length_cons, List.length_nil, List.length_set, List.length_replicate, ints_length] at *; omega)); rfl)
      | ((with_reducible apply n_append_lit); rfl; rfl; rfl; rfl; rfl; (first | decide | (simp only [List.length_append, List.length_cons, List.length_nil, List.length_set, List.length_replicate, ints_length] at *; omega)); (first | (simp only [hn0, hn1, hn2, hn3, hn4, hn5, List.length_cons, List.length_nil, Nat.reduceAdd, Nat.zero_add]; done) | (simp only [hn0, hn1, hn2, hn3, hn4, hn5, List.length_cons, List.length_nil, Nat.reduceAdd, Nat.zero_add]; rfl) | rfl); rfl)
      | (with_reducible refine condT_split (fun h => ?_) (fun h => ?_))
      | ((with_reducible apply fnQ_told_ret); rfl)
      | ((with_reducible apply fnQ_ret_soft); rfl; rfl)
      | ((with_reducible apply fnQ_ret_row); rfl; rfl; rfl)
    rw [usesI, hf]
    rfl
end Go.Vm
end
