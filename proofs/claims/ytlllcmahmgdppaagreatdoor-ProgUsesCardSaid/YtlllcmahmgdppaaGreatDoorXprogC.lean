/- Laid. -/
import Derived.Test.YtlllcmahmgdppaaGreatDoorVmThree
import Derived.KernelRfl
import Derived.Test.YtlllcmahmgdppaaGreatDoorProg
import Derived.Test.YtlllcmahmgdppaaGreatDoorXprogB
section
/- Code. -/
set_option maxRecDepth 100000
set_option linter.unusedSimpArgs false
set_option linter.unusedVariables false
namespace Go.Vm
open Go
def c12 : RFn := ⟨(.seq (rf (.o 1 (.box (.t 0)) (.o 2 (.move (.c (.bool false))) .nil))) (.seq (.seq (rf (.o 6 (.fieldAddr 0 (.t 1)) (.o 7 (.load none (.t 6)) (.o 8 (.len false (.t 7)) (.o 9 (.bin .gtr (.t 8) (.i 10)) .nil))))) (.cond (.t 9) (.seq (rf (.o 2 (.move (.c (.bool false))) .nil)) .ret) .skip)) (.seq (.seq (rf (.o 3 (.move (.i 0)) .nil)) (.block 0 (.loop (.seq (.seq (rf (.o 10 (.m 3) (.o 11 (.fieldAddr 0 (.t 1)) (.o 12 (.load none (.t 11)) (.o 13 (.len false (.t 12)) (.o 14 (.bin .lss (.t 10) (.t 13)) .nil)))))) (.cond (.t 14) .skip (.exit 0))) (.seq (.block 1 (.seq (.seq (rf (.o 17 (.fieldAddr 0 (.t 1)) (.o 18 (.load none (.t 17)) (.o 19 (.m 3) (.o 20 (.idxAddr 3 (.t 18) (.t 19)) (.o 21 (.fieldAddr 2 (.t 20)) (.o 22 (.load none (.t 21)) (.o 23 (.len false (.t 22)) (.o 24 (.bin .gtr (.t 23) (.i 20)) .nil))))))))) (.cond (.t 24) (.seq (rf (.o 2 (.move (.c (.bool false))) .nil)) .ret) .skip)) (.seq (rf (.o 4 (.move (.i 0)) .nil)) (.block 2 (.loop (.seq (.seq (rf (.o 25 (.m 4) (.o 26 (.fieldAddr 0 (.t 1)) (.o 27 (.load none (.t 26)) (.o 28 (.m 3) (.o 29 (.idxAddr 3 (.t 27) (.t 28)) (.o 30 (.fieldAddr 2 (.t 29)) (.o 31 (.load none (.t 30)) (.o 32 (.len false (.t 31)) (.o 33 (.bin .lss (.t 25) (.t 32)) .nil)))))))))) (.cond (.t 33) .skip (.exit 2))) (.seq (.block 3 (.seq (rf (.o 36 (.fieldAddr 0 (.t 1)) (.o 37 (.load none (.t 36)) (.o 38 (.m 3) (.o 39 (.idxAddr 3 (.t 37) (.t 38)) (.o 40 (.fieldAddr 2 (.t 39)) (.o 41 (.load none (.t 40)) (.o 42 (.m 4) (.o 43 (.idxAddr 3 (.t 41) (.t 42)) (.o 44 (.load (some 3) (.t 43)) (.o 5 (.alloc (.agg [(.bool false), (.lit []), (.lit [])])) (.op none (.store 3 (.t 5) (.t 44)) 0 .nil)))))))))))) (.seq (rf (.o 45 (.fieldAddr 1 (.t 5)) (.o 46 (.load none (.t 45)) (.o 47 (.len false (.t 46)) (.o 48 (.bin .gtr (.t 47) (.i 30)) (.o 49 (.m 48) (.grd 49 false (.o 50 (.fieldAddr 2 (.t 5)) (.o 51 (.load none (.t 50)) (.o 52 (.len false (.t 51)) (.o 53 (.bin .gtr (.t 52) (.i 30)) .nil)))) (.o 54 (.pick (.t 49) (.c (.bool true)) (.t 53)) .nil)))))))) (.cond (.t 54) (.seq (rf (.o 2 (.move (.c (.bool false))) .nil)) .ret) .skip)))) (rf (.o 34 (.m 4) (.o 35 (.bin .add (.t 34) (.i 1)) (.o 4 (.m 35) .nil))))))))))) (rf (.o 15 (.m 3) (.o 16 (.bin .add (.t 15) (.i 1)) (.o 3 (.m 16) .nil))))))))) (.seq (rf (.o 2 (.move (.c (.bool true))) .nil)) .ret)))), [.tmp 2]⟩
theorem b12 : fnOf Go.Proofs.Tryz.prog (owOf []) 12 = some c12 := by kernel_rfl
def c65 : RFn := ⟨(.seq (rf (.o 8 (.box (.t 3)) .nil)) (rf (.o 9 (.load none (.t 4)) (.o 10 (.fieldAddr 0 (.t 8)) (.o 11 (.load none (.t 10)) (.op none (.eprim .mapset [(.t 9), (.t 11), (.c (.bool true))]) 0 .nil)))))), []⟩
theorem b65 : fnOf Go.Proofs.Tryz.prog (owOf []) 65 = some c65 := by kernel_rfl
def c66 : RFn := ⟨(.seq (rf (.o 4 (.move (.i 0)) .nil)) (.seq (.seq (rf (.o 6 (.m 1) (.o 7 (.move (.i 0)) .nil))) (.block 0 (.loop (.seq (rf (.o 8 (.bin .lss (.t 7) (.t 6)) .nil)) (.seq (.cond (.t 8) .skip (.exit 0)) (.seq (.block 1 (.seq (rf (.o 9 (.m 7) (.o 5 (.m 9) .nil))) (.seq (rf (.o 10 (.m 0) (.o 11 (.m 5) (.o 12 (.prim .mapget [(.t 10), (.t 11)]) (.o 13 (.un .not (.t 12)) .nil))))) (.cond (.t 13) (.seq (rf (.o 14 (.m 5) (.o 4 (.m 14) .nil))) .ret) .skip)))) (rf (.o 15 (.bin .add (.t 7) (.i 1)) (.o 7 (.m 15) .nil))))))))) (.seq (rf (.o 4 (.move (.c (.int .i64 (-1)))) .nil)) .ret))), [.tmp 4]⟩
theorem b66 : fnOf Go.Proofs.Tryz.prog (owOf []) 66 = some c66 := by kernel_rfl
end Go.Vm
end
section
/- Walks. -/
set_option maxRecDepth 100000
set_option linter.unusedSimpArgs false
set_option linter.unusedVariables false
namespace Go.Vm
open Go
theorem few_many {p : List Fn} (h : (p.length : Int) > 10) : few p = false := by
  rw [few, decide_eq_true h]; rfl
theorem few_fun {p : List Fn} {k : Nat} (hk : k < p.length) (h : fewF (p.getD k F0) = false) : few p = false := by
  rw [few, all_no F0 hk h, Bool.and_false]
theorem fewF_many {f : Fn} (h : (f.bs.length : Int) > 20) : fewF f = false := by
  rw [fewF, decide_eq_true h]; rfl
theorem fewF_blk {f : Fn} {j : Nat} (hj : j < f.bs.length) (h : fewB (f.bs.getD j B0) = false) : fewF f = false := by
  rw [fewF, all_no B0 hj h, Bool.and_false]
theorem fewF_yes {f : Fn} (h : f.bs.length ≤ 20) (hj : ∀ j, j < f.bs.length → fewB (f.bs.getD j B0) = true) : fewF f = true := by
  rw [fewF, (all_getD B0).mpr hj, Bool.and_true, decide_eq_false (by omega)]; rfl
theorem few_yes {p : List Fn} (h : p.length ≤ 10) (hj : ∀ j, j < p.length → fewF (p.getD j F0) = true) : few p = true := by
  rw [few, (all_getD F0).mpr hj, Bool.and_true, decide_eq_false (by omega)]; rfl
set_option maxHeartbeats 4000000
section
variable {gl : Nat → Option PV}
theorem p_Few (p : List Fn) : Pure Go.Proofs.Tryz.prog gl 12 [pP p] (.bool (few p)) := by
  refine Pure.fn hmix b12 ?_
  repeat' first | (with_reducible first | refine tr_seq ?_ | refine n_nil ?_ | refine seqQ_normal ?_ | refine seqQ_exit ?_ | refine seqQ_ret ?_ | refine blkQ_normal ?_ | refine blkQ_exit ?_ | refine blkQ_ret ?_ | refine tr_block ?_ | refine tr_skip ?_ | refine tr_exit ?_ | refine tr_ret ?_ | refine condT_t ?_ | refine condT_f ?_ | refine loopV_exit ?_ | refine loopV_ret ?_) | ((with_reducible refine tr_region_f ?_ ?_); kernel_rfl) | exact ⟨rfl, rfl⟩ | ((with_reducible refine blkQ_exit_ne ?_ ?_); rfl) | ((with_reducible apply tr_cond_e); rfl) | ((with_reducible apply n_and); rfl; rfl; intro h) | ((with_reducible apply n_or); rfl; rfl; intro h) | ((with_reducible apply n_idx_vals F0); rfl; rfl; exact (fun _ => rfl); (first | omega | decide | (simp only [zz] at *; omega))) | ((with_reducible apply n_idx_vals B0); rfl; rfl; exact (fun _ => rfl); (first | omega | decide | (simp only [zz] at *; omega))) | (first | ((with_reducible apply n_bin); rfl; rfl; focus ((with_reducible (first | apply b_add | apply b_sub)) <;> first | omega | decide | (simp only [zz] at *; omega))) | ((with_reducible apply n_max); rfl; rfl) | ((with_reducible apply n_min); rfl; rfl)) | (refine tr_loop_v (α := Nat) 1 (fun | k => [(3, some (.int .i64 (k : Int))), (10, none), (11, none), (12, none), (13, none), (14, none), (17, none), (18, none), (19, none), (20, none), (21, none), (22, none), (23, none), (24, none), (2, none), (4, none), (25, none), (26, none), (27, none), (28, none), (29, none), (30, none), (31, none), (32, none), (33, none), (36, none), (37, none), (38, none), (39, none), (40, none), (41, none), (42, none), (43, none), (44, none), (5, none), (45, none), (46, none), (47, none), (48, none), (49, none), (50, none), (51, none), (52, none), (53, none), (54, none), (34, none), (35, none), (15, none), (16, none)]) (fun | k => [some ⟨0, 1, [pP p]⟩]) (fun | k => k ≤ p.length ∧ (∀ j, j < k → fewF (p.getD j F0) = true) ∧ p.length ≤ 10) (fun | k => p.length - k) (0) (ks := [3, 10, 11, 12, 13, 14, 17, 18, 19, 20, 21, 22, 23, 24, 2, 4, 25, 26, 27, 28, 29, 30, 31, 32, 33, 36, 37, 38, 39, 40, 41, 42, 43, 44, 5, 45, 46, 47, 48, 49, 50, 51, 52, 53, 54, 34, 35, 15, 16]) (fun _ => rfl) (fun _ => rfl) rfl (by omega) ?_ ⟨⟨_, rfl, rfl⟩, trivial⟩ ⟨⟨_, rfl, rfl, rfl, rfl⟩, trivial⟩ ?_; rotate_left; rintro k hx; try dsimp only at hx) | ((first | (refine loopV_normal (k + 1) ?_ ⟨⟨_, rfl, rfl⟩, trivial⟩ ⟨⟨_, rfl, rfl, rfl, rfl⟩, trivial⟩ ?_ ?_)); repeat (first | exact only_refl | refine only_put rfl ?_ | refine only_less rfl ?_ | refine only_ov rfl ?_)) | (refine tr_loop_v (α := Nat) 1 (fun | j => [(4, some (.int .i64 (j : Int))), (25, none), (26, none), (27, none), (28, none), (29, none), (30, none), (31, none), (32, none), (33, none), (36, none), (37, none), (38, none), (39, none), (40, none), (41, none), (42, none), (43, none), (44, none), (5, none), (45, none), (46, none), (47, none), (48, none), (49, none), (50, none), (51, none), (52, none), (53, none), (54, none), (2, none), (34, none), (35, none)]) (fun | j => [some ⟨0, 1, [pP p]⟩]) (fun | j => j ≤ (p.getD k F0).bs.length ∧ (∀ m, m < j → fewB ((p.getD k F0).bs.getD m B0) = true) ∧ (p.getD k F0).bs.length ≤ 20) (fun | j => (p.getD k F0).bs.length - j) (0) (ks := [4, 25, 26, 27, 28, 29, 30, 31, 32, 33, 36, 37, 38, 39, 40, 41, 42, 43, 44, 5, 45, 46, 47, 48, 49, 50, 51, 52, 53, 54, 2, 34, 35]) (fun _ => rfl) (fun _ => rfl) rfl (by omega) ?_ ⟨⟨_, rfl, rfl⟩, trivial⟩ ⟨⟨_, rfl, rfl, rfl, rfl⟩, trivial⟩ ?_; rotate_left; rintro j hx; try dsimp only at hx) | ((first | (refine loopV_normal (j + 1) ?_ ⟨⟨_, rfl, rfl⟩, trivial⟩ ⟨⟨_, rfl, rfl, rfl, rfl⟩, trivial⟩ ?_ ?_)); repeat (first | exact only_refl | refine only_put rfl ?_ | refine only_less rfl ?_ | refine only_ov rfl ?_)) | ((with_reducible apply n_val); rfl; rfl) | ((with_reducible apply n_new); rfl; (first | (simp only [hn0, hn1, hn2, hn3, hn4, hn5, List.length_cons, List.length_nil, Nat.reduceAdd, Nat.zero_add]; first | done | rfl) | rfl); rfl) | ((with_reducible apply n_store); rfl; rfl; rfl; rfl; rfl) | (with_reducible refine condT_split (fun h => ?_) (fun h => ?_)) | ((with_reducible apply fnQ_told_ret); rfl) | ((with_reducible apply fnQ_ret_soft); rfl; rfl)
  all_goals (try dsimp only at *)
  all_goals (try simp only [decide_eq_true_eq, decide_eq_false_iff_not, List.length_map, ints_length, Int.toNat_natCast] at *)
  · rw [few_many (by omega)]
  · rw [few_fun (k := k) (by omega) (fewF_many (by omega))]
  · rw [few_fun (k := k) (by omega) (fewF_blk (j := j) (by omega) (by rw [fewB, h]; rfl))]
  · omega
  · exact ⟨by omega, fun m hm => by
      rcases Nat.lt_succ_iff_lt_or_eq.mp hm with hm | rfl
      · exact hx.2.1 m hm
      · rw [fewB, h]; rfl, hx.2.2⟩
  · omega
  · rename_i hX _ _ _
    exact ⟨by omega, fun m hm => by
      rcases Nat.lt_succ_iff_lt_or_eq.mp hm with hm | rfl
      · exact hX.2.1 m hm
      · exact fewF_yes (by omega) fun q hq => hx.2.1 q (by omega), hX.2.2⟩
  · exact ⟨Nat.zero_le _, fun m hm => absurd hm (by omega), by omega⟩
  · rw [few_yes (by omega) fun q hq => hx.2.1 q (by omega)]
  · exact ⟨Nat.zero_le _, fun m hm => absurd hm (by omega), by omega⟩
theorem h_NewId1 (a b c : Int) (i : In) (es : List (Int × Bool)) : HSpec Go.Proofs.Tryz.prog gl 65 [.int .i64 a, .int .i64 b, .int .i64 c, pI i, .ptr 0 0 0 0] (Hp.ofL [some ⟨0, 1, [.mp 1]⟩, some ⟨0, 2, es.map pM⟩]) (fun r G => r = .tup [] ∧ G = Hp.ofL [some ⟨0, 1, [.mp 1]⟩, some ⟨0, 2, (upd es i.id true).map pM⟩]) := by
  refine HSpec.fnL (Nat.le_refl _) hmix b65 ?_
  change Tr _ _ 2 _ _ _ _
  repeat' first | (with_reducible first | refine tr_seq ?_ | refine n_nil ?_ | refine seqQ_normal ?_) | ((with_reducible refine tr_region_f ?_ ?_); kernel_rfl) | ((with_reducible apply n_mapset); rfl; rfl; rfl; rfl) | ((with_reducible apply n_val); rfl; rfl) | ((with_reducible apply n_new); rfl; (first | (simp only [hn0, hn1, hn2, hn3, hn4, hn5, List.length_cons, List.length_nil, Nat.reduceAdd, Nat.zero_add]; first | done | rfl) | rfl); rfl) | ((with_reducible apply fnQ_normal_soft); rfl; rfl)
  exact ⟨.tup [], rfl, rfl, ⟨_, rfl, rfl, rfl, rfl⟩, ⟨_, rfl, rfl, rfl, fzP_vals (fun _ => rfl) rfl⟩, trivial⟩
theorem h_least (es : List (Int × Bool)) (m : Nat) (hm : m ≤ 1000) : HSpec Go.Proofs.Tryz.prog gl 66 [.mp 0, .int .i64 (m : Int)] (Hp.ofL [some ⟨0, 2, es.map pM⟩]) (fun r G => r = .int .i64 (leastV es m) ∧ G = Hp.ofL [some ⟨0, 2, es.map pM⟩]) := by
  refine HSpec.fnL (Nat.le_refl _) hmix b66 ?_
  change Tr _ _ 1 _ _ _ _
  repeat' first | (with_reducible first | refine tr_seq ?_ | refine n_nil ?_ | refine seqQ_normal ?_ | refine seqQ_exit ?_ | refine seqQ_ret ?_ | refine blkQ_normal ?_ | refine blkQ_exit ?_ | refine blkQ_ret ?_ | refine tr_block ?_ | refine tr_skip ?_ | refine tr_exit ?_ | refine tr_ret ?_ | refine condT_t ?_ | refine condT_f ?_ | refine loopV_exit ?_ | refine loopV_ret ?_) | ((with_reducible refine tr_region_f ?_ ?_); kernel_rfl) | ((with_reducible refine blkQ_exit_ne ?_ ?_); rfl) | ((with_reducible apply tr_cond_e); rfl) | ((with_reducible apply n_mapget); rfl; rfl; rfl) | (first | ((with_reducible apply n_bin); rfl; rfl; focus ((with_reducible (first | apply b_add | apply b_sub)) <;> first | omega | decide | (simp only [zz] at *; omega))) | ((with_reducible apply n_max); rfl; rfl) | ((with_reducible apply n_min); rfl; rfl)) | (refine tr_loop_v (α := Nat) 1 (fun | k => [(7, some (.int .i64 (k : Int))), (8, none), (9, none), (5, none), (10, none), (11, none), (12, none), (13, none), (14, none), (4, none), (15, none)]) (fun | k => [some ⟨0, 2, es.map pM⟩]) (fun | k => k ≤ m ∧ ∀ j, j < k → look es ((j : Nat) : Int) = true) (fun | k => m - k) (0) (ks := [7, 8, 9, 5, 10, 11, 12, 13, 14, 4, 15]) (fun _ => rfl) (fun _ => rfl) rfl (by omega) ?_ ⟨⟨_, rfl, rfl⟩, trivial⟩ ⟨⟨_, rfl, rfl, rfl, (by first | exact fzP_vals (fun _ => rfl) rfl |  rfl | exact fzP_pure (ints_pure _) | exact fzP_pure (u64s_pure _) | exact fzP_pure (by assumption) | exact fzP_pure (by first | (simp [pureE, pure1, ints]; done) | (simp_all [pe_int, pe_bool, pe_str, pe_sl, pe_agg, p1_int, p1_bool, p1_str, p1_sl]; done)))⟩, trivial⟩ ?_; rotate_left; rintro k hx; try dsimp only at hx) | ((first | (refine loopV_normal (k + 1) ?_ ⟨⟨_, rfl, rfl⟩, trivial⟩ ⟨⟨_, rfl, rfl, rfl, (by first | exact fzP_vals (fun _ => rfl) rfl |  rfl | exact fzP_pure (ints_pure _) | exact fzP_pure (u64s_pure _) | exact fzP_pure (by assumption) | exact fzP_pure (by first | (simp [pureE, pure1, ints]; done) | (simp_all [pe_int, pe_bool, pe_str, pe_sl, pe_agg, p1_int, p1_bool, p1_str, p1_sl]; done)))⟩, trivial⟩ ?_ ?_)); repeat (first | exact only_refl | refine only_put rfl ?_ | refine only_less rfl ?_ | refine only_ov rfl ?_)) | ((with_reducible apply n_val); rfl; rfl) | (with_reducible refine condT_split (fun h => ?_) (fun h => ?_)) | ((with_reducible apply fnQ_told_ret); rfl) | ((with_reducible apply fnQ_ret_soft); rfl; rfl)
  all_goals (try dsimp only at *)
  all_goals (try simp only [decide_eq_true_eq, decide_eq_false_iff_not, Bool.not_eq_true', Bool.not_eq_false'] at *)
  · rw [least_at (by omega) h hx.2]; rfl
  · exact ⟨⟨_, rfl, rfl, rfl, fzP_vals (fun _ => rfl) rfl⟩, trivial⟩
  · omega
  · exact ⟨by omega, fun j hj => by
      rcases Nat.lt_succ_iff_lt_or_eq.mp hj with hj | rfl
      · exact hx.2 j hj
      · exact h⟩
  · rw [least_no fun j hj => hx.2 j (by omega)]; rfl
  · exact ⟨⟨_, rfl, rfl, rfl, fzP_vals (fun _ => rfl) rfl⟩, trivial⟩
  · exact ⟨Nat.zero_le _, fun j hj => absurd hj (by omega)⟩
end
end Go.Vm
end
