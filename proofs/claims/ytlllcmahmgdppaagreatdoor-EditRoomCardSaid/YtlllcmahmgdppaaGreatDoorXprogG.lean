/- Laid. -/
import Derived.Test.YtlllcmahmgdppaaGreatDoorVmThree
import Derived.KernelRfl
import Derived.Test.YtlllcmahmgdppaaGreatDoorProg
import Derived.Test.YtlllcmahmgdppaaGreatDoorXprogF
import Derived.Test.YtlllcmahmgdppaaGreatDoorLAll
section
/- Code. -/
set_option maxRecDepth 100000
set_option linter.unusedSimpArgs false
set_option linter.unusedVariables false
namespace Go.Vm
open Go
def c20 : RFn := ⟨(.seq (rf (.o 1 (.box (.t 0)) (.o 2 (.move (.c (.lit []))) .nil))) (.seq (rf (.o 3 (.move (.c (.lit []))) .nil)) (.seq (.seq (rf (.o 4 (.move (.i 0)) .nil)) (.block 0 (.loop (.seq (.seq (rf (.o 6 (.m 4) (.o 7 (.fieldAddr 0 (.t 1)) (.o 8 (.load none (.t 7)) (.o 9 (.len false (.t 8)) (.o 10 (.bin .lss (.t 6) (.t 9)) .nil)))))) (.cond (.t 10) .skip (.exit 0))) (.seq (.block 1 (.seq (rf (.o 5 (.move (.i 0)) .nil)) (.block 2 (.loop (.seq (.seq (rf (.o 13 (.m 5) (.o 14 (.fieldAddr 0 (.t 1)) (.o 15 (.load none (.t 14)) (.o 16 (.m 4) (.o 17 (.idxAddr 3 (.t 15) (.t 16)) (.o 18 (.fieldAddr 2 (.t 17)) (.o 19 (.load none (.t 18)) (.o 20 (.len false (.t 19)) (.o 21 (.bin .lss (.t 13) (.t 20)) .nil)))))))))) (.cond (.t 21) .skip (.exit 2))) (.seq (.block 3 (rf (.o 24 (.m 3) (.o 25 (.fieldAddr 0 (.t 1)) (.o 26 (.load none (.t 25)) (.o 27 (.m 4) (.o 28 (.idxAddr 3 (.t 26) (.t 27)) (.o 29 (.fieldAddr 2 (.t 28)) (.o 30 (.load none (.t 29)) (.o 31 (.m 5) (.o 32 (.idxAddr 3 (.t 30) (.t 31)) (.o 33 (.fieldAddr 1 (.t 32)) (.o 34 (.load none (.t 33)) (.o 35 (.append 11 (.agg [(.int .i64 0), (.int .i64 0), (.int .i64 0), (.int .i64 0), (.int .i64 0), (.int .i64 0), (.int .i64 0), (.int .i64 0), (.int .i64 0), (.int .i64 0), (.int .i64 0)]) (.t 24) (.t 34)) (.o 3 (.m 35) .nil))))))))))))))) (rf (.o 22 (.m 5) (.o 23 (.bin .add (.t 22) (.i 1)) (.o 5 (.m 23) .nil)))))))))) (rf (.o 11 (.m 4) (.o 12 (.bin .add (.t 11) (.i 1)) (.o 4 (.m 12) .nil))))))))) (.seq (rf (.o 36 (.m 3) (.o 2 (.m 36) .nil))) .ret)))), [.tmp 2]⟩
theorem b20 : fnOf Go.Proofs.Tryz.prog (owOf []) 20 = some c20 := by kernel_rfl
end Go.Vm
end
section
/- Walks. -/
set_option maxRecDepth 100000
set_option linter.unusedSimpArgs false
set_option linter.unusedVariables false
namespace Go.Vm
open Go
set_option maxHeartbeats 4000000
theorem p_Instrs {gl : Nat → Option PV} (p : List Fn) (hf : few p = true) : Pure Go.Proofs.Tryz.prog gl 20 [pP p] (.sl ((insP p).map pI)) := by
  have h1 := (few_bs hf).1
  have h2 : ∀ k, k < p.length → (p.getD k F0).bs.length ≤ 20 := fun k hk => ((few_bs hf).2 _ (getD_mem F0 hk)).1
  have h3 : ∀ k, k < p.length → ∀ j, (alT2 p k j).length ≤ 7000 := fun k hk j => alT2_le hf hk j
  have h4 : ∀ k, k < p.length → ∀ j, j < (p.getD k F0).bs.length → ((p.getD k F0).bs.getD j B0).code.length ≤ 30 := fun k hk j hj => (((few_bs hf).2 _ (getD_mem F0 hk)).2 _ (getD_mem B0 hj)).1
  refine Pure.fn hmix b20 ?_
  repeat' first | (with_reducible first | refine tr_seq ?_ | refine n_nil ?_ | refine seqQ_normal ?_ | refine seqQ_exit ?_ | refine seqQ_ret ?_ | refine blkQ_normal ?_ | refine blkQ_exit ?_ | refine blkQ_ret ?_ | refine tr_block ?_ | refine tr_skip ?_ | refine tr_exit ?_ | refine tr_ret ?_ | refine condT_t ?_ | refine condT_f ?_ | refine loopV_exit ?_ | refine loopV_ret ?_) | ((with_reducible refine tr_region_f ?_ ?_); kernel_rfl) | ((with_reducible refine blkQ_exit_ne ?_ ?_); rfl) | ((with_reducible apply tr_cond_e); rfl) | ((with_reducible apply n_idx_vals F0); rfl; rfl; exact (fun _ => rfl); (first | omega | decide | (simp only [zz] at *; omega))) | ((with_reducible apply n_idx_vals B0); rfl; rfl; exact (fun _ => rfl); (first | omega | decide | (simp only [zz] at *; omega))) | ((with_reducible apply n_append_row (f := pI)); rfl; rfl; rfl; rfl; exact (fun _ => rfl); exact hx.2.1; (have q1 := h3 k (by first | omega | decide | (simp only [zz] at *; omega)) j; have q2 := h4 k (by first | omega | decide | (simp only [zz] at *; omega)) j (by first | omega | decide | (simp only [zz] at *; omega)); have q3 := hx.2.1; simp only [Int.toNat_natCast]; omega); rfl) | (first | ((with_reducible apply n_bin); rfl; rfl; focus ((with_reducible (first | apply b_add | apply b_sub)) <;> first | omega | decide | (simp only [zz] at *; omega))) | ((with_reducible apply n_max); rfl; rfl) | ((with_reducible apply n_min); rfl; rfl)) | (refine tr_virt 3 11 1 rfl (by omega) rfl ?_; refine tr_loop_v (α := Nat × Nat × Nat) 2 (fun | (k, g, n) => [(3, some (.ref 1 g 0 n)), (4, some (.int .i64 (k : Int))), (6, none), (7, none), (8, none), (9, none), (10, none), (5, none), (13, none), (14, none), (15, none), (16, none), (17, none), (18, none), (19, none), (20, none), (21, none), (24, none), (25, none), (26, none), (27, none), (28, none), (29, none), (30, none), (31, none), (32, none), (33, none), (34, none), (35, none), (22, none), (23, none), (11, none), (12, none)]) (fun | (k, g, n) => [some ⟨0, 1, [pP p]⟩, some ⟨g, 11, (alT1 p k).map pI⟩]) (fun | (k, g, n) => k ≤ p.length ∧ n = (alT1 p k).length) (fun | (k, g, n) => p.length - k) ((0, 0, 0)) (ks := [3, 4, 6, 7, 8, 9, 10, 5, 13, 14, 15, 16, 17, 18, 19, 20, 21, 24, 25, 26, 27, 28, 29, 30, 31, 32, 33, 34, 35, 22, 23, 11, 12]) (fun _ => rfl) (fun _ => rfl) rfl (by omega) ?_ ⟨⟨_, rfl, rfl⟩, ⟨_, rfl, rfl⟩, trivial⟩ ⟨⟨_, rfl, rfl, rfl, rfl⟩, ⟨_, rfl, rfl, rfl, (by first | exact fzP_vals (fun _ => rfl) rfl | exact fzP_vals (fun _ => rfl) (alT2_z p k).symm | exact fzP_vals (fun _ => rfl) (alT2_s (by first | omega | decide | (simp only [zz] at *; omega))).symm | exact fzP_vals (fun _ => rfl) (alT_1 (by first | omega | decide | (simp only [zz] at *; omega)) (by first | omega | decide | (simp only [zz] at *; omega)) (by first | omega | decide | (simp only [zz] at *; omega))) |  rfl | exact fzP_pure (ints_pure _) | exact fzP_pure (u64s_pure _) | exact fzP_pure (by assumption) | exact fzP_pure (by first | (simp [pureE, pure1, ints]; done) | (simp_all [pe_int, pe_bool, pe_str, pe_sl, pe_agg, p1_int, p1_bool, p1_str, p1_sl]; done)))⟩, trivial⟩ ?_; rotate_left; rintro ⟨k, g, n⟩ hx; try dsimp only at hx) | ((first | (refine loopV_normal ((k + 1, g2, m)) ?_ ⟨⟨_, rfl, rfl⟩, ⟨_, rfl, rfl⟩, trivial⟩ ⟨⟨_, rfl, rfl, rfl, rfl⟩, ⟨_, rfl, rfl, rfl, (by first | exact fzP_vals (fun _ => rfl) rfl | exact fzP_vals (fun _ => rfl) (alT2_z p k).symm | exact fzP_vals (fun _ => rfl) (alT2_s (by first | omega | decide | (simp only [zz] at *; omega))).symm | exact fzP_vals (fun _ => rfl) (alT_1 (by first | omega | decide | (simp only [zz] at *; omega)) (by first | omega | decide | (simp only [zz] at *; omega)) (by first | omega | decide | (simp only [zz] at *; omega))) |  rfl | exact fzP_pure (ints_pure _) | exact fzP_pure (u64s_pure _) | exact fzP_pure (by assumption) | exact fzP_pure (by first | (simp [pureE, pure1, ints]; done) | (simp_all [pe_int, pe_bool, pe_str, pe_sl, pe_agg, p1_int, p1_bool, p1_str, p1_sl]; done)))⟩, trivial⟩ ?_ ?_)); repeat (first | exact only_refl | refine only_put rfl ?_ | refine only_less rfl ?_ | refine only_ov rfl ?_)) | (refine tr_loop_v (α := Nat × Nat × Nat) 2 (fun | (j, g2, m) => [(3, some (.ref 1 g2 0 m)), (5, some (.int .i64 (j : Int))), (13, none), (14, none), (15, none), (16, none), (17, none), (18, none), (19, none), (20, none), (21, none), (24, none), (25, none), (26, none), (27, none), (28, none), (29, none), (30, none), (31, none), (32, none), (33, none), (34, none), (35, none), (22, none), (23, none)]) (fun | (j, g2, m) => [some ⟨0, 1, [pP p]⟩, some ⟨g2, 11, (alT2 p k j).map pI⟩]) (fun | (j, g2, m) => j ≤ (p.getD k F0).bs.length ∧ m = (alT2 p k j).length ∧ (p.getD k F0).bs.length ≤ 20) (fun | (j, g2, m) => (p.getD k F0).bs.length - j) ((0, g, n)) (ks := [3, 5, 13, 14, 15, 16, 17, 18, 19, 20, 21, 24, 25, 26, 27, 28, 29, 30, 31, 32, 33, 34, 35, 22, 23]) (fun _ => rfl) (fun _ => rfl) rfl (by omega) ?_ ⟨⟨_, rfl, rfl⟩, ⟨_, rfl, rfl⟩, trivial⟩ ⟨⟨_, rfl, rfl, rfl, rfl⟩, ⟨_, rfl, rfl, rfl, (by first | exact fzP_vals (fun _ => rfl) rfl | exact fzP_vals (fun _ => rfl) (alT2_z p k).symm | exact fzP_vals (fun _ => rfl) (alT2_s (by first | omega | decide | (simp only [zz] at *; omega))).symm | exact fzP_vals (fun _ => rfl) (alT_1 (by first | omega | decide | (simp only [zz] at *; omega)) (by first | omega | decide | (simp only [zz] at *; omega)) (by first | omega | decide | (simp only [zz] at *; omega))) |  rfl | exact fzP_pure (ints_pure _) | exact fzP_pure (u64s_pure _) | exact fzP_pure (by assumption) | exact fzP_pure (by first | (simp [pureE, pure1, ints]; done) | (simp_all [pe_int, pe_bool, pe_str, pe_sl, pe_agg, p1_int, p1_bool, p1_str, p1_sl]; done)))⟩, trivial⟩ ?_; rotate_left; rintro ⟨j, g2, m⟩ hx; try dsimp only at hx) | ((first | (refine loopV_normal ((j + 1, g2 + 1, m + ((p.getD k F0).bs.getD j B0).code.length)) ?_ ⟨⟨_, rfl, rfl⟩, ⟨_, rfl, rfl⟩, trivial⟩ ⟨⟨_, rfl, rfl, rfl, rfl⟩, ⟨_, rfl, rfl, rfl, (by first | exact fzP_vals (fun _ => rfl) rfl | exact fzP_vals (fun _ => rfl) (alT2_z p k).symm | exact fzP_vals (fun _ => rfl) (alT2_s (by first | omega | decide | (simp only [zz] at *; omega))).symm | exact fzP_vals (fun _ => rfl) (alT_1 (by first | omega | decide | (simp only [zz] at *; omega)) (by first | omega | decide | (simp only [zz] at *; omega)) (by first | omega | decide | (simp only [zz] at *; omega))) |  rfl | exact fzP_pure (ints_pure _) | exact fzP_pure (u64s_pure _) | exact fzP_pure (by assumption) | exact fzP_pure (by first | (simp [pureE, pure1, ints]; done) | (simp_all [pe_int, pe_bool, pe_str, pe_sl, pe_agg, p1_int, p1_bool, p1_str, p1_sl]; done)))⟩, trivial⟩ ?_ ?_)); repeat (first | exact only_refl | refine only_put rfl ?_ | refine only_less rfl ?_ | refine only_ov rfl ?_)) | ((with_reducible apply n_val); rfl; rfl) | ((with_reducible apply n_new); rfl; (first | (simp only [hn0, hn1, hn2, hn3, hn4, hn5, List.length_cons, List.length_nil, Nat.reduceAdd, Nat.zero_add]; first | done | rfl) | rfl); rfl) | ((with_reducible apply n_append); rfl; rfl; rfl; rfl; rfl; rfl; (first | decide | (simp only [List.length_append, List.length_cons, List.length_nil, List.length_set, List.length_replicate, ints_length] at *; omega)); rfl) | ((with_reducible apply n_append_lit); rfl; rfl; rfl; rfl; rfl; (first | decide | (simp only [List.length_append, List.length_cons, List.length_nil, List.length_set, List.length_replicate, ints_length] at *; omega)); (first | (simp only [hn0, hn1, hn2, hn3, hn4, hn5, List.length_cons, List.length_nil, Nat.reduceAdd, Nat.zero_add]; first | done | rfl) | rfl); rfl) | (with_reducible refine condT_split (fun h => ?_) (fun h => ?_)) | ((with_reducible apply fnQ_told_ret); rfl) | ((with_reducible apply fnQ_ret_soft); rfl; rfl) | ((with_reducible apply fnQ_ret_row); rfl; rfl; rfl)
  all_goals (try dsimp only at *)
  all_goals (try simp only [decide_eq_true_eq, decide_eq_false_iff_not, List.length_map, Int.toNat_natCast] at *)
  · omega
  · exact ⟨by omega, by rw [alT2_s (by omega), List.length_append, ← hx.2.1], hx.2.2⟩
  · omega
  · exact ⟨by omega, by rw [alT1_s (by omega), hx.2.1]; congr 2; omega⟩
  · exact ⟨Nat.zero_le _, by rw [alT2_z]; exact hx.2, h2 k (by omega)⟩
  · obtain rfl : k = p.length := by omega
    exact fnQ_ret_vals (f := pI) (xs := insP p) rfl (by rw [← alT1_all]; rfl) (fun _ => rfl) (by rw [hx.2, alT1_all]) rfl
  · exact ⟨Nat.zero_le _, rfl⟩
theorem okF_len {p : List Fn} {f : Fn} (h : okF p f = true) : f.bs.length ≤ 12 := by
  simp only [okF, bad5, Bool.and_eq_true, Bool.not_eq_true', Bool.or_eq_false_iff, decide_eq_false_iff_not] at h
  omega
theorem ins_form {p : List Fn} (sp : sane p = true) {a : In} (h : a ∈ insP p) : form a = true := by
  simp only [insP, insF, List.mem_flatMap] at h
  obtain ⟨f, hf, b, hb, ha⟩ := h
  have h3 := okF_blk (sane_ok sp hf) hb
  simp only [okB, bad3, Bool.and_eq_true, Bool.not_eq_true', Bool.or_eq_false_iff] at h3
  have h4 := List.any_eq_false.1 h3.2.2 a ha
  simp only [okI, Bool.not_eq_true', Bool.not_eq_false', Bool.and_eq_true] at h4
  simp at h4
  exact h4.1
theorem newId_spec {p : List Fn} (sp : sane p = true) : (newIdV p = -1 ∧ ∀ j : Nat, j < 96 → (metT (insP p)).getD j false = true) ∨ ∃ k : Nat, newIdV p = (k : Int) ∧ k < 96 ∧ (metT (insP p)).getD k false = false ∧ ∀ j : Nat, j < k → (metT (insP p)).getD j false = true := by
  have e : ∀ j : Nat, j < 96 → (metT (insP p)).getD j false = look (entF [] (idsP p)) (j : Int) := fun j hj => by
    rw [metT_at hj, look_entF, ids_all]
    simp [look]
  rw [newIdV, if_pos sp]
  rcases least_spec (entF [] (idsP p)) 96 with ⟨h1, h2⟩ | ⟨k, h1, h2, h3, h4⟩
  · exact .inl ⟨h1, fun j hj => (e j hj).trans (h2 j hj)⟩
  · exact .inr ⟨k, h1, h2, (e k h2).trans h3, fun j hj => (e j (by omega)).trans (h4 j hj)⟩
theorem newBlock_spec {p : List Fn} {f : Int} {x : Fn} (h : funV p f = some x) : (newBlockV p f = -1 ∧ ∀ j : Nat, j < 12 → liveF x (j : Int) = true) ∨ ∃ k : Nat, newBlockV p f = (k : Int) ∧ k < 12 ∧ liveF x (k : Int) = false ∧ ∀ j : Nat, j < k → liveF x (j : Int) = true := by
  have e : ∀ j : Nat, liveF x (j : Int) = look (entG x x.bs.length) (j : Int) := fun j => by rw [look_entG, liveF]
  rw [newBlockV, h]
  rcases least_spec (entG x x.bs.length) 12 with ⟨h1, h2⟩ | ⟨k, h1, h2, h3, h4⟩
  · exact .inl ⟨h1, fun j hj => (e j).trans (h2 j hj)⟩
  · exact .inr ⟨k, h1, h2, (e k).trans h3, fun j hj => (e j).trans (h4 j hj)⟩
theorem blk_some {p : List Fn} {f b : Int} {x : Fn} (h : funV p f = some x) : (blkV p f b).isSome = liveF x b := by
  rw [blkV, h, Option.getD_some]
  cases liveF x b <;> rfl
end Go.Vm
end
