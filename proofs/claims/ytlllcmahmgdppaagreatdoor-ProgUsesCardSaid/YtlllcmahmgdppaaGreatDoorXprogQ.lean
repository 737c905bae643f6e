/- Laid. -/
import Derived.Test.YtlllcmahmgdppaaGreatDoorVmThree
import Derived.KernelRfl
import Derived.Test.YtlllcmahmgdppaaGreatDoorProg
import Derived.Test.YtlllcmahmgdppaaGreatDoorXprogK
import Derived.Test.YtlllcmahmgdppaaGreatDoorLAll
section
/- Code. -/
set_option maxRecDepth 100000
set_option linter.unusedSimpArgs false
set_option linter.unusedVariables false
namespace Go.Vm
open Go
def c19 : RFn := ⟨(.seq (rf (.o 1 (.box (.t 0)) (.o 2 (.move (.i 0)) (.o 3 (.move (.i 0)) (.o 4 (.move (.i 0)) .nil))))) (.seq (.seq (rf (.o 11 (.load (some 1) (.t 1)) (.o 12 (.call 13 [(.t 11)]) (.o 13 (.un .not (.t 12)) .nil)))) (.cond (.t 13) (.seq (rf (.o 2 (.move (.i 0)) (.o 3 (.move (.i 0)) (.o 4 (.move (.i 0)) .nil)))) .ret) .skip)) (.seq (rf (.o 5 (.move (.i 0)) (.o 6 (.move (.i 0)) .nil))) (.seq (.seq (rf (.o 14 (.fieldAddr 0 (.t 1)) (.o 15 (.load none (.t 14)) (.o 16 (.len false (.t 15)) (.o 17 (.move (.i 0)) .nil))))) (.block 0 (.loop (.seq (rf (.o 18 (.bin .lss (.t 17) (.t 16)) .nil)) (.seq (.cond (.t 18) .skip (.exit 0)) (.seq (.block 1 (.seq (rf (.o 19 (.idxAddr 3 (.t 15) (.t 17)) (.o 20 (.load (some 3) (.t 19)) (.o 8 (.alloc (.agg [(.int .i64 0), (.int .i64 0), (.lit [])])) (.op none (.store 3 (.t 8) (.t 20)) 0 .nil))))) (.seq (rf (.o 21 (.fieldAddr 2 (.t 8)) (.o 22 (.load none (.t 21)) (.o 23 (.len false (.t 22)) (.o 24 (.move (.i 0)) .nil))))) (.block 2 (.loop (.seq (rf (.o 25 (.bin .lss (.t 24) (.t 23)) .nil)) (.seq (.cond (.t 25) .skip (.exit 2)) (.seq (.block 3 (.seq (rf (.o 26 (.idxAddr 3 (.t 22) (.t 24)) (.o 27 (.load (some 3) (.t 26)) (.o 10 (.alloc (.agg [(.bool false), (.lit []), (.lit [])])) (.op none (.store 3 (.t 10) (.t 27)) 0 .nil))))) (.seq (.seq (rf (.o 28 (.fieldAddr 0 (.t 10)) (.o 29 (.load none (.t 28)) .nil))) (.cond (.t 29) (rf (.o 30 (.m 5) (.o 31 (.bin .add (.t 30) (.i 1)) (.o 5 (.m 31) .nil)))) .skip)) (rf (.o 32 (.m 6) (.o 33 (.fieldAddr 1 (.t 10)) (.o 34 (.load none (.t 33)) (.o 35 (.len false (.t 34)) (.o 36 (.bin .add (.t 32) (.t 35)) (.o 6 (.m 36) .nil)))))))))) (rf (.o 37 (.bin .add (.t 24) (.i 1)) (.o 24 (.m 37) .nil))))))))))) (rf (.o 38 (.bin .add (.t 17) (.i 1)) (.o 17 (.m 38) .nil))))))))) (.seq (rf (.o 39 (.fieldAddr 0 (.t 1)) (.o 40 (.load none (.t 39)) (.o 41 (.len false (.t 40)) (.o 42 (.m 5) (.o 43 (.m 6) (.o 2 (.m 41) (.o 3 (.m 42) (.o 4 (.m 43) .nil))))))))) .ret))))), [.tmp 2, .tmp 3, .tmp 4]⟩
theorem b19 : fnOf Go.Proofs.Tryz.prog (owOf []) 19 = some c19 := by kernel_rfl
end Go.Vm
end
section
/- Walks. -/
set_option maxRecDepth 100000
set_option linter.unusedSimpArgs false
set_option linter.unusedVariables false
namespace Go.Vm
open Go
set_option maxHeartbeats 4000000
section
variable {gl : Nat → Option PV}
end
theorem p_Count (p : List Fn) (hf : few p = true) : Pure Go.Proofs.Tryz.prog glD 19 [pP p] (.tup [.int .i64 (countV p).1, .int .i64 (countV p).2.1, .int .i64 (countV p).2.2]) := by
  have hs := p_Sane p (few_fit hf)
  have hl := (few_bs hf).1
  have hb := fun k => (few_at hf k).1
  have hc := fun k j => ((few_at hf k).2 j).1
  have hn := fun k => nlB_le (p.getD k F0).bs
  have h3 : ∀ k, k < p.length → ∀ j, (alT2 p k j).length ≤ 7000 := fun k hk j => alT2_le hf hk j
  refine Pure.fn hmix b19 ?_
  repeat' first | (with_reducible first | refine tr_seq ?_ | refine n_nil ?_ | refine seqQ_normal ?_ | refine seqQ_exit ?_ | refine seqQ_ret ?_ | refine blkQ_normal ?_ | refine blkQ_exit ?_ | refine blkQ_ret ?_ | refine tr_block ?_ | refine tr_skip ?_ | refine tr_exit ?_ | refine tr_ret ?_ | refine condT_t ?_ | refine condT_f ?_ | refine loopV_exit ?_ | refine loopV_ret ?_) | ((with_reducible refine tr_region_f ?_ ?_); kernel_rfl) | ((with_reducible refine blkQ_exit_ne ?_ ?_); rfl) | ((with_reducible apply tr_cond_e); rfl) | ((with_reducible apply n_call (f := 13)); rfl; rfl; exact hs) | ((with_reducible apply n_idx_vals F0); rfl; rfl; exact (fun _ => rfl); (first | omega | decide | (simp only [zz] at *; omega))) | ((with_reducible apply n_idx_vals B0); rfl; rfl; exact (fun _ => rfl); (first | omega | decide | (simp only [zz] at *; omega))) | (first | ((with_reducible apply n_bin); rfl; rfl; focus ((with_reducible (first | apply b_add | apply b_sub)) <;> first | omega | decide | (simp only [zz] at *; omega))) | ((with_reducible apply n_max); rfl; rfl) | ((with_reducible apply n_min); rfl; rfl)) | (refine tr_loop_v (α := Nat × Int × Int) 1 (fun | (k, n, c) => [(5, some (.int .i64 n)), (6, some (.int .i64 c)), (17, some (.int .i64 (k : Int))), (18, none), (19, none), (20, none), (8, none), (21, none), (22, none), (23, none), (24, none), (25, none), (26, none), (27, none), (10, none), (28, none), (29, none), (30, none), (31, none), (32, none), (33, none), (34, none), (35, none), (36, none), (37, none), (38, none)]) (fun | (k, n, c) => [some ⟨0, 1, [pP p]⟩]) (fun | (k, n, c) => k ≤ p.length ∧ n = (nlF p k : Nat) ∧ nlF p k ≤ k * 20 ∧ c = ((alT1 p k).length : Nat)) (fun | (k, n, c) => p.length - k) ((0, 0, 0)) (ks := [5, 6, 17, 18, 19, 20, 8, 21, 22, 23, 24, 25, 26, 27, 10, 28, 29, 30, 31, 32, 33, 34, 35, 36, 37, 38]) (fun _ => rfl) (fun _ => rfl) rfl (by omega) ?_ ⟨⟨_, rfl, rfl⟩, ⟨_, rfl, rfl⟩, ⟨_, rfl, rfl⟩, trivial⟩ ⟨⟨_, rfl, rfl, rfl, rfl⟩, trivial⟩ ?_; rotate_left; rintro ⟨k, n, c⟩ hx; try dsimp only at hx) | ((first | (refine loopV_normal ((k + 1, m, d)) ?_ ⟨⟨_, rfl, rfl⟩, ⟨_, rfl, rfl⟩, ⟨_, rfl, rfl⟩, trivial⟩ ⟨⟨_, rfl, rfl, rfl, rfl⟩, trivial⟩ ?_ ?_)); repeat (first | exact only_refl | refine only_put rfl ?_ | refine only_less rfl ?_ | refine only_ov rfl ?_)) | (refine tr_loop_v (α := Nat × Int × Int) 2 (fun | (j, m, d) => [(5, some (.int .i64 m)), (6, some (.int .i64 d)), (24, some (.int .i64 (j : Int))), (25, none), (26, none), (27, none), (10, none), (28, none), (29, none), (30, none), (31, none), (32, none), (33, none), (34, none), (35, none), (36, none), (37, none)]) (fun | (j, m, d) => [some ⟨0, 1, [pP p]⟩, some ⟨0, 3, [pF (p.getD k F0)]⟩]) (fun | (j, m, d) => j ≤ (p.getD k F0).bs.length ∧ m = n + (nlB (p.getD k F0).bs j : Nat) ∧ (p.getD k F0).bs.length ≤ 20 ∧ nlB (p.getD k F0).bs j ≤ j ∧ 0 ≤ n ∧ n ≤ 1000 ∧ d = ((alT2 p k j).length : Nat) ∧ (alT2 p k j).length ≤ 7000 ∧ ((p.getD k F0).bs.getD j B0).code.length ≤ 30) (fun | (j, m, d) => (p.getD k F0).bs.length - j) ((0, n, c)) (ks := [5, 6, 24, 25, 26, 27, 10, 28, 29, 30, 31, 32, 33, 34, 35, 36, 37]) (fun _ => rfl) (fun _ => rfl) rfl (by omega) ?_ ⟨⟨_, rfl, rfl⟩, ⟨_, rfl, rfl⟩, ⟨_, rfl, rfl⟩, trivial⟩ ⟨⟨_, rfl, rfl, rfl, rfl⟩, ⟨_, rfl, rfl, rfl, rfl⟩, trivial⟩ ?_; rotate_left; rintro ⟨j, m, d⟩ hx; try dsimp only at hx) | ((first | (refine loopV_normal ((j + 1, m + 1, d + ((((p.getD k F0).bs.getD j B0).code.map pI).length : Nat))) ?_ ⟨⟨_, rfl, rfl⟩, ⟨_, rfl, rfl⟩, ⟨_, rfl, rfl⟩, trivial⟩ ⟨⟨_, rfl, rfl, rfl, rfl⟩, ⟨_, rfl, rfl, rfl, rfl⟩, trivial⟩ ?_ ?_) | (refine loopV_normal ((j + 1, m, d + ((((p.getD k F0).bs.getD j B0).code.map pI).length : Nat))) ?_ ⟨⟨_, rfl, rfl⟩, ⟨_, rfl, rfl⟩, ⟨_, rfl, rfl⟩, trivial⟩ ⟨⟨_, rfl, rfl, rfl, rfl⟩, ⟨_, rfl, rfl, rfl, rfl⟩, trivial⟩ ?_ ?_)); repeat (first | exact only_refl | refine only_put rfl ?_ | refine only_less rfl ?_ | refine only_ov rfl ?_)) | ((with_reducible apply n_val); rfl; rfl) | ((with_reducible apply n_new); rfl; (first | (simp only [hn0, hn1, hn2, hn3, hn4, hn5, List.length_cons, List.length_nil, Nat.reduceAdd, Nat.zero_add]; first | done | rfl) | rfl); rfl) | ((with_reducible apply n_store); rfl; rfl; rfl; rfl; rfl) | (with_reducible refine condT_split (fun h => ?_) (fun h => ?_)) | ((with_reducible apply fnQ_told_ret); rfl) | ((with_reducible apply fnQ_ret_soft); rfl; rfl)
  all_goals (try dsimp only at *)
  all_goals (try simp only [decide_eq_true_eq, decide_eq_false_iff_not, List.length_map, ints_length, Int.toNat_natCast] at *)
  · rename (!_) = true => hq
    rw [countV, if_neg (by rw [Bool.not_eq_true'] at hq; rw [hq]; simp)]
  · omega
  · have e := nlB_s (l := (p.getD k F0).bs) (n := j) (by omega)
    rw [‹((p.getD k F0).bs.getD j B0).live = true›, if_pos rfl] at e
    have e2 := alT2_s (p := p) (k := k) (j := j) (by omega)
    have e3 := h3 k (by omega) (j + 1)
    have e4 := hc k (j + 1)
    have e5 : (alT2 p k (j + 1)).length = (alT2 p k j).length + ((p.getD k F0).bs.getD j B0).code.length := by rw [e2, List.length_append]
    omega
  · omega
  · have e := nlB_s (l := (p.getD k F0).bs) (n := j) (by omega)
    rw [‹((p.getD k F0).bs.getD j B0).live = false›, if_neg (by simp)] at e
    have e2 := alT2_s (p := p) (k := k) (j := j) (by omega)
    have e3 := h3 k (by omega) (j + 1)
    have e4 := hc k (j + 1)
    have e5 : (alT2 p k (j + 1)).length = (alT2 p k j).length + ((p.getD k F0).bs.getD j B0).code.length := by rw [e2, List.length_append]
    omega
  · omega
  · have e := nlF_s (p := p) (n := k) (by omega)
    have e2 : j = (p.getD k F0).bs.length := by omega
    have e6 := alT1_s (p := p) (k := k) (by omega)
    rw [← e2] at e6
    rw [← e2] at e
    have e5 := hb k
    exact ⟨by omega, by omega, by omega, by rw [e6]; omega⟩
  · have e := hb k
    have e2 := h3 k (by omega) 0
    exact ⟨Nat.zero_le _, by simp [nlB], e, by simp [nlB], by omega, by omega, by rw [alT2_z]; omega, e2, hc k 0⟩
  · rename (!_) = false => hq
    obtain rfl : k = p.length := by omega
    rw [countV, if_pos (by simpa using hq), hx.2.1, hx.2.2.2, alT1_all]
  · exact ⟨Nat.zero_le _, by simp [nlF], by simp [nlF], by rw [alT1_z]; rfl⟩
end Go.Vm
end
