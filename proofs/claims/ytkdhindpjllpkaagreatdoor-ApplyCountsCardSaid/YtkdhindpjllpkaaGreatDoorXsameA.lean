/- Laid. -/
import Derived.Test.YtkdhindpjllpkaaGreatDoorVmThree
import Derived.KernelRfl
import Derived.Test.YtkdhindpjllpkaaGreatDoorProg
import Derived.Test.YtkdhindpjllpkaaGreatDoorXref
import Derived.Test.YtkdhindpjllpkaaGreatDoorLDelAll
set_option linter.unusedSimpArgs false
set_option linter.unusedVariables false
set_option maxRecDepth 100000
set_option maxHeartbeats 4000000
set_option exponentiation.threshold 2000
namespace Go.Vm
open Go
def c34 : RFn := ⟨(.seq (rf (.o 2 (.box (.t 0)) (.o 3 (.box (.t 1)) (.o 4 (.move (.c (.bool false))) .nil)))) (.seq (rf (.o 5 (.fieldAddr 0 (.t 2)) (.o 6 (.load none (.t 5)) (.o 7 (.fieldAddr 0 (.t 3)) (.o 8 (.load none (.t 7)) (.o 9 (.call 75 [(.t 6), (.t 8), (.c (.fn 76 []))]) (.o 4 (.m 9) .nil))))))) .ret)), [.tmp 4]⟩
theorem b34 : fnOf Go.Proofs.Tryz.prog (owOf []) 34 = some c34 := by kernel_rfl
def c75 : RFn := ⟨(.seq (rf (.o 6 (.move (.c (.bool false))) .nil)) (.seq (.seq (rf (.o 10 (.m 0) (.o 11 (.len false (.t 10)) (.o 12 (.m 1) (.o 13 (.len false (.t 12)) (.o 14 (.bin .neq (.t 11) (.t 13)) .nil)))))) (.cond (.t 14) (.seq (rf (.o 6 (.move (.c (.bool false))) .nil)) .ret) .skip)) (.seq (.seq (rf (.o 15 (.m 0) (.o 16 (.len false (.t 15)) (.o 17 (.move (.i 0)) .nil)))) (.block 0 (.loop (.seq (rf (.o 18 (.bin .lss (.t 17) (.t 16)) .nil)) (.seq (.cond (.t 18) .skip (.exit 0)) (.seq (.block 1 (.seq (rf (.o 19 (.m 17) (.o 20 (.idxAddr 3 (.t 15) (.t 17)) (.o 21 (.load (some 3) (.t 20)) (.o 8 (.alloc (.agg [(.int .i64 0), (.int .i64 0), (.lit [])])) (.o 7 (.m 19) (.op none (.store 3 (.t 8) (.t 21)) 0 .nil))))))) (.seq (rf (.o 22 (.m 1) (.o 23 (.m 7) (.o 24 (.idxAddr 3 (.t 22) (.t 23)) (.o 25 (.load (some 3) (.t 24)) (.o 9 (.alloc (.agg [(.int .i64 0), (.int .i64 0), (.lit [])])) (.op none (.store 3 (.t 9) (.t 25)) 0 .nil))))))) (.seq (rf (.o 26 (.m 2) (.o 27 (.load (some 3) (.t 8)) (.o 28 (.load (some 3) (.t 9)) (.o 29 (.callv (.t 26) [(.t 27), (.t 28)]) (.o 30 (.un .not (.t 29)) .nil)))))) (.cond (.t 30) (.seq (rf (.o 6 (.move (.c (.bool false))) .nil)) .ret) .skip))))) (rf (.o 31 (.bin .add (.t 17) (.i 1)) (.o 17 (.m 31) .nil))))))))) (.seq (rf (.o 6 (.move (.c (.bool true))) .nil)) .ret)))), [.tmp 6]⟩
theorem b75 : fnOf Go.Proofs.Tryz.prog (owOf []) 75 = some c75 := by kernel_rfl
def c76 : RFn := ⟨(.seq (rf (.o 2 (.box (.t 0)) (.o 3 (.box (.t 1)) (.o 4 (.move (.c (.bool false))) .nil)))) (.seq (rf (.o 5 (.fieldAddr 0 (.t 2)) (.o 6 (.load none (.t 5)) (.o 7 (.fieldAddr 0 (.t 3)) (.o 8 (.load none (.t 7)) (.o 9 (.bin .eql (.t 6) (.t 8)) (.o 10 (.m 9) (.grd 10 true (.o 11 (.fieldAddr 1 (.t 2)) (.o 12 (.load none (.t 11)) (.o 13 (.fieldAddr 1 (.t 3)) (.o 14 (.load none (.t 13)) (.o 15 (.bin .eql (.t 12) (.t 14)) .nil))))) (.o 16 (.pick (.t 10) (.t 15) (.c (.bool false))) (.o 17 (.m 16) (.grd 17 true (.o 18 (.fieldAddr 2 (.t 2)) (.o 19 (.load none (.t 18)) (.o 20 (.fieldAddr 2 (.t 3)) (.o 21 (.load none (.t 20)) (.o 22 (.call 77 [(.t 19), (.t 21), (.c (.fn 78 []))]) .nil))))) (.o 23 (.pick (.t 17) (.t 22) (.c (.bool false))) (.o 4 (.m 23) .nil))))))))))))) .ret)), [.tmp 4]⟩
theorem b76 : fnOf Go.Proofs.Tryz.prog (owOf []) 76 = some c76 := by kernel_rfl
def c77 : RFn := ⟨(.seq (rf (.o 6 (.move (.c (.bool false))) .nil)) (.seq (.seq (rf (.o 10 (.m 0) (.o 11 (.len false (.t 10)) (.o 12 (.m 1) (.o 13 (.len false (.t 12)) (.o 14 (.bin .neq (.t 11) (.t 13)) .nil)))))) (.cond (.t 14) (.seq (rf (.o 6 (.move (.c (.bool false))) .nil)) .ret) .skip)) (.seq (.seq (rf (.o 15 (.m 0) (.o 16 (.len false (.t 15)) (.o 17 (.move (.i 0)) .nil)))) (.block 0 (.loop (.seq (rf (.o 18 (.bin .lss (.t 17) (.t 16)) .nil)) (.seq (.cond (.t 18) .skip (.exit 0)) (.seq (.block 1 (.seq (rf (.o 19 (.m 17) (.o 20 (.idxAddr 3 (.t 15) (.t 17)) (.o 21 (.load (some 3) (.t 20)) (.o 8 (.alloc (.agg [(.bool false), (.lit []), (.lit [])])) (.o 7 (.m 19) (.op none (.store 3 (.t 8) (.t 21)) 0 .nil))))))) (.seq (rf (.o 22 (.m 1) (.o 23 (.m 7) (.o 24 (.idxAddr 3 (.t 22) (.t 23)) (.o 25 (.load (some 3) (.t 24)) (.o 9 (.alloc (.agg [(.bool false), (.lit []), (.lit [])])) (.op none (.store 3 (.t 9) (.t 25)) 0 .nil))))))) (.seq (rf (.o 26 (.m 2) (.o 27 (.load (some 3) (.t 8)) (.o 28 (.load (some 3) (.t 9)) (.o 29 (.callv (.t 26) [(.t 27), (.t 28)]) (.o 30 (.un .not (.t 29)) .nil)))))) (.cond (.t 30) (.seq (rf (.o 6 (.move (.c (.bool false))) .nil)) .ret) .skip))))) (rf (.o 31 (.bin .add (.t 17) (.i 1)) (.o 17 (.m 31) .nil))))))))) (.seq (rf (.o 6 (.move (.c (.bool true))) .nil)) .ret)))), [.tmp 6]⟩
theorem b77 : fnOf Go.Proofs.Tryz.prog (owOf []) 77 = some c77 := by kernel_rfl
def c78 : RFn := ⟨(.seq (rf (.o 2 (.box (.t 0)) (.o 3 (.box (.t 1)) (.o 4 (.move (.c (.bool false))) .nil)))) (.seq (rf (.o 5 (.fieldAddr 0 (.t 2)) (.o 6 (.load none (.t 5)) (.o 7 (.fieldAddr 0 (.t 3)) (.o 8 (.load none (.t 7)) (.o 9 (.binb .eql (.t 6) (.t 8)) (.o 10 (.m 9) (.grd 10 true (.o 11 (.fieldAddr 1 (.t 2)) (.o 12 (.load none (.t 11)) (.o 13 (.fieldAddr 1 (.t 3)) (.o 14 (.load none (.t 13)) (.o 15 (.call 79 [(.t 12), (.t 14)]) .nil))))) (.o 16 (.pick (.t 10) (.t 15) (.c (.bool false))) (.o 17 (.m 16) (.grd 17 true (.o 18 (.fieldAddr 2 (.t 2)) (.o 19 (.load none (.t 18)) (.o 20 (.fieldAddr 2 (.t 3)) (.o 21 (.load none (.t 20)) (.o 22 (.call 80 [(.t 19), (.t 21)]) .nil))))) (.o 23 (.pick (.t 17) (.t 22) (.c (.bool false))) (.o 4 (.m 23) .nil))))))))))))) .ret)), [.tmp 4]⟩
theorem b78 : fnOf Go.Proofs.Tryz.prog (owOf []) 78 = some c78 := by kernel_rfl
def c79 : RFn := ⟨(.seq (rf (.o 4 (.move (.c (.bool false))) .nil)) (.seq (.seq (rf (.o 6 (.m 0) (.o 7 (.len false (.t 6)) (.o 8 (.m 1) (.o 9 (.len false (.t 8)) (.o 10 (.bin .neq (.t 7) (.t 9)) .nil)))))) (.cond (.t 10) (.seq (rf (.o 4 (.move (.c (.bool false))) .nil)) .ret) .skip)) (.seq (.seq (rf (.o 11 (.m 0) (.o 12 (.len false (.t 11)) (.o 13 (.move (.i 0)) .nil)))) (.block 0 (.loop (.seq (rf (.o 14 (.bin .lss (.t 13) (.t 12)) .nil)) (.seq (.cond (.t 14) .skip (.exit 0)) (.seq (.block 1 (.seq (rf (.o 15 (.m 13) (.o 5 (.m 15) .nil))) (.seq (rt (.o 16 (.m 0) (.o 17 (.m 5) (.op (some 18) (.idxAddr 11 (.t 16) (.t 17)) 3 (.op (some 19) (.load (some 11) (.t 18)) 7 (.o 20 (.m 1) (.o 21 (.m 5) (.op (some 22) (.idxAddr 11 (.t 20) (.t 21)) 48 (.op (some 23) (.load (some 11) (.t 22)) 112 (.op (some 24) (.eqs true [(0, 1), (1, 1), (2, 1), (3, 1), (4, 1), (5, 1), (6, 1), (7, 1), (8, 1), (9, 1), (10, 1)] (.t 19) (.t 23)) 255 .nil)))))))))) (.cond (.t 24) (.seq (rf (.o 4 (.move (.c (.bool false))) .nil)) .ret) .skip)))) (rf (.o 25 (.bin .add (.t 13) (.i 1)) (.o 13 (.m 25) .nil))))))))) (.seq (rf (.o 4 (.move (.c (.bool true))) .nil)) .ret)))), [.tmp 4]⟩
theorem b79 : fnOf Go.Proofs.Tryz.prog (owOf []) 79 = some c79 := by kernel_rfl
def c80 : RFn := ⟨(.seq (rf (.o 4 (.move (.c (.bool false))) .nil)) (.seq (.seq (rf (.o 6 (.m 0) (.o 7 (.len false (.t 6)) (.o 8 (.m 1) (.o 9 (.len false (.t 8)) (.o 10 (.bin .neq (.t 7) (.t 9)) .nil)))))) (.cond (.t 10) (.seq (rf (.o 4 (.move (.c (.bool false))) .nil)) .ret) .skip)) (.seq (.seq (rf (.o 11 (.m 0) (.o 12 (.len false (.t 11)) (.o 13 (.move (.i 0)) .nil)))) (.block 0 (.loop (.seq (rf (.o 14 (.bin .lss (.t 13) (.t 12)) .nil)) (.seq (.cond (.t 14) .skip (.exit 0)) (.seq (.block 1 (.seq (rf (.o 15 (.m 13) (.o 5 (.m 15) .nil))) (.seq (rt (.o 16 (.m 0) (.o 17 (.m 5) (.op (some 18) (.idxAddr 1 (.t 16) (.t 17)) 3 (.op (some 19) (.load none (.t 18)) 7 (.o 20 (.m 1) (.o 21 (.m 5) (.op (some 22) (.idxAddr 1 (.t 20) (.t 21)) 48 (.op (some 23) (.load none (.t 22)) 112 (.op (some 24) (.bin .neq (.t 19) (.t 23)) 255 .nil)))))))))) (.cond (.t 24) (.seq (rf (.o 4 (.move (.c (.bool false))) .nil)) .ret) .skip)))) (rf (.o 25 (.bin .add (.t 13) (.i 1)) (.o 13 (.m 25) .nil))))))))) (.seq (rf (.o 4 (.move (.c (.bool true))) .nil)) .ret)))), [.tmp 4]⟩
theorem b80 : fnOf Go.Proofs.Tryz.prog (owOf []) 80 = some c80 := by kernel_rfl
section
variable {gl : Nat → Option PV}
theorem p_eqfB (F : FuncId) (q : Bk → Bk → Bool) (a b : List Bk) (ha : a.length ≤ 100000) (hb : b.length ≤ 100000) (hF : ∀ k, k < a.length → a.length = b.length → Pure Go.Proofs.Tryz.prog gl F [pB (a.getD k B0), pB (b.getD k B0)] (.bool (q (a.getD k B0) (b.getD k B0)))) : Pure Go.Proofs.Tryz.prog gl 77 [.sl (a.map pB), .sl (b.map pB), .fn F []] (.bool (eqVs q a b)) := by
  refine Pure.fn hmix b77 ?_
  repeat' first | (with_reducible first | refine tr_seq ?_ | refine n_nil ?_ | refine seqQ_normal ?_ | refine seqQ_exit ?_ | refine seqQ_ret ?_ | refine blkQ_normal ?_ | refine blkQ_exit ?_ | refine blkQ_ret ?_ | refine tr_block ?_ | refine tr_skip ?_ | refine tr_exit ?_ | refine tr_ret ?_ | refine loopV_exit ?_ | refine loopV_ret ?_) | ((with_reducible refine tr_region_f ?_ ?_); kernel_rfl) | ((with_reducible apply tr_cond_e); rfl) | ((with_reducible apply n_idx_vals (f := pB) B0); rfl; rfl; exact (fun _ => rfl); (((simp only [zz] at *; omega)))) | ((with_reducible apply n_callv_p); rfl; rfl; rfl; rfl; exact hF k (by ((simp only [zz] at *; omega))) hx.2.1) | ((((with_reducible apply n_bin); rfl; rfl; focus ((with_reducible (apply b_add)) <;> omega)))) | (refine tr_loop_v (α := Nat) 0 (fun | k => [(17, some (.int .i64 (k : Int))), (18, none), (19, none), (20, none), (21, none), (8, none), (7, none), (22, none), (23, none), (24, none), (25, none), (9, none), (26, none), (27, none), (28, none), (29, none), (30, none), (6, none), (31, none)]) (fun | k => []) (fun | k => k ≤ a.length ∧ a.length = b.length ∧ ∀ j, j < k → q (a.getD j B0) (b.getD j B0) = true) (fun | k => a.length - k) (0) (ks := [17, 18, 19, 20, 21, 8, 7, 22, 23, 24, 25, 9, 26, 27, 28, 29, 30, 6, 31]) (fun _ => rfl) (fun _ => rfl) rfl (by omega) ?_ ⟨⟨_, rfl, rfl⟩, trivial⟩ trivial ?_; rotate_left; rintro k hx; try dsimp only at hx) | (((refine loopV_normal (k + 1) ?_ ⟨⟨_, rfl, rfl⟩, trivial⟩ trivial ?_ ?_)); repeat (first | exact only_refl | refine only_put rfl ?_)) | ((with_reducible apply n_val); rfl; rfl) | ((with_reducible apply n_new); rfl; (((simp only [hn0, hn1, hn2, hn3, hn4, hn5, List.length_cons, List.length_nil, Nat.reduceAdd, Nat.zero_add]; rfl))); rfl) | ((with_reducible apply n_store); rfl; rfl; rfl; rfl; rfl) | (with_reducible refine condT_split (fun h => ?_) (fun h => ?_)) | ((with_reducible apply fnQ_ret_soft); rfl; rfl) | fail
  all_goals (try dsimp only at *)
  all_goals (try simp only [decide_eq_true_eq, decide_eq_false_iff_not, List.length_map, ints_length, Int.toNat_natCast, Bool.not_eq_true', Bool.not_eq_false'] at *)
  · have e : (a.length : Int) ≠ (b.length : Nat) := by simpa using h
    exact congrArg _ (eqVs_len (by omega)).symm
  · exact congrArg _ (eqVs_no (k := k) B0 (by omega) hx.2.1 h).symm
  · omega
  · refine ⟨by omega, hx.2.1, fun j hj => ?_⟩
    by_cases e : j = k
    · subst e; exact h
    · exact hx.2.2 j (by omega)
  · exact congrArg _ (eqVs_yes B0 hx.2.1 fun j hj => hx.2.2 j (by omega)).symm
  · have e : (a.length : Int) = (b.length : Nat) := by simpa using h
    exact ⟨Nat.zero_le _, by omega, fun j hj => absurd hj (by omega)⟩
theorem p_eqfF (F : FuncId) (q : Fn → Fn → Bool) (a b : List Fn) (ha : a.length ≤ 100000) (hb : b.length ≤ 100000) (hF : ∀ k, k < a.length → a.length = b.length → Pure Go.Proofs.Tryz.prog gl F [pF (a.getD k F0), pF (b.getD k F0)] (.bool (q (a.getD k F0) (b.getD k F0)))) : Pure Go.Proofs.Tryz.prog gl 75 [.sl (a.map pF), .sl (b.map pF), .fn F []] (.bool (eqVs q a b)) := by
  refine Pure.fn hmix b75 ?_
  repeat' first | (with_reducible first | refine tr_seq ?_ | refine n_nil ?_ | refine seqQ_normal ?_ | refine seqQ_exit ?_ | refine seqQ_ret ?_ | refine blkQ_normal ?_ | refine blkQ_exit ?_ | refine blkQ_ret ?_ | refine tr_block ?_ | refine tr_skip ?_ | refine tr_exit ?_ | refine tr_ret ?_ | refine loopV_exit ?_ | refine loopV_ret ?_) | ((with_reducible refine tr_region_f ?_ ?_); kernel_rfl) | ((with_reducible apply tr_cond_e); rfl) | ((with_reducible apply n_idx_vals (f := pF) F0); rfl; rfl; exact (fun _ => rfl); (((simp only [zz] at *; omega)))) | ((with_reducible apply n_callv_p); rfl; rfl; rfl; rfl; exact hF k (by ((simp only [zz] at *; omega))) hx.2.1) | ((((with_reducible apply n_bin); rfl; rfl; focus ((with_reducible (apply b_add)) <;> omega)))) | (refine tr_loop_v (α := Nat) 0 (fun | k => [(17, some (.int .i64 (k : Int))), (18, none), (19, none), (20, none), (21, none), (8, none), (7, none), (22, none), (23, none), (24, none), (25, none), (9, none), (26, none), (27, none), (28, none), (29, none), (30, none), (6, none), (31, none)]) (fun | k => []) (fun | k => k ≤ a.length ∧ a.length = b.length ∧ ∀ j, j < k → q (a.getD j F0) (b.getD j F0) = true) (fun | k => a.length - k) (0) (ks := [17, 18, 19, 20, 21, 8, 7, 22, 23, 24, 25, 9, 26, 27, 28, 29, 30, 6, 31]) (fun _ => rfl) (fun _ => rfl) rfl (by omega) ?_ ⟨⟨_, rfl, rfl⟩, trivial⟩ trivial ?_; rotate_left; rintro k hx; try dsimp only at hx) | (((refine loopV_normal (k + 1) ?_ ⟨⟨_, rfl, rfl⟩, trivial⟩ trivial ?_ ?_)); repeat (first | exact only_refl | refine only_put rfl ?_)) | ((with_reducible apply n_val); rfl; rfl) | ((with_reducible apply n_new); rfl; (((simp only [hn0, hn1, hn2, hn3, hn4, hn5, List.length_cons, List.length_nil, Nat.reduceAdd, Nat.zero_add]; rfl))); rfl) | ((with_reducible apply n_store); rfl; rfl; rfl; rfl; rfl) | (with_reducible refine condT_split (fun h => ?_) (fun h => ?_)) | ((with_reducible apply fnQ_ret_soft); rfl; rfl) | fail
  all_goals (try dsimp only at *)
  all_goals (try simp only [decide_eq_true_eq, decide_eq_false_iff_not, List.length_map, ints_length, Int.toNat_natCast, Bool.not_eq_true', Bool.not_eq_false'] at *)
  · have e : (a.length : Int) ≠ (b.length : Nat) := by simpa using h
    exact congrArg _ (eqVs_len (by omega)).symm
  · exact congrArg _ (eqVs_no (k := k) F0 (by omega) hx.2.1 h).symm
  · omega
  · refine ⟨by omega, hx.2.1, fun j hj => ?_⟩
    by_cases e : j = k
    · subst e; exact h
    · exact hx.2.2 j (by omega)
  · exact congrArg _ (eqVs_yes F0 hx.2.1 fun j hj => hx.2.2 j (by omega)).symm
  · have e : (a.length : Int) = (b.length : Nat) := by simpa using h
    exact ⟨Nat.zero_le _, by omega, fun j hj => absurd hj (by omega)⟩
theorem p_eqI (a b : List In) (ha : a.length ≤ 100000) (hb : b.length ≤ 100000) : Pure Go.Proofs.Tryz.prog gl 79 [.sl (a.map pI), .sl (b.map pI)] (.bool (eqVs sameI a b)) := by
  refine Pure.fn hmix b79 ?_
  repeat' first | (with_reducible first | refine tr_seq ?_ | refine n_nil ?_ | refine seqQ_normal ?_ | refine seqQ_exit ?_ | refine seqQ_ret ?_ | refine blkQ_normal ?_ | refine blkQ_exit ?_ | refine blkQ_ret ?_ | refine tr_block ?_ | refine tr_skip ?_ | refine tr_exit ?_ | refine tr_ret ?_ | refine loopV_exit ?_ | refine loopV_ret ?_) | ((with_reducible refine tr_region_f ?_ ?_); kernel_rfl) | ((with_reducible refine tr_region_t ?_ ?_ ?_); kernel_rfl; kernel_rfl) | ((with_reducible apply tr_cond_e); rfl) | ((with_reducible apply n_idx_vals (f := pI) i0); rfl; rfl; exact (fun _ => rfl); (((simp only [zz] at *; omega)))) | ((((with_reducible apply n_bin); rfl; rfl; focus ((with_reducible (apply b_add)) <;> omega)))) | (refine tr_loop_v (α := Nat) 0 (fun | k => [(13, some (.int .i64 (k : Int))), (14, none), (15, none), (5, none), (16, none), (17, none), (18, none), (19, none), (20, none), (21, none), (22, none), (23, none), (24, none), (4, none), (25, none)]) (fun | k => []) (fun | k => k ≤ a.length ∧ a.length = b.length ∧ ∀ j, j < k → sameI (a.getD j i0) (b.getD j i0) = true) (fun | k => a.length - k) (0) (ks := [13, 14, 15, 5, 16, 17, 18, 19, 20, 21, 22, 23, 24, 4, 25]) (fun _ => rfl) (fun _ => rfl) rfl (by omega) ?_ ⟨⟨_, rfl, rfl⟩, trivial⟩ trivial ?_; rotate_left; rintro k hx; try dsimp only at hx) | (((refine loopV_normal (k + 1) ?_ ⟨⟨_, rfl, rfl⟩, trivial⟩ trivial ?_ ?_)); repeat (first | exact only_refl | refine only_put rfl ?_)) | ((with_reducible apply n_val); rfl; rfl) | ((with_reducible apply n_eqs_t); rfl; rfl; rfl) | (with_reducible refine condT_split (fun h => ?_) (fun h => ?_)) | ((with_reducible apply fnQ_ret_soft); rfl; rfl) | fail
  all_goals (try dsimp only at *)
  all_goals (try simp only [decide_eq_true_eq, decide_eq_false_iff_not, List.length_map, ints_length, Int.toNat_natCast, Bool.not_eq_true', Bool.not_eq_false'] at *)
  · have e : (a.length : Int) ≠ (b.length : Nat) := by simpa using h
    exact congrArg _ (eqVs_len (by omega)).symm
  · exact congrArg _ (eqVs_no (k := k) i0 (by omega) hx.2.1 (by rw [← in_eq]; exact h)).symm
  · omega
  · refine ⟨by omega, hx.2.1, fun j hj => ?_⟩
    by_cases e : j = k
    · subst e; exact (by rw [← in_eq]; exact h)
    · exact hx.2.2 j (by omega)
  · exact congrArg _ (eqVs_yes i0 hx.2.1 fun j hj => hx.2.2 j (by omega)).symm
  · have e : (a.length : Int) = (b.length : Nat) := by simpa using h
    exact ⟨Nat.zero_le _, by omega, fun j hj => absurd hj (by omega)⟩
theorem p_eqZ (a b : List Int) (ha : a.length ≤ 100000) (hb : b.length ≤ 100000) : Pure Go.Proofs.Tryz.prog gl 80 [.sl (a.map pz), .sl (b.map pz)] (.bool (eqVs (fun x y : Int => x == y) a b)) := by
  refine Pure.fn hmix b80 ?_
  repeat' first | (with_reducible first | refine tr_seq ?_ | refine n_nil ?_ | refine seqQ_normal ?_ | refine seqQ_exit ?_ | refine seqQ_ret ?_ | refine blkQ_normal ?_ | refine blkQ_exit ?_ | refine blkQ_ret ?_ | refine tr_block ?_ | refine tr_skip ?_ | refine tr_exit ?_ | refine tr_ret ?_ | refine loopV_exit ?_ | refine loopV_ret ?_) | ((with_reducible refine tr_region_f ?_ ?_); kernel_rfl) | ((with_reducible refine tr_region_t ?_ ?_ ?_); kernel_rfl; kernel_rfl) | ((with_reducible apply tr_cond_e); rfl) | ((with_reducible apply n_idx_vals (f := pz) 0); rfl; rfl; exact (fun _ => rfl); (((simp only [zz] at *; omega)))) | ((((with_reducible apply n_bin); rfl; rfl; focus ((with_reducible (apply b_add)) <;> omega)))) | (refine tr_loop_v (α := Nat) 0 (fun | k => [(13, some (.int .i64 (k : Int))), (14, none), (15, none), (5, none), (16, none), (17, none), (18, none), (19, none), (20, none), (21, none), (22, none), (23, none), (24, none), (4, none), (25, none)]) (fun | k => []) (fun | k => k ≤ a.length ∧ a.length = b.length ∧ ∀ j, j < k → (fun x y : Int => x == y) (a.getD j 0) (b.getD j 0) = true) (fun | k => a.length - k) (0) (ks := [13, 14, 15, 5, 16, 17, 18, 19, 20, 21, 22, 23, 24, 4, 25]) (fun _ => rfl) (fun _ => rfl) rfl (by omega) ?_ ⟨⟨_, rfl, rfl⟩, trivial⟩ trivial ?_; rotate_left; rintro k hx; try dsimp only at hx) | (((refine loopV_normal (k + 1) ?_ ⟨⟨_, rfl, rfl⟩, trivial⟩ trivial ?_ ?_)); repeat (first | exact only_refl | refine only_put rfl ?_)) | ((with_reducible apply n_val); rfl; rfl) | (with_reducible refine condT_split (fun h => ?_) (fun h => ?_)) | ((with_reducible apply fnQ_ret_soft); rfl; rfl) | fail
  all_goals (try dsimp only at *)
  all_goals (try simp only [decide_eq_true_eq, decide_eq_false_iff_not, List.length_map, ints_length, Int.toNat_natCast, Bool.not_eq_true', Bool.not_eq_false'] at *)
  · have e : (a.length : Int) ≠ (b.length : Nat) := by simpa using h
    exact congrArg _ (eqVs_len (by omega)).symm
  · exact congrArg _ (eqVs_no (k := k) 0 (by omega) hx.2.1 (by rename (_ != _) = true => hq; simpa using hq)).symm
  · omega
  · refine ⟨by omega, hx.2.1, fun j hj => ?_⟩
    by_cases e : j = k
    · subst e; exact (by rename (_ != _) = false => hq; simpa using hq)
    · exact hx.2.2 j (by omega)
  · exact congrArg _ (eqVs_yes 0 hx.2.1 fun j hj => hx.2.2 j (by omega)).symm
  · have e : (a.length : Int) = (b.length : Nat) := by simpa using h
    exact ⟨Nat.zero_le _, by omega, fun j hj => absurd hj (by omega)⟩
theorem p_sameB (a b : Bk) (h1 : a.code.length ≤ 100000) (h2 : b.code.length ≤ 100000) (h3 : a.succ.length ≤ 100000) (h4 : b.succ.length ≤ 100000) : Pure Go.Proofs.Tryz.prog gl 78 [pB a, pB b] (.bool (sameB a b)) := by
  refine Pure.fn hmix b78 ?_
  repeat' first | (with_reducible first | refine tr_seq ?_ | refine n_nil ?_ | refine seqQ_normal ?_ | refine tr_ret ?_) | ((with_reducible refine tr_region_f ?_ ?_); kernel_rfl) | exact ⟨rfl, rfl⟩ | ((with_reducible apply n_and); rfl; rfl; intro h) | ((with_reducible apply n_call (f := 79)); rfl; rfl; exact p_eqI _ _ h1 h2) | ((with_reducible apply n_call (f := 80)); rfl; rfl; exact p_eqZ _ _ h3 h4) | ((with_reducible apply n_val); rfl; rfl) | ((with_reducible apply n_new); rfl; (((simp only [hn0, hn1, hn2, hn3, hn4, hn5, List.length_cons, List.length_nil, Nat.reduceAdd, Nat.zero_add]; rfl))); rfl) | ((with_reducible apply fnQ_ret_soft); rfl; rfl) | fail
  rw [Bool.and_assoc]; rfl
theorem p_sameF (a b : Fn) (h1 : a.bs.length ≤ 100000) (h2 : b.bs.length ≤ 100000) (hF : ∀ k, k < a.bs.length → a.bs.length = b.bs.length → Pure Go.Proofs.Tryz.prog gl 78 [pB (a.bs.getD k B0), pB (b.bs.getD k B0)] (.bool (sameB (a.bs.getD k B0) (b.bs.getD k B0)))) : Pure Go.Proofs.Tryz.prog gl 76 [pF a, pF b] (.bool (sameF a b)) := by
  refine Pure.fn hmix b76 ?_
  repeat' first | (with_reducible first | refine tr_seq ?_ | refine n_nil ?_ | refine seqQ_normal ?_ | refine tr_ret ?_) | ((with_reducible refine tr_region_f ?_ ?_); kernel_rfl) | exact ⟨rfl, rfl⟩ | ((with_reducible apply n_and); rfl; rfl; intro h) | ((with_reducible apply n_call (f := 77)); rfl; rfl; exact p_eqfB _ _ _ _ h1 h2 hF) | ((with_reducible apply n_val); rfl; rfl) | ((with_reducible apply n_new); rfl; (((simp only [hn0, hn1, hn2, hn3, hn4, hn5, List.length_cons, List.length_nil, Nat.reduceAdd, Nat.zero_add]; rfl))); rfl) | ((with_reducible apply fnQ_ret_soft); rfl; rfl) | fail
  rw [Bool.and_assoc]; rfl
theorem p_Same (p q : List Fn) (hp : Fit p) (hq : Fit q) : Pure Go.Proofs.Tryz.prog gl 34 [pP p, pP q] (.bool (sameP p q)) := by
  have hF : ∀ k, k < p.length → p.length = q.length → Pure Go.Proofs.Tryz.prog gl 76 [pF (p.getD k F0), pF (q.getD k F0)] (.bool (sameF (p.getD k F0) (q.getD k F0))) := fun k hk hl => by
    have m1 := getD_mem F0 hk
    have m2 := getD_mem F0 (show k < q.length by omega)
    refine p_sameF _ _ (Nat.le_trans (hp.bs _ m1) (by omega)) (Nat.le_trans (hq.bs _ m2) (by omega)) fun j hj hl2 => ?_
    have n1 := getD_mem B0 hj
    have n2 := getD_mem B0 (show j < (q.getD k F0).bs.length by omega)
    exact p_sameB _ _ (Nat.le_trans (hp.code _ m1 _ n1) (by omega)) (Nat.le_trans (hq.code _ m2 _ n2) (by omega)) (Nat.le_trans (hp.succ _ m1 _ n1) (by omega)) (Nat.le_trans (hq.succ _ m2 _ n2) (by omega))
  refine Pure.fn hmix b34 ?_
  repeat' first | (with_reducible first | refine tr_seq ?_ | refine n_nil ?_ | refine seqQ_normal ?_ | refine tr_ret ?_) | ((with_reducible refine tr_region_f ?_ ?_); kernel_rfl) | ((with_reducible apply n_call (f := 75)); rfl; rfl; exact p_eqfF _ _ _ _ (Nat.le_trans hp.funs (by omega)) (Nat.le_trans hq.funs (by omega)) hF) | ((with_reducible apply n_val); rfl; rfl) | ((with_reducible apply n_new); rfl; (((simp only [hn0, hn1, hn2, hn3, hn4, hn5, List.length_cons, List.length_nil, Nat.reduceAdd, Nat.zero_add]; rfl))); rfl) | ((with_reducible apply fnQ_ret_soft); rfl; rfl) | fail
  rfl
end
end Go.Vm
