/- Laid. -/
import Derived.Test.YtlllcmahmgdppaaGreatDoorVmThree
import Derived.KernelRfl
import Derived.Test.YtlllcmahmgdppaaGreatDoorProg
import Derived.Test.YtlllcmahmgdppaaGreatDoorXinstrR
import Derived.Test.YtlllcmahmgdppaaGreatDoorLAll
section
/- Code. -/
set_option maxRecDepth 100000
set_option linter.unusedSimpArgs false
set_option linter.unusedVariables false
namespace Go.Vm
open Go
def c58 : RFn := ⟨(.seq (rf (.o 2 (.box (.t 0)) (.o 4 (.move (.c (.bool false))) .nil))) (.seq (rf (.o 5 (.m 1) (.o 6 (.bin .geq (.t 5) (.i 0)) (.o 7 (.m 6) (.grd 7 true (.o 8 (.m 1) (.o 9 (.fieldAddr 2 (.t 2)) (.o 10 (.load none (.t 9)) (.o 11 (.len false (.t 10)) (.o 12 (.bin .lss (.t 8) (.t 11)) .nil))))) (.o 13 (.pick (.t 7) (.t 12) (.c (.bool false))) (.o 14 (.m 13) (.grd 14 true (.o 15 (.fieldAddr 2 (.t 2)) (.o 16 (.load none (.t 15)) (.o 17 (.m 1) (.o 18 (.idxAddr 3 (.t 16) (.t 17)) (.o 19 (.fieldAddr 0 (.t 18)) (.o 20 (.load none (.t 19)) .nil)))))) (.o 21 (.pick (.t 14) (.t 20) (.c (.bool false))) (.o 4 (.m 21) .nil)))))))))) .ret)), [.tmp 4]⟩
theorem b58 : fnOf Go.Proofs.Tryz.prog (owOf []) 58 = some c58 := by kernel_rfl
def c130 : RFn := ⟨(.seq (rf (.o 4 (.move (.c (.bool false))) .nil)) (.seq (rf (.o 5 (.m 0) (.o 6 (.m 1) (.o 7 (.call 154 [(.t 5), (.t 6)]) (.o 8 (.bin .geq (.t 7) (.i 0)) (.o 4 (.m 8) .nil)))))) .ret)), [.tmp 4]⟩
theorem b130 : fnOf Go.Proofs.Tryz.prog (owOf []) 130 = some c130 := by kernel_rfl
def c140 : RFn := ⟨(.seq (rf (.o 2 (.move (.c (.bool false))) .nil)) (.seq (.seq (rf (.o 3 (.move (.i 1)) .nil)) (.block 0 (.loop (.seq (.seq (rf (.o 4 (.m 3) (.o 5 (.m 0) (.o 6 (.len false (.t 5)) (.o 7 (.bin .lss (.t 4) (.t 6)) .nil))))) (.cond (.t 7) .skip (.exit 0))) (.seq (.block 1 (.seq (rt (.o 10 (.m 0) (.o 11 (.m 3) (.op (some 12) (.idxAddr 1 (.t 10) (.t 11)) 3 (.op (some 13) (.load none (.t 12)) 7 (.o 14 (.m 0) (.o 15 (.m 3) (.op (some 16) (.bin .sub (.t 15) (.i 1)) 32 (.op (some 17) (.idxAddr 1 (.t 14) (.t 16)) 112 (.op (some 18) (.load none (.t 17)) 240 (.op (some 19) (.bin .leq (.t 13) (.t 18)) 511 .nil))))))))))) (.cond (.t 19) (.seq (rf (.o 2 (.move (.c (.bool false))) .nil)) .ret) .skip))) (rf (.o 8 (.m 3) (.o 9 (.bin .add (.t 8) (.i 1)) (.o 3 (.m 9) .nil))))))))) (.seq (rf (.o 2 (.move (.c (.bool true))) .nil)) .ret))), [.tmp 2]⟩
theorem b140 : fnOf Go.Proofs.Tryz.prog (owOf []) 140 = some c140 := by kernel_rfl
def c141 : RFn := ⟨(.seq (rf (.o 3 (.move (.c (.bool false))) .nil)) (.seq (rf (.o 4 (.load (some 3) (.t 1)) (.o 5 (.m 0) (.o 6 (.call 58 [(.t 4), (.t 5)]) (.o 7 (.un .not (.t 6)) (.o 3 (.m 7) .nil)))))) .ret)), [.tmp 3]⟩
theorem b141 : fnOf Go.Proofs.Tryz.prog (owOf []) 141 = some c141 := by kernel_rfl
def c142 : RFn := ⟨(.seq (rf (.o 4 (.move (.c (.bool false))) .nil)) (.seq (rf (.o 5 (.m 0) (.o 6 (.m 1) (.o 7 (.call 157 [(.t 5), (.t 6)]) (.o 8 (.bin .geq (.t 7) (.i 0)) (.o 4 (.m 8) .nil)))))) .ret)), [.tmp 4]⟩
theorem b142 : fnOf Go.Proofs.Tryz.prog (owOf []) 142 = some c142 := by kernel_rfl
def c144 : RFn := ⟨(.seq (rf (.o 3 (.box (.t 0)) (.o 4 (.box (.t 1)) (.o 5 (.box (.t 2)) (.o 6 (.move (.c (.bool false))) .nil))))) (.seq (.seq (rf (.o 7 (.load (some 11) (.t 5)) (.o 8 (.call 41 [(.t 7)]) (.o 9 (.un .not (.t 8)) (.o 10 (.m 9) (.grd 10 false (.o 11 (.load (some 11) (.t 5)) (.o 12 (.call 17 [(.t 11)]) (.o 13 (.mkfunc 158 [(.t 4)]) (.o 14 (.call 130 [(.t 12), (.t 13)]) .nil)))) (.o 15 (.pick (.t 10) (.c (.bool true)) (.t 14)) .nil))))))) (.cond (.t 15) (.seq (rf (.o 6 (.move (.c (.bool false))) .nil)) .ret) .skip)) (.seq (rt (.o 16 (.fieldAddr 1 (.t 5)) (.op (some 17) (.load none (.t 16)) 1 (.op (some 18) (.bin .neq (.t 17) (.i 7)) 3 (.op (some 19) (.m 18) 7 (.grd 19 false (.op (some 20) (.fieldAddr 6 (.t 5)) 15 (.op (some 21) (.load none (.t 20)) 31 (.op (some 22) (.fieldAddr 0 (.t 3)) 15 (.op (some 23) (.load none (.t 22)) 79 (.op (some 24) (.len false (.t 23)) 207 (.op (some 25) (.bin .lss (.t 21) (.t 24)) 511 (.op (some 26) (.m 25) 1023 (.grd 26 true (.op (some 27) (.fieldAddr 0 (.t 3)) 2047 (.op (some 28) (.load none (.t 27)) 4095 (.op (some 29) (.fieldAddr 6 (.t 5)) 2047 (.op (some 30) (.load none (.t 29)) 10239 (.op (some 31) (.idxAddr 3 (.t 28) (.t 30)) 32767 (.op (some 32) (.fieldAddr 0 (.t 31)) 65535 (.op (some 33) (.load none (.t 32)) 131071 (.op (some 34) (.fieldAddr 7 (.t 5)) 2047 (.op (some 35) (.load none (.t 34)) 264191 (.op (some 36) (.bin .eql (.t 33) (.t 35)) 1048575 .nil)))))))))) (.op (some 37) (.pick (.t 26) (.t 36) (.c (.bool false))) 2097151 .nil))))))))) (.op (some 38) (.pick (.t 19) (.c (.bool true)) (.t 37)) 4194303 (.op (some 6) (.m 38) 8388607 .nil)))))))) .ret))), [.tmp 6]⟩
theorem b144 : fnOf Go.Proofs.Tryz.prog (owOf []) 144 = some c144 := by kernel_rfl
def c154 : RFn := ⟨(.seq (rf (.o 4 (.move (.i 0)) .nil)) (.seq (.seq (rf (.o 6 (.m 0) (.o 7 (.len false (.t 6)) (.o 8 (.move (.i 0)) .nil)))) (.block 0 (.loop (.seq (rf (.o 9 (.bin .lss (.t 8) (.t 7)) .nil)) (.seq (.cond (.t 9) .skip (.exit 0)) (.seq (.block 1 (.seq (rf (.o 10 (.m 8) (.o 5 (.m 10) .nil))) (.seq (rf (.o 11 (.m 1) (.o 12 (.m 0) (.o 13 (.m 5) (.o 14 (.idxAddr 1 (.t 12) (.t 13)) (.o 15 (.load none (.t 14)) (.o 16 (.callv (.t 11) [(.t 15)]) .nil))))))) (.cond (.t 16) (.seq (rf (.o 17 (.m 5) (.o 4 (.m 17) .nil))) .ret) .skip)))) (rf (.o 18 (.bin .add (.t 8) (.i 1)) (.o 8 (.m 18) .nil))))))))) (.seq (rf (.o 4 (.move (.c (.int .i64 (-1)))) .nil)) .ret))), [.tmp 4]⟩
theorem b154 : fnOf Go.Proofs.Tryz.prog (owOf []) 154 = some c154 := by kernel_rfl
def c157 : RFn := ⟨(.seq (rf (.o 4 (.move (.i 0)) .nil)) (.seq (.seq (rf (.o 6 (.m 0) (.o 7 (.len false (.t 6)) (.o 8 (.move (.i 0)) .nil)))) (.block 0 (.loop (.seq (rf (.o 9 (.bin .lss (.t 8) (.t 7)) .nil)) (.seq (.cond (.t 9) .skip (.exit 0)) (.seq (.block 1 (.seq (rf (.o 10 (.m 8) (.o 5 (.m 10) .nil))) (.seq (rf (.o 11 (.m 1) (.o 12 (.m 0) (.o 13 (.m 5) (.o 14 (.idxAddr 11 (.t 12) (.t 13)) (.o 15 (.load (some 11) (.t 14)) (.o 16 (.callv (.t 11) [(.t 15)]) .nil))))))) (.cond (.t 16) (.seq (rf (.o 17 (.m 5) (.o 4 (.m 17) .nil))) .ret) .skip)))) (rf (.o 18 (.bin .add (.t 8) (.i 1)) (.o 8 (.m 18) .nil))))))))) (.seq (rf (.o 4 (.move (.c (.int .i64 (-1)))) .nil)) .ret))), [.tmp 4]⟩
theorem b157 : fnOf Go.Proofs.Tryz.prog (owOf []) 157 = some c157 := by kernel_rfl
def c158 : RFn := ⟨(.seq (rf (.o 3 (.move (.c (.bool false))) .nil)) (.seq (rf (.o 4 (.m 0) (.o 5 (.fieldAddr 1 (.t 1)) (.o 6 (.load none (.t 5)) (.o 7 (.bin .geq (.t 4) (.t 6)) (.o 3 (.m 7) .nil)))))) .ret)), [.tmp 3]⟩
theorem b158 : fnOf Go.Proofs.Tryz.prog (owOf []) 158 = some c158 := by kernel_rfl
end Go.Vm
end
section
/- Walks. -/
set_option maxRecDepth 100000
set_option linter.unusedSimpArgs false
set_option linter.unusedVariables false
namespace Go.Vm
open Go
set_option maxHeartbeats 4000000
section
variable {gl : Nat → Option PV}
theorem p_idxF (l : List Int) (F : FuncId) (caps : List PV) (q : Int → Bool) (hl : l.length ≤ 100000) (hc : caps.all pure1 = true) (h : ∀ j, j < l.length → Pure Go.Proofs.Tryz.prog gl F ([.int .i64 (l.getD j 0)] ++ caps) (.bool (q (l.getD j 0)))) : Pure Go.Proofs.Tryz.prog gl 154 [.sl (ints l), .fn F caps] (.int .i64 (fidx q l)) := by
  have h0 := h
  refine Pure.fn hmix b154 ?_
  repeat' first | (with_reducible first | refine tr_seq ?_ | refine n_nil ?_ | refine seqQ_normal ?_ | refine seqQ_exit ?_ | refine seqQ_ret ?_ | refine blkQ_normal ?_ | refine blkQ_exit ?_ | refine blkQ_ret ?_ | refine tr_block ?_ | refine tr_skip ?_ | refine tr_exit ?_ | refine tr_ret ?_ | refine condT_t ?_ | refine condT_f ?_ | refine loopV_exit ?_ | refine loopV_ret ?_) | ((with_reducible refine tr_region_f ?_ ?_); kernel_rfl) | ((with_reducible refine blkQ_exit_ne ?_ ?_); rfl) | ((with_reducible apply tr_cond_e); rfl) | ((with_reducible apply n_idx_ints); rfl; rfl; (first | omega | decide | (simp only [zz] at *; omega))) | ((with_reducible apply n_callv_p); rfl; rfl; rfl; exact hc; exact h0 k (by first | omega | decide | (simp only [zz] at *; omega))) | (first | ((with_reducible apply n_bin); rfl; rfl; focus ((with_reducible (first | apply b_add | apply b_sub)) <;> first | omega | decide | (simp only [zz] at *; omega))) | ((with_reducible apply n_max); rfl; rfl) | ((with_reducible apply n_min); rfl; rfl)) | (refine tr_loop_v (α := Nat) 0 (fun | k => [(8, some (.int .i64 (k : Int))), (9, none), (10, none), (5, none), (11, none), (12, none), (13, none), (14, none), (15, none), (16, none), (17, none), (4, none), (18, none)]) (fun | k => []) (fun | k => k ≤ l.length ∧ ∀ j, j < k → q (l.getD j 0) = false) (fun | k => l.length - k) (0) (ks := [8, 9, 10, 5, 11, 12, 13, 14, 15, 16, 17, 4, 18]) (fun _ => rfl) (fun _ => rfl) rfl (by omega) ?_ ⟨⟨_, rfl, rfl⟩, trivial⟩ trivial ?_; rotate_left; rintro k hx; try dsimp only at hx) | ((first | (refine loopV_normal (k + 1) ?_ ⟨⟨_, rfl, rfl⟩, trivial⟩ trivial ?_ ?_)); repeat (first | exact only_refl | refine only_put rfl ?_ | refine only_less rfl ?_ | refine only_ov rfl ?_)) | ((with_reducible apply n_val); rfl; rfl) | (with_reducible refine condT_split (fun h => ?_) (fun h => ?_)) | ((with_reducible apply fnQ_told_ret); rfl) | ((with_reducible apply fnQ_ret_soft); rfl; rfl)
  all_goals (try dsimp only at *)
  all_goals (try simp only [decide_eq_true_eq, decide_eq_false_iff_not, ints_length] at *)
  · exact congrArg _ (fidx_at 0 (by omega) (by assumption) hx.2).symm
  · omega
  · refine ⟨by omega, fun j hj => ?_⟩
    by_cases e : j = k
    · subst e; assumption
    · exact hx.2 j (by omega)
  · exact congrArg _ (fidx_no 0 fun j hj => hx.2 j (by omega)).symm
  · exact ⟨by omega, fun j hj => absurd hj (by omega)⟩
theorem p_ctnF (l : List Int) (F : FuncId) (caps : List PV) (q : Int → Bool) (hl : l.length ≤ 100000) (hc : caps.all pure1 = true) (h : ∀ j, j < l.length → Pure Go.Proofs.Tryz.prog gl F ([.int .i64 (l.getD j 0)] ++ caps) (.bool (q (l.getD j 0)))) : Pure Go.Proofs.Tryz.prog gl 130 [.sl (ints l), .fn F caps] (.bool (l.any q)) := by
  have h1 := p_idxF l F caps q hl hc h
  refine Pure.fn hmix b130 ?_
  repeat' first | (with_reducible first | refine tr_seq ?_ | refine n_nil ?_ | refine seqQ_normal ?_ | refine seqQ_ret ?_ | refine blkQ_ret ?_ | refine tr_ret ?_) | ((with_reducible refine tr_region_f ?_ ?_); kernel_rfl) | (refine n_call (f := 154) rfl (softs_fn1 rfl hc) h1 ?_) | ((with_reducible apply n_val); rfl; rfl) | ((with_reducible apply fnQ_told_ret); rfl) | ((with_reducible apply fnQ_ret_soft); rfl; rfl)
  exact congrArg PV.bool (fidx_in q l)
theorem p_idxG (l : List In) (F : FuncId) (caps : List PV) (q : In → Bool) (hl : l.length ≤ 100000) (hc : caps.all pure1 = true) (h : ∀ j, j < l.length → Pure Go.Proofs.Tryz.prog gl F ([pI (l.getD j i0)] ++ caps) (.bool (q (l.getD j i0)))) : Pure Go.Proofs.Tryz.prog gl 157 [.sl (l.map pI), .fn F caps] (.int .i64 (fidx q l)) := by
  have h0 := h
  refine Pure.fn hmix b157 ?_
  repeat' first | (with_reducible first | refine tr_seq ?_ | refine n_nil ?_ | refine seqQ_normal ?_ | refine seqQ_exit ?_ | refine seqQ_ret ?_ | refine blkQ_normal ?_ | refine blkQ_exit ?_ | refine blkQ_ret ?_ | refine tr_block ?_ | refine tr_skip ?_ | refine tr_exit ?_ | refine tr_ret ?_ | refine condT_t ?_ | refine condT_f ?_ | refine loopV_exit ?_ | refine loopV_ret ?_) | ((with_reducible refine tr_region_f ?_ ?_); kernel_rfl) | ((with_reducible refine blkQ_exit_ne ?_ ?_); rfl) | ((with_reducible apply tr_cond_e); rfl) | ((with_reducible apply n_idx_vals i0); rfl; rfl; exact (fun _ => rfl); (first | omega | decide | (simp only [zz] at *; omega))) | ((with_reducible apply n_callv_p); rfl; rfl; rfl; exact hc; exact h0 k (by first | omega | decide | (simp only [zz] at *; omega))) | (first | ((with_reducible apply n_bin); rfl; rfl; focus ((with_reducible (first | apply b_add | apply b_sub)) <;> first | omega | decide | (simp only [zz] at *; omega))) | ((with_reducible apply n_max); rfl; rfl) | ((with_reducible apply n_min); rfl; rfl)) | (refine tr_loop_v (α := Nat) 0 (fun | k => [(8, some (.int .i64 (k : Int))), (9, none), (10, none), (5, none), (11, none), (12, none), (13, none), (14, none), (15, none), (16, none), (17, none), (4, none), (18, none)]) (fun | k => []) (fun | k => k ≤ l.length ∧ ∀ j, j < k → q (l.getD j i0) = false) (fun | k => l.length - k) (0) (ks := [8, 9, 10, 5, 11, 12, 13, 14, 15, 16, 17, 4, 18]) (fun _ => rfl) (fun _ => rfl) rfl (by omega) ?_ ⟨⟨_, rfl, rfl⟩, trivial⟩ trivial ?_; rotate_left; rintro k hx; try dsimp only at hx) | ((first | (refine loopV_normal (k + 1) ?_ ⟨⟨_, rfl, rfl⟩, trivial⟩ trivial ?_ ?_)); repeat (first | exact only_refl | refine only_put rfl ?_ | refine only_less rfl ?_ | refine only_ov rfl ?_)) | ((with_reducible apply n_val); rfl; rfl) | (with_reducible refine condT_split (fun h => ?_) (fun h => ?_)) | ((with_reducible apply fnQ_told_ret); rfl) | ((with_reducible apply fnQ_ret_soft); rfl; rfl)
  all_goals (try dsimp only at *)
  all_goals (try simp only [decide_eq_true_eq, decide_eq_false_iff_not, List.length_map] at *)
  · exact congrArg _ (fidx_at i0 (by omega) (by assumption) hx.2).symm
  · omega
  · refine ⟨by omega, fun j hj => ?_⟩
    by_cases e : j = k
    · subst e; assumption
    · exact hx.2 j (by omega)
  · exact congrArg _ (fidx_no i0 fun j hj => hx.2 j (by omega)).symm
  · exact ⟨by omega, fun j hj => absurd hj (by omega)⟩
theorem p_ctnG (l : List In) (F : FuncId) (caps : List PV) (q : In → Bool) (hl : l.length ≤ 100000) (hc : caps.all pure1 = true) (h : ∀ j, j < l.length → Pure Go.Proofs.Tryz.prog gl F ([pI (l.getD j i0)] ++ caps) (.bool (q (l.getD j i0)))) : Pure Go.Proofs.Tryz.prog gl 142 [.sl (l.map pI), .fn F caps] (.bool (l.any q)) := by
  have h1 := p_idxG l F caps q hl hc h
  refine Pure.fn hmix b142 ?_
  repeat' first | (with_reducible first | refine tr_seq ?_ | refine n_nil ?_ | refine seqQ_normal ?_ | refine seqQ_ret ?_ | refine blkQ_ret ?_ | refine tr_ret ?_) | ((with_reducible refine tr_region_f ?_ ?_); kernel_rfl) | (refine n_call (f := 157) rfl (softs_fn1 rfl hc) h1 ?_) | ((with_reducible apply n_val); rfl; rfl) | ((with_reducible apply fnQ_told_ret); rfl) | ((with_reducible apply fnQ_ret_soft); rfl; rfl)
  exact congrArg PV.bool (fidx_in q l)
theorem p_live (f : Fn) (b : Int) : Pure Go.Proofs.Tryz.prog gl 58 [pF f, .int .i64 b] (.bool (liveF f b)) := by
  refine Pure.fn hmix b58 ?_
  repeat' first | (with_reducible first | refine tr_seq ?_ | refine n_nil ?_ | refine seqQ_normal ?_ | refine seqQ_ret ?_ | refine blkQ_ret ?_ | refine tr_ret ?_) | ((with_reducible refine tr_region_f ?_ ?_); kernel_rfl) | exact ⟨rfl, rfl⟩ | ((with_reducible apply n_and); rfl; rfl; intro h) | ((with_reducible apply n_or); rfl; rfl; intro h) | ((with_reducible apply n_idx_vals B0); rfl; rfl; exact (fun _ => rfl); (first | omega | decide | (simp only [zz] at *; omega))) | ((with_reducible apply n_val); rfl; rfl) | ((with_reducible apply n_new); rfl; (first | (simp only [hn0, hn1, hn2, hn3, hn4, hn5, List.length_cons, List.length_nil, Nat.reduceAdd, Nat.zero_add]; first | done | rfl) | rfl); rfl) | ((with_reducible apply fnQ_told_ret); rfl) | ((with_reducible apply fnQ_ret_soft); rfl; rfl)
  simp only [liveF, List.length_map]
theorem p_rises (l : List Int) (hl : l.length ≤ 100000) : Pure Go.Proofs.Tryz.prog gl 140 [.sl (ints l)] (.bool (risesL l)) := by
  refine Pure.fn hmix b140 ?_
  repeat' first | (with_reducible first | refine tr_seq ?_ | refine n_nil ?_ | refine seqQ_normal ?_ | refine seqQ_exit ?_ | refine seqQ_ret ?_ | refine blkQ_normal ?_ | refine blkQ_exit ?_ | refine blkQ_ret ?_ | refine tr_block ?_ | refine tr_skip ?_ | refine tr_exit ?_ | refine tr_ret ?_ | refine condT_t ?_ | refine condT_f ?_ | refine loopV_exit ?_ | refine loopV_ret ?_) | ((with_reducible refine tr_region_f ?_ ?_); kernel_rfl) | ((with_reducible refine tr_region_t ?_ ?_ ?_); kernel_rfl; kernel_rfl) | ((with_reducible refine blkQ_exit_ne ?_ ?_); rfl) | ((with_reducible apply tr_cond_e); rfl) | ((with_reducible apply n_idx_ints); rfl; rfl; (first | omega | decide | (simp only [zz] at *; omega))) | (first | ((with_reducible apply n_bin); rfl; rfl; focus ((with_reducible (first | apply b_add | apply b_sub)) <;> first | omega | decide | (simp only [zz] at *; omega))) | ((with_reducible apply n_max); rfl; rfl) | ((with_reducible apply n_min); rfl; rfl)) | (refine tr_loop_v (α := Nat) 0 (fun | k => [(3, some (.int .i64 (k : Int))), (4, none), (5, none), (6, none), (7, none), (10, none), (11, none), (12, none), (13, none), (14, none), (15, none), (16, none), (17, none), (18, none), (19, none), (2, none), (8, none), (9, none)]) (fun | k => []) (fun | k => 1 ≤ k ∧ k ≤ max l.length 1 ∧ ∀ j, 1 ≤ j → j < k → l.getD (j - 1) 0 < l.getD j 0) (fun | k => l.length - k) (1) (ks := [3, 4, 5, 6, 7, 10, 11, 12, 13, 14, 15, 16, 17, 18, 19, 2, 8, 9]) (fun _ => rfl) (fun _ => rfl) rfl (by omega) ?_ ⟨⟨_, rfl, rfl⟩, trivial⟩ trivial ?_; rotate_left; rintro k hx; try dsimp only at hx) | ((first | (refine loopV_normal (k + 1) ?_ ⟨⟨_, rfl, rfl⟩, trivial⟩ trivial ?_ ?_)); repeat (first | exact only_refl | refine only_put rfl ?_ | refine only_less rfl ?_ | refine only_ov rfl ?_)) | ((with_reducible apply n_val); rfl; rfl) | (with_reducible refine condT_split (fun h => ?_) (fun h => ?_)) | ((with_reducible apply fnQ_told_ret); rfl) | ((with_reducible apply fnQ_ret_soft); rfl; rfl)
  all_goals (try dsimp only at *)
  all_goals (try simp only [decide_eq_true_eq, decide_eq_false_iff_not, ints_length] at *)
  · have e : ((k : Int) - 1).toNat = k - 1 := by omega
    rw [e] at h
    exact congrArg PV.bool (rises_f hx.1 (by omega) (by simp only [Int.toNat_natCast] at h; omega)).symm
  · omega
  · refine ⟨by omega, by omega, fun j h1 h2 => ?_⟩
    by_cases e : j = k
    · subst e
      have e : ((j : Int) - 1).toNat = j - 1 := by omega
      rw [e] at h
      simp only [Int.toNat_natCast] at h
      omega
    · exact hx.2.2 j h1 (by omega)
  · exact congrArg PV.bool (rises_t fun j h1 h2 => hx.2.2 j h1 (by omega)).symm
  · exact ⟨by omega, by omega, fun j h1 h2 => by omega⟩
theorem p_block1 (f : Fn) (b : Int) : Pure Go.Proofs.Tryz.prog gl 141 ([.int .i64 b] ++ [.fptr [.int .i64 f.ar, .int .i64 f.vs, .sl (f.bs.map pB)]]) (.bool (!liveF f b)) := by
  refine Pure.fn hmix b141 ?_
  repeat' first | (with_reducible first | refine tr_seq ?_ | refine n_nil ?_ | refine seqQ_normal ?_ | refine seqQ_ret ?_ | refine blkQ_ret ?_ | refine tr_ret ?_) | ((with_reducible refine tr_region_f ?_ ?_); kernel_rfl) | ((with_reducible apply n_val); rfl; rfl) | ((with_reducible apply n_call (f := 58)); rfl; rfl; exact p_live f b) | ((with_reducible apply fnQ_told_ret); rfl) | ((with_reducible apply fnQ_ret_soft); rfl; rfl)
  rfl
theorem p_instrOK1 (f : Fn) (v : Int) : Pure Go.Proofs.Tryz.prog gl 158 ([.int .i64 v] ++ [.fptr [.int .i64 f.ar, .int .i64 f.vs, .sl (f.bs.map pB)]]) (.bool (decide (v ≥ f.vs))) := by
  refine Pure.fn hmix b158 ?_
  repeat' first | (with_reducible first | refine tr_seq ?_ | refine n_nil ?_ | refine seqQ_normal ?_ | refine seqQ_ret ?_ | refine blkQ_ret ?_ | refine tr_ret ?_) | ((with_reducible refine tr_region_f ?_ ?_); kernel_rfl) | ((with_reducible apply n_val); rfl; rfl) | ((with_reducible apply fnQ_told_ret); rfl) | ((with_reducible apply fnQ_ret_soft); rfl; rfl)
  rfl
end
theorem vars_len5 (i : In) : (varsI i).length ≤ 100000 := by
  rw [varsI]
  have h1 := cp_len (srt ((if defI i = -1 then usesI i else usesI i ++ [defI i]).length - 1) (if defI i = -1 then usesI i else usesI i ++ [defI i]))
  rw [srt_length] at h1
  have h2 : (if defI i = -1 then usesI i else usesI i ++ [defI i]).length ≤ (usesI i).length + 1 := by split <;> simp
  have := usesI_len i
  omega
theorem form_call {i : In} (h : form i = true) : i.kind = 7 → 0 ≤ i.f := by
  intro hk
  have := ((form_iff i).1 h).2.1.2.2.2.1
  rw [none5_iff] at this
  omega
theorem p_instrOK (p : List Fn) (f : Fn) (i : In) : Pure Go.Proofs.Tryz.prog glD 144 [pP p, pF f, pI i] (.bool (okI p f i)) := by
  have hC := p_ctnF (gl := glD) (varsI i) 158 [.fptr [.int .i64 f.ar, .int .i64 f.vs, .sl (f.bs.map pB)]] (fun v => decide (v ≥ f.vs)) (vars_len5 i) rfl (fun j _ => p_instrOK1 f _)
  have hF := form_call (i := i)
  refine Pure.fn hmix b144 ?_
  repeat' first | (with_reducible first | refine tr_seq ?_ | refine n_nil ?_ | refine seqQ_normal ?_ | refine seqQ_ret ?_ | refine blkQ_ret ?_ | refine tr_skip ?_ | refine tr_ret ?_ | refine condT_t ?_ | refine condT_f ?_) | ((with_reducible refine tr_region_f ?_ ?_); kernel_rfl) | ((with_reducible refine tr_region_t ?_ ?_ ?_); kernel_rfl; kernel_rfl) | exact ⟨rfl, rfl⟩ | ((with_reducible apply tr_cond_e); rfl) | ((with_reducible apply n_and); rfl; rfl; intro h) | ((with_reducible apply n_or); rfl; rfl; intro h) | ((with_reducible apply n_idx_vals F0); rfl; rfl; exact (fun _ => rfl); exact (by rename_i q1 q2; simp only [bne_eq_false_iff_eq, decide_eq_true_eq, Bool.or_eq_false_iff, Bool.not_eq_false', List.length_map] at h q1 q2; exact ⟨hF q1.1 q2, h⟩)) | ((with_reducible apply n_val); rfl; rfl) | ((with_reducible apply n_new); rfl; (first | (simp only [hn0, hn1, hn2, hn3, hn4, hn5, List.length_cons, List.length_nil, Nat.reduceAdd, Nat.zero_add]; first | done | rfl) | rfl); rfl) | ((with_reducible apply n_call (f := 41)); rfl; rfl; exact p_Form i) | ((with_reducible apply n_call (f := 17)); rfl; rfl; exact p_Vars i) | ((with_reducible apply n_callb ); rfl; rfl; exact hC; rfl) | (with_reducible refine condT_split (fun h => ?_) (fun h => ?_)) | ((with_reducible apply fnQ_told_ret); rfl) | ((with_reducible apply fnQ_ret_soft); rfl; rfl)
  · refine congrArg PV.bool ?_
    unfold okI
    cases hf : form i
    · rfl
    · rw [hf] at h
      simp only [Bool.not_true, Bool.false_or] at h
      rw [h]; rfl
  · refine congrArg PV.bool ?_
    simp only [Bool.or_eq_false_iff, Bool.not_eq_false'] at h
    unfold okI
    rw [h.1, h.2, List.length_map]
    simp
end Go.Vm
end
