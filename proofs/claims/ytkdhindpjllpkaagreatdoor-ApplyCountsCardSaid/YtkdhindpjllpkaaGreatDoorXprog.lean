/- Laid. -/
import Derived.Test.YtkdhindpjllpkaaGreatDoorVmThree
import Derived.KernelRfl
import Derived.Test.YtkdhindpjllpkaaGreatDoorProg
import Derived.Test.YtkdhindpjllpkaaGreatDoorXinstr
import Derived.Test.YtkdhindpjllpkaaGreatDoorLAll
set_option linter.unusedSimpArgs false
set_option linter.unusedVariables false
set_option maxRecDepth 100000
set_option maxHeartbeats 4000000
set_option exponentiation.threshold 2000
namespace Go.Vm
open Go
def c89 : RFn := ⟨(.seq (rf (.o 2 (.box (.t 0)) (.o 4 (.move (.c (.bool false))) .nil))) (.seq (rf (.o 5 (.m 1) (.o 6 (.bin .geq (.t 5) (.i 0)) (.o 7 (.m 6) (.grd 7 true (.o 8 (.m 1) (.o 9 (.fieldAddr 2 (.t 2)) (.o 10 (.load none (.t 9)) (.o 11 (.len false (.t 10)) (.o 12 (.bin .lss (.t 8) (.t 11)) .nil))))) (.o 13 (.pick (.t 7) (.t 12) (.c (.bool false))) (.o 14 (.m 13) (.grd 14 true (.o 15 (.fieldAddr 2 (.t 2)) (.o 16 (.load none (.t 15)) (.o 17 (.m 1) (.o 18 (.idxAddr 3 (.t 16) (.t 17)) (.o 19 (.fieldAddr 0 (.t 18)) (.o 20 (.load none (.t 19)) .nil)))))) (.o 21 (.pick (.t 14) (.t 20) (.c (.bool false))) (.o 4 (.m 21) .nil)))))))))) .ret)), [.tmp 4]⟩
theorem b89 : fnOf Go.Proofs.Tryz.prog (owOf []) 89 = some c89 := by kernel_rfl
def c163 : RFn := ⟨(.seq (rf (.o 4 (.move (.c (.bool false))) .nil)) (.seq (rf (.o 5 (.m 0) (.o 6 (.m 1) (.o 7 (.call 191 [(.t 5), (.t 6)]) (.o 8 (.bin .geq (.t 7) (.i 0)) (.o 4 (.m 8) .nil)))))) .ret)), [.tmp 4]⟩
theorem b163 : fnOf Go.Proofs.Tryz.prog (owOf []) 163 = some c163 := by kernel_rfl
def c183 : RFn := ⟨(.seq (rf (.o 2 (.move (.c (.bool false))) .nil)) (.seq (.seq (rf (.o 3 (.move (.i 1)) .nil)) (.block 0 (.loop (.seq (.seq (rf (.o 4 (.m 3) (.o 5 (.m 0) (.o 6 (.len false (.t 5)) (.o 7 (.bin .lss (.t 4) (.t 6)) .nil))))) (.cond (.t 7) .skip (.exit 0))) (.seq (.block 1 (.seq (rt (.o 10 (.m 0) (.o 11 (.m 3) (.op (some 12) (.idxAddr 1 (.t 10) (.t 11)) 3 (.op (some 13) (.load none (.t 12)) 7 (.o 14 (.m 0) (.o 15 (.m 3) (.op (some 16) (.bin .sub (.t 15) (.i 1)) 32 (.op (some 17) (.idxAddr 1 (.t 14) (.t 16)) 112 (.op (some 18) (.load none (.t 17)) 240 (.op (some 19) (.bin .leq (.t 13) (.t 18)) 511 .nil))))))))))) (.cond (.t 19) (.seq (rf (.o 2 (.move (.c (.bool false))) .nil)) .ret) .skip))) (rf (.o 8 (.m 3) (.o 9 (.bin .add (.t 8) (.i 1)) (.o 3 (.m 9) .nil))))))))) (.seq (rf (.o 2 (.move (.c (.bool true))) .nil)) .ret))), [.tmp 2]⟩
theorem b183 : fnOf Go.Proofs.Tryz.prog (owOf []) 183 = some c183 := by kernel_rfl
def c184 : RFn := ⟨(.seq (rf (.o 3 (.move (.c (.bool false))) .nil)) (.seq (rf (.o 4 (.load (some 3) (.t 1)) (.o 5 (.m 0) (.o 6 (.call 89 [(.t 4), (.t 5)]) (.o 7 (.un .not (.t 6)) (.o 3 (.m 7) .nil)))))) .ret)), [.tmp 3]⟩
theorem b184 : fnOf Go.Proofs.Tryz.prog (owOf []) 184 = some c184 := by kernel_rfl
def c185 : RFn := ⟨(.seq (rf (.o 4 (.move (.c (.bool false))) .nil)) (.seq (rf (.o 5 (.m 0) (.o 6 (.m 1) (.o 7 (.call 203 [(.t 5), (.t 6)]) (.o 8 (.bin .geq (.t 7) (.i 0)) (.o 4 (.m 8) .nil)))))) .ret)), [.tmp 4]⟩
theorem b185 : fnOf Go.Proofs.Tryz.prog (owOf []) 185 = some c185 := by kernel_rfl
def c187 : RFn := ⟨(.seq (rf (.o 3 (.box (.t 0)) (.o 4 (.box (.t 1)) (.o 5 (.box (.t 2)) (.o 6 (.move (.c (.bool false))) .nil))))) (.seq (.seq (rf (.o 7 (.load (some 11) (.t 5)) (.o 8 (.call 168 [(.t 7)]) (.o 9 (.un .not (.t 8)) (.o 10 (.m 9) (.grd 10 false (.o 11 (.load (some 11) (.t 5)) (.o 12 (.call 170 [(.t 11)]) (.o 13 (.mkfunc 204 [(.t 4)]) (.o 14 (.call 163 [(.t 12), (.t 13)]) .nil)))) (.o 15 (.pick (.t 10) (.c (.bool true)) (.t 14)) .nil))))))) (.cond (.t 15) (.seq (rf (.o 6 (.move (.c (.bool false))) .nil)) .ret) .skip)) (.seq (rt (.o 16 (.fieldAddr 1 (.t 5)) (.op (some 17) (.load none (.t 16)) 1 (.op (some 18) (.bin .neq (.t 17) (.i 7)) 3 (.op (some 19) (.m 18) 7 (.grd 19 false (.op (some 20) (.fieldAddr 6 (.t 5)) 15 (.op (some 21) (.load none (.t 20)) 31 (.op (some 22) (.fieldAddr 0 (.t 3)) 15 (.op (some 23) (.load none (.t 22)) 79 (.op (some 24) (.len false (.t 23)) 207 (.op (some 25) (.bin .lss (.t 21) (.t 24)) 511 (.op (some 26) (.m 25) 1023 (.grd 26 true (.op (some 27) (.fieldAddr 0 (.t 3)) 2047 (.op (some 28) (.load none (.t 27)) 4095 (.op (some 29) (.fieldAddr 6 (.t 5)) 2047 (.op (some 30) (.load none (.t 29)) 10239 (.op (some 31) (.idxAddr 3 (.t 28) (.t 30)) 32767 (.op (some 32) (.fieldAddr 0 (.t 31)) 65535 (.op (some 33) (.load none (.t 32)) 131071 (.op (some 34) (.fieldAddr 7 (.t 5)) 2047 (.op (some 35) (.load none (.t 34)) 264191 (.op (some 36) (.bin .eql (.t 33) (.t 35)) 1048575 .nil)))))))))) (.op (some 37) (.pick (.t 26) (.t 36) (.c (.bool false))) 2097151 .nil))))))))) (.op (some 38) (.pick (.t 19) (.c (.bool true)) (.t 37)) 4194303 (.op (some 6) (.m 38) 8388607 .nil)))))))) .ret))), [.tmp 6]⟩
theorem b187 : fnOf Go.Proofs.Tryz.prog (owOf []) 187 = some c187 := by kernel_rfl
def c191 : RFn := ⟨(.seq (rf (.o 4 (.move (.i 0)) .nil)) (.seq (.seq (rf (.o 6 (.m 0) (.o 7 (.len false (.t 6)) (.o 8 (.move (.i 0)) .nil)))) (.block 0 (.loop (.seq (rf (.o 9 (.bin .lss (.t 8) (.t 7)) .nil)) (.seq (.cond (.t 9) .skip (.exit 0)) (.seq (.block 1 (.seq (rf (.o 10 (.m 8) (.o 5 (.m 10) .nil))) (.seq (rf (.o 11 (.m 1) (.o 12 (.m 0) (.o 13 (.m 5) (.o 14 (.idxAddr 1 (.t 12) (.t 13)) (.o 15 (.load none (.t 14)) (.o 16 (.callv (.t 11) [(.t 15)]) .nil))))))) (.cond (.t 16) (.seq (rf (.o 17 (.m 5) (.o 4 (.m 17) .nil))) .ret) .skip)))) (rf (.o 18 (.bin .add (.t 8) (.i 1)) (.o 8 (.m 18) .nil))))))))) (.seq (rf (.o 4 (.move (.c (.int .i64 (-1)))) .nil)) .ret))), [.tmp 4]⟩
theorem b191 : fnOf Go.Proofs.Tryz.prog (owOf []) 191 = some c191 := by kernel_rfl
def c203 : RFn := ⟨(.seq (rf (.o 4 (.move (.i 0)) .nil)) (.seq (.seq (rf (.o 6 (.m 0) (.o 7 (.len false (.t 6)) (.o 8 (.move (.i 0)) .nil)))) (.block 0 (.loop (.seq (rf (.o 9 (.bin .lss (.t 8) (.t 7)) .nil)) (.seq (.cond (.t 9) .skip (.exit 0)) (.seq (.block 1 (.seq (rf (.o 10 (.m 8) (.o 5 (.m 10) .nil))) (.seq (rf (.o 11 (.m 1) (.o 12 (.m 0) (.o 13 (.m 5) (.o 14 (.idxAddr 11 (.t 12) (.t 13)) (.o 15 (.load (some 11) (.t 14)) (.o 16 (.callv (.t 11) [(.t 15)]) .nil))))))) (.cond (.t 16) (.seq (rf (.o 17 (.m 5) (.o 4 (.m 17) .nil))) .ret) .skip)))) (rf (.o 18 (.bin .add (.t 8) (.i 1)) (.o 8 (.m 18) .nil))))))))) (.seq (rf (.o 4 (.move (.c (.int .i64 (-1)))) .nil)) .ret))), [.tmp 4]⟩
theorem b203 : fnOf Go.Proofs.Tryz.prog (owOf []) 203 = some c203 := by kernel_rfl
def c204 : RFn := ⟨(.seq (rf (.o 3 (.move (.c (.bool false))) .nil)) (.seq (rf (.o 4 (.m 0) (.o 5 (.fieldAddr 1 (.t 1)) (.o 6 (.load none (.t 5)) (.o 7 (.bin .geq (.t 4) (.t 6)) (.o 3 (.m 7) .nil)))))) .ret)), [.tmp 3]⟩
theorem b204 : fnOf Go.Proofs.Tryz.prog (owOf []) 204 = some c204 := by kernel_rfl
section
variable {gl : Nat → Option PV}
theorem p_idxF (l : List Int) (F : FuncId) (caps : List PV) (q : Int → Bool) (hl : l.length ≤ 100000) (hc : caps.all pure1 = true) (h : ∀ j, j < l.length → Pure Go.Proofs.Tryz.prog gl F ([.int .i64 (l.getD j 0)] ++ caps) (.bool (q (l.getD j 0)))) : Pure Go.Proofs.Tryz.prog gl 191 [.sl (ints l), .fn F caps] (.int .i64 (fidx q l)) := by
  have h0 := h
  refine Pure.fn hmix b191 ?_
  repeat' first | (with_reducible first | refine tr_seq ?_ | refine n_nil ?_ | refine seqQ_normal ?_ | refine seqQ_exit ?_ | refine seqQ_ret ?_ | refine blkQ_normal ?_ | refine blkQ_exit ?_ | refine blkQ_ret ?_ | refine tr_block ?_ | refine tr_skip ?_ | refine tr_exit ?_ | refine tr_ret ?_ | refine loopV_exit ?_ | refine loopV_ret ?_) | ((with_reducible refine tr_region_f ?_ ?_); kernel_rfl) | ((with_reducible apply tr_cond_e); rfl) | ((with_reducible apply n_idx_ints); rfl; rfl; (((simp only [zz] at *; omega)))) | ((with_reducible apply n_callv_p); rfl; rfl; rfl; exact hc; exact h0 k (by ((simp only [zz] at *; omega)))) | ((((with_reducible apply n_bin); rfl; rfl; focus ((with_reducible (apply b_add)) <;> omega)))) | (refine tr_loop_v (α := Nat) 0 (fun | k => [(8, some (.int .i64 (k : Int))), (9, none), (10, none), (5, none), (11, none), (12, none), (13, none), (14, none), (15, none), (16, none), (17, none), (4, none), (18, none)]) (fun | k => []) (fun | k => k ≤ l.length ∧ ∀ j, j < k → q (l.getD j 0) = false) (fun | k => l.length - k) (0) (ks := [8, 9, 10, 5, 11, 12, 13, 14, 15, 16, 17, 4, 18]) (fun _ => rfl) (fun _ => rfl) rfl (by omega) ?_ ⟨⟨_, rfl, rfl⟩, trivial⟩ trivial ?_; rotate_left; rintro k hx; try dsimp only at hx) | (((refine loopV_normal (k + 1) ?_ ⟨⟨_, rfl, rfl⟩, trivial⟩ trivial ?_ ?_)); repeat (first | exact only_refl | refine only_put rfl ?_)) | ((with_reducible apply n_val); rfl; rfl) | (with_reducible refine condT_split (fun h => ?_) (fun h => ?_)) | ((with_reducible apply fnQ_ret_soft); rfl; rfl) | fail
  all_goals (try dsimp only at *)
  all_goals (try simp only [decide_eq_true_eq, decide_eq_false_iff_not, ints_length] at *)
  · exact congrArg _ (fidx_at 0 (by omega) (by assumption) hx.2).symm
  · omega
  · refine ⟨by omega, fun j hj => ?_⟩
    by_cases e : j = k
    · subst e; assumption
    · exact hx.2 j (by omega)
  · exact congrArg _ (fidx_no 0 fun j hj => hx.2 j (by omega)).symm
  · exact ⟨by omega, fun j hj => absurd hj (by omega)⟩
theorem p_ctnF (l : List Int) (F : FuncId) (caps : List PV) (q : Int → Bool) (hl : l.length ≤ 100000) (hc : caps.all pure1 = true) (h : ∀ j, j < l.length → Pure Go.Proofs.Tryz.prog gl F ([.int .i64 (l.getD j 0)] ++ caps) (.bool (q (l.getD j 0)))) : Pure Go.Proofs.Tryz.prog gl 163 [.sl (ints l), .fn F caps] (.bool (l.any q)) := by
  have h1 := p_idxF l F caps q hl hc h
  refine Pure.fn hmix b163 ?_
  repeat' first | (with_reducible first | refine tr_seq ?_ | refine n_nil ?_ | refine seqQ_normal ?_ | refine tr_ret ?_) | ((with_reducible refine tr_region_f ?_ ?_); kernel_rfl) | (refine n_call (f := 191) rfl (softs_fn1 rfl hc) h1 ?_) | ((with_reducible apply n_val); rfl; rfl) | ((with_reducible apply fnQ_ret_soft); rfl; rfl) | fail
  exact congrArg PV.bool (fidx_in q l)
theorem p_idxG (l : List In) (F : FuncId) (caps : List PV) (q : In → Bool) (hl : l.length ≤ 100000) (hc : caps.all pure1 = true) (h : ∀ j, j < l.length → Pure Go.Proofs.Tryz.prog gl F ([pI (l.getD j i0)] ++ caps) (.bool (q (l.getD j i0)))) : Pure Go.Proofs.Tryz.prog gl 203 [.sl (l.map pI), .fn F caps] (.int .i64 (fidx q l)) := by
  have h0 := h
  refine Pure.fn hmix b203 ?_
  repeat' first | (with_reducible first | refine tr_seq ?_ | refine n_nil ?_ | refine seqQ_normal ?_ | refine seqQ_exit ?_ | refine seqQ_ret ?_ | refine blkQ_normal ?_ | refine blkQ_exit ?_ | refine blkQ_ret ?_ | refine tr_block ?_ | refine tr_skip ?_ | refine tr_exit ?_ | refine tr_ret ?_ | refine loopV_exit ?_ | refine loopV_ret ?_) | ((with_reducible refine tr_region_f ?_ ?_); kernel_rfl) | ((with_reducible apply tr_cond_e); rfl) | ((with_reducible apply n_idx_vals i0); rfl; rfl; exact (fun _ => rfl); (((simp only [zz] at *; omega)))) | ((with_reducible apply n_callv_p); rfl; rfl; rfl; exact hc; exact h0 k (by ((simp only [zz] at *; omega)))) | ((((with_reducible apply n_bin); rfl; rfl; focus ((with_reducible (apply b_add)) <;> omega)))) | (refine tr_loop_v (α := Nat) 0 (fun | k => [(8, some (.int .i64 (k : Int))), (9, none), (10, none), (5, none), (11, none), (12, none), (13, none), (14, none), (15, none), (16, none), (17, none), (4, none), (18, none)]) (fun | k => []) (fun | k => k ≤ l.length ∧ ∀ j, j < k → q (l.getD j i0) = false) (fun | k => l.length - k) (0) (ks := [8, 9, 10, 5, 11, 12, 13, 14, 15, 16, 17, 4, 18]) (fun _ => rfl) (fun _ => rfl) rfl (by omega) ?_ ⟨⟨_, rfl, rfl⟩, trivial⟩ trivial ?_; rotate_left; rintro k hx; try dsimp only at hx) | (((refine loopV_normal (k + 1) ?_ ⟨⟨_, rfl, rfl⟩, trivial⟩ trivial ?_ ?_)); repeat (first | exact only_refl | refine only_put rfl ?_)) | ((with_reducible apply n_val); rfl; rfl) | (with_reducible refine condT_split (fun h => ?_) (fun h => ?_)) | ((with_reducible apply fnQ_ret_soft); rfl; rfl) | fail
  all_goals (try dsimp only at *)
  all_goals (try simp only [decide_eq_true_eq, decide_eq_false_iff_not, List.length_map] at *)
  · exact congrArg _ (fidx_at i0 (by omega) (by assumption) hx.2).symm
  · omega
  · refine ⟨by omega, fun j hj => ?_⟩
    by_cases e : j = k
    · subst e; assumption
    · exact hx.2 j (by omega)
  · exact congrArg _ (fidx_no i0 fun j hj => hx.2 j (by omega)).symm
  · exact ⟨by omega, fun j hj => absurd hj (by omega)⟩
theorem p_ctnG (l : List In) (F : FuncId) (caps : List PV) (q : In → Bool) (hl : l.length ≤ 100000) (hc : caps.all pure1 = true) (h : ∀ j, j < l.length → Pure Go.Proofs.Tryz.prog gl F ([pI (l.getD j i0)] ++ caps) (.bool (q (l.getD j i0)))) : Pure Go.Proofs.Tryz.prog gl 185 [.sl (l.map pI), .fn F caps] (.bool (l.any q)) := by
  have h1 := p_idxG l F caps q hl hc h
  refine Pure.fn hmix b185 ?_
  repeat' first | (with_reducible first | refine tr_seq ?_ | refine n_nil ?_ | refine seqQ_normal ?_ | refine tr_ret ?_) | ((with_reducible refine tr_region_f ?_ ?_); kernel_rfl) | (refine n_call (f := 203) rfl (softs_fn1 rfl hc) h1 ?_) | ((with_reducible apply n_val); rfl; rfl) | ((with_reducible apply fnQ_ret_soft); rfl; rfl) | fail
  exact congrArg PV.bool (fidx_in q l)
theorem p_live (f : Fn) (b : Int) : Pure Go.Proofs.Tryz.prog gl 89 [pF f, .int .i64 b] (.bool (liveF f b)) := by
  refine Pure.fn hmix b89 ?_
  repeat' first | (with_reducible first | refine tr_seq ?_ | refine n_nil ?_ | refine seqQ_normal ?_ | refine tr_ret ?_) | ((with_reducible refine tr_region_f ?_ ?_); kernel_rfl) | exact ⟨rfl, rfl⟩ | ((with_reducible apply n_and); rfl; rfl; intro h) | ((with_reducible apply n_idx_vals B0); rfl; rfl; exact (fun _ => rfl); (((simp only [zz] at *; omega)))) | ((with_reducible apply n_val); rfl; rfl) | ((with_reducible apply n_new); rfl; (((simp only [hn0, hn1, hn2, hn3, hn4, hn5, List.length_cons, List.length_nil, Nat.reduceAdd, Nat.zero_add]; rfl))); rfl) | ((with_reducible apply fnQ_ret_soft); rfl; rfl) | fail
  simp only [liveF, List.length_map]
theorem p_rises (l : List Int) (hl : l.length ≤ 100000) : Pure Go.Proofs.Tryz.prog gl 183 [.sl (ints l)] (.bool (risesL l)) := by
  refine Pure.fn hmix b183 ?_
  repeat' first | (with_reducible first | refine tr_seq ?_ | refine n_nil ?_ | refine seqQ_normal ?_ | refine seqQ_exit ?_ | refine seqQ_ret ?_ | refine blkQ_normal ?_ | refine blkQ_exit ?_ | refine blkQ_ret ?_ | refine tr_block ?_ | refine tr_skip ?_ | refine tr_exit ?_ | refine tr_ret ?_ | refine loopV_exit ?_ | refine loopV_ret ?_) | ((with_reducible refine tr_region_f ?_ ?_); kernel_rfl) | ((with_reducible refine tr_region_t ?_ ?_ ?_); kernel_rfl; kernel_rfl) | ((with_reducible apply tr_cond_e); rfl) | ((with_reducible apply n_idx_ints); rfl; rfl; (((simp only [zz] at *; omega)))) | ((((with_reducible apply n_bin); rfl; rfl; focus ((with_reducible (first | apply b_add | apply b_sub)) <;> omega)))) | (refine tr_loop_v (α := Nat) 0 (fun | k => [(3, some (.int .i64 (k : Int))), (4, none), (5, none), (6, none), (7, none), (10, none), (11, none), (12, none), (13, none), (14, none), (15, none), (16, none), (17, none), (18, none), (19, none), (2, none), (8, none), (9, none)]) (fun | k => []) (fun | k => 1 ≤ k ∧ k ≤ max l.length 1 ∧ ∀ j, 1 ≤ j → j < k → l.getD (j - 1) 0 < l.getD j 0) (fun | k => l.length - k) (1) (ks := [3, 4, 5, 6, 7, 10, 11, 12, 13, 14, 15, 16, 17, 18, 19, 2, 8, 9]) (fun _ => rfl) (fun _ => rfl) rfl (by omega) ?_ ⟨⟨_, rfl, rfl⟩, trivial⟩ trivial ?_; rotate_left; rintro k hx; try dsimp only at hx) | (((refine loopV_normal (k + 1) ?_ ⟨⟨_, rfl, rfl⟩, trivial⟩ trivial ?_ ?_)); repeat (first | exact only_refl | refine only_put rfl ?_)) | ((with_reducible apply n_val); rfl; rfl) | (with_reducible refine condT_split (fun h => ?_) (fun h => ?_)) | ((with_reducible apply fnQ_ret_soft); rfl; rfl) | fail
  all_goals (try dsimp only at *)
  all_goals (try simp only [decide_eq_true_eq, decide_eq_false_iff_not, ints_length] at *)
  · have e : ((k : Int) - 1).toNat = k - 1 := by omega
    rw [e] at h
    exact congrArg PV.bool (rises_f hx.1 (by omega) (by simp only [Int.toNat_natCast] at h; omega)).symm
  · omega
  · refine ⟨by omega, by omega, fun j h1 h2 => ?_⟩
    by_cases e : j = k
    · subst e
      have e : ((j : Int) - 1).toNat = j - 1 := by omega
      rw [e] at h
      simp only [Int.toNat_natCast] at h
      omega
    · exact hx.2.2 j h1 (by omega)
  · exact congrArg PV.bool (rises_t fun j h1 h2 => hx.2.2 j h1 (by omega)).symm
  · exact ⟨by omega, by omega, fun j h1 h2 => by omega⟩
theorem p_block1 (f : Fn) (b : Int) : Pure Go.Proofs.Tryz.prog gl 184 ([.int .i64 b] ++ [.fptr [.int .i64 f.ar, .int .i64 f.vs, .sl (f.bs.map pB)]]) (.bool (!liveF f b)) := by
  refine Pure.fn hmix b184 ?_
  repeat' first | (with_reducible first | refine tr_seq ?_ | refine n_nil ?_ | refine seqQ_normal ?_ | refine tr_ret ?_) | ((with_reducible refine tr_region_f ?_ ?_); kernel_rfl) | ((with_reducible apply n_val); rfl; rfl) | ((with_reducible apply n_call (f := 89)); rfl; rfl; exact p_live f b) | ((with_reducible apply fnQ_ret_soft); rfl; rfl) | fail
  rfl
theorem p_instrOK1 (f : Fn) (v : Int) : Pure Go.Proofs.Tryz.prog gl 204 ([.int .i64 v] ++ [.fptr [.int .i64 f.ar, .int .i64 f.vs, .sl (f.bs.map pB)]]) (.bool (decide (v ≥ f.vs))) := by
  refine Pure.fn hmix b204 ?_
  repeat' first | (with_reducible first | refine tr_seq ?_ | refine n_nil ?_ | refine seqQ_normal ?_ | refine tr_ret ?_) | ((with_reducible refine tr_region_f ?_ ?_); kernel_rfl) | ((with_reducible apply n_val); rfl; rfl) | ((with_reducible apply fnQ_ret_soft); rfl; rfl) | fail
  rfl
end
theorem vars_len5 (i : In) : (varsI i).length ≤ 100000 := by
  rw [varsI]
  have h1 := cp_len (srt ((if defI i = -1 then usesI i else usesI i ++ [defI i]).length - 1) (if defI i = -1 then usesI i else usesI i ++ [defI i]))
  rw [srt_length] at h1
  have h2 : (if defI i = -1 then usesI i else usesI i ++ [defI i]).length ≤ (usesI i).length + 1 := by split <;> simp
  have := usesI_len i
  omega
theorem form_call {i : In} (h : form i = true) : i.kind = 7 → 0 ≤ i.f := by
  intro hk
  have := ((form_iff i).1 h).2.1.2.2.2.1
  rw [none5_iff] at this
  omega
theorem p_instrOK (p : List Fn) (f : Fn) (i : In) : Pure Go.Proofs.Tryz.prog glD 187 [pP p, pF f, pI i] (.bool (okI p f i)) := by
  have hC := p_ctnF (gl := glD) (varsI i) 204 [.fptr [.int .i64 f.ar, .int .i64 f.vs, .sl (f.bs.map pB)]] (fun v => decide (v ≥ f.vs)) (vars_len5 i) rfl (fun j _ => p_instrOK1 f _)
  have hF := form_call (i := i)
  refine Pure.fn hmix b187 ?_
  repeat' first | (with_reducible first | refine tr_seq ?_ | refine n_nil ?_ | refine seqQ_normal ?_ | refine seqQ_ret ?_ | refine tr_skip ?_ | refine tr_ret ?_) | ((with_reducible refine tr_region_f ?_ ?_); kernel_rfl) | ((with_reducible refine tr_region_t ?_ ?_ ?_); kernel_rfl; kernel_rfl) | exact ⟨rfl, rfl⟩ | ((with_reducible apply tr_cond_e); rfl) | ((with_reducible apply n_and); rfl; rfl; intro h) | ((with_reducible apply n_or); rfl; rfl; intro h) | ((with_reducible apply n_idx_vals F0); rfl; rfl; exact (fun _ => rfl); exact (by rename_i q1 q2; simp only [bne_eq_false_iff_eq, decide_eq_true_eq, Bool.or_eq_false_iff, Bool.not_eq_false', List.length_map] at h q1 q2; exact ⟨hF q1.1 q2, h⟩)) | ((with_reducible apply n_val); rfl; rfl) | ((with_reducible apply n_new); rfl; (((simp only [hn0, hn1, hn2, hn3, hn4, hn5, List.length_cons, List.length_nil, Nat.reduceAdd, Nat.zero_add]; rfl))); rfl) | ((with_reducible apply n_call (f := 168)); rfl; rfl; exact p_Form i) | ((with_reducible apply n_call (f := 170)); rfl; rfl; exact p_Vars i) | ((with_reducible apply n_callb ); rfl; rfl; exact hC; rfl) | (with_reducible refine condT_split (fun h => ?_) (fun h => ?_)) | ((with_reducible apply fnQ_ret_soft); rfl; rfl) | fail
  · refine congrArg PV.bool ?_
    unfold okI
    cases hf : form i
    · rfl
    · rw [hf] at h
      simp only [Bool.not_true, Bool.false_or] at h
      rw [h]; rfl
  · refine congrArg PV.bool ?_
    simp only [Bool.or_eq_false_iff, Bool.not_eq_false'] at h
    unfold okI
    rw [h.1, h.2, List.length_map]
    simp
def c17 : RFn := ⟨(.seq (rf (.o 1 (.box (.t 0)) (.o 2 (.move (.c (.bool false))) .nil))) (.seq (rf (.o 3 (.alloc .nilp) .nil)) (.seq (rf (.o 4 (.load (some 1) (.t 1)) (.o 5 (.call 54 [(.t 4)]) (.o 6 (.prim (.mkif 89) [(.t 3)]) (.o 7 (.call 53 [(.t 5), (.t 6)]) (.o 8 (.un .not (.t 7)) (.o 2 (.m 8) .nil))))))) .ret))), [.tmp 2]⟩
theorem b17 : fnOf Go.Proofs.Tryz.prog (owOf []) 17 = some c17 := by kernel_rfl
def c41 : RFn := ⟨(.seq (rf (.o 3 (.box (.t 0)) (.o 6 (.alloc (.agg [(.bool false), (.lit []), (.lit [])])) (.o 7 (.move (.c (.bool false))) .nil)))) (.seq (rf (.o 11 (.load (some 1) (.t 3)) (.o 12 (.m 1) (.o 13 (.call 88 [(.t 11), (.t 12)]) (.o 10 (.m 13) (.o 14 (.extract 0 (.t 10)) (.o 15 (.extract 1 (.t 10)) (.o 8 (.alloc (.agg [(.int .i64 0), (.int .i64 0), (.lit [])])) (.op none (.store 3 (.t 8) (.t 14)) 0 (.o 9 (.m 15) .nil)))))))))) (.seq (.seq (rf (.o 16 (.load (some 3) (.t 8)) (.o 17 (.m 2) (.o 18 (.call 89 [(.t 16), (.t 17)]) (.o 19 (.un .not (.t 18)) .nil))))) (.cond (.t 19) (.seq (rf (.o 20 (.build [(.bool false), (.lit []), (.lit [])] []) (.op none (.store 3 (.t 6) (.t 20)) 0 (.o 7 (.move (.c (.bool false))) .nil)))) .ret) .skip)) (.seq (rf (.o 21 (.fieldAddr 2 (.t 8)) (.o 22 (.load none (.t 21)) (.o 23 (.m 2) (.o 24 (.idxAddr 3 (.t 22) (.t 23)) (.o 25 (.load (some 3) (.t 24)) (.op none (.store 3 (.t 6) (.t 25)) 0 (.o 7 (.move (.c (.bool true))) .nil)))))))) .ret)))), [.cell (some 3) 6, .tmp 7]⟩
theorem b41 : fnOf Go.Proofs.Tryz.prog (owOf []) 41 = some c41 := by kernel_rfl
def c43 : RFn := ⟨(.seq (rf (.o 4 (.box (.t 0)) (.o 8 (.alloc (.agg [(.int .i64 0), (.int .i64 0), (.int .i64 0), (.int .i64 0), (.int .i64 0), (.int .i64 0), (.int .i64 0), (.int .i64 0), (.int .i64 0), (.int .i64 0), (.int .i64 0)])) (.o 9 (.move (.c (.bool false))) .nil)))) (.seq (rf (.o 13 (.load (some 1) (.t 4)) (.o 14 (.m 1) (.o 15 (.m 2) (.o 16 (.call 41 [(.t 13), (.t 14), (.t 15)]) (.o 12 (.m 16) (.o 17 (.extract 0 (.t 12)) (.o 18 (.extract 1 (.t 12)) (.o 10 (.alloc (.agg [(.bool false), (.lit []), (.lit [])])) (.op none (.store 3 (.t 10) (.t 17)) 0 (.o 11 (.m 18) .nil))))))))))) (.seq (.seq (rf (.o 19 (.m 3) (.o 20 (.bin .lss (.t 19) (.i 0)) (.o 21 (.m 20) (.grd 21 false (.o 22 (.m 3) (.o 23 (.fieldAddr 1 (.t 10)) (.o 24 (.load none (.t 23)) (.o 25 (.len false (.t 24)) (.o 26 (.bin .geq (.t 22) (.t 25)) .nil))))) (.o 27 (.pick (.t 21) (.c (.bool true)) (.t 26)) .nil)))))) (.cond (.t 27) (.seq (rf (.o 28 (.build [(.int .i64 0), (.int .i64 0), (.int .i64 0), (.int .i64 0), (.int .i64 0), (.int .i64 0), (.int .i64 0), (.int .i64 0), (.int .i64 0), (.int .i64 0), (.int .i64 0)] []) (.op none (.store 11 (.t 8) (.t 28)) 0 (.o 9 (.move (.c (.bool false))) .nil)))) .ret) .skip)) (.seq (rf (.o 29 (.fieldAddr 1 (.t 10)) (.o 30 (.load none (.t 29)) (.o 31 (.m 3) (.o 32 (.idxAddr 11 (.t 30) (.t 31)) (.o 33 (.load (some 11) (.t 32)) (.op none (.store 11 (.t 8) (.t 33)) 0 (.o 9 (.move (.c (.bool true))) .nil)))))))) .ret)))), [.cell (some 11) 8, .tmp 9]⟩
theorem b43 : fnOf Go.Proofs.Tryz.prog (owOf []) 43 = some c43 := by kernel_rfl
def c54 : RFn := ⟨(.seq (rf (.o 1 (.box (.t 0)) (.o 2 (.move (.c .nili)) .nil))) (.seq (.seq (rf (.o 11 (.fieldAddr 0 (.t 1)) (.o 12 (.load none (.t 11)) (.o 13 (.len false (.t 12)) (.o 14 (.bin .gtr (.t 13) (.i 6)) .nil))))) (.cond (.t 14) (.seq (rf (.o 15 (.fieldAddr 0 (.t 1)) (.o 16 (.load none (.t 15)) (.o 17 (.len false (.t 16)) (.o 18 (.build [(.str ⟨#[]⟩), (.int .i64 0)] [(0, 1, (.c (.str ⟨#[116, 111, 111, 32, 109, 97, 110, 121, 32, 102, 117, 110, 99, 116, 105, 111, 110, 115]⟩))), (1, 1, (.t 17))]) (.o 19 (.box (.t 18)) (.o 20 (.prim (.mkif 84) [(.t 19)]) (.o 2 (.m 20) .nil)))))))) .ret) .skip)) (.seq (rf (.o 21 (.eprim .mkmap []) (.o 3 (.m 21) .nil))) (.seq (.seq (rf (.o 22 (.fieldAddr 0 (.t 1)) (.o 23 (.load none (.t 22)) (.o 24 (.len false (.t 23)) (.o 25 (.move (.i 0)) .nil))))) (.block 0 (.loop (.seq (rf (.o 26 (.bin .lss (.t 25) (.t 24)) .nil)) (.seq (.cond (.t 26) .skip (.exit 0)) (.seq (.block 1 (.seq (rf (.o 27 (.m 25) (.o 28 (.idxAddr 3 (.t 23) (.t 25)) (.o 29 (.load (some 3) (.t 28)) (.o 5 (.alloc (.agg [(.int .i64 0), (.int .i64 0), (.lit [])])) (.o 4 (.m 27) (.op none (.store 3 (.t 5) (.t 29)) 0 .nil))))))) (.seq (.seq (rf (.o 30 (.load (some 1) (.t 1)) (.o 31 (.load (some 3) (.t 5)) (.o 32 (.call 105 [(.t 30), (.t 31)]) (.o 6 (.m 32) .nil))))) (.seq (rf (.o 33 (.m 6) (.o 34 (.bin .neq (.t 33) (.c (.str ⟨#[]⟩))) .nil))) (.cond (.t 34) (.seq (rf (.o 35 (.m 6) (.o 36 (.m 4) (.o 37 (.build [(.str ⟨#[]⟩), (.int .i64 0)] [(0, 1, (.t 35)), (1, 1, (.t 36))]) (.o 38 (.box (.t 37)) (.o 39 (.prim (.mkif 84) [(.t 38)]) (.o 2 (.m 39) .nil))))))) .ret) .skip))) (.seq (rf (.o 40 (.fieldAddr 2 (.t 5)) (.o 41 (.load none (.t 40)) (.o 42 (.len false (.t 41)) (.o 43 (.move (.i 0)) .nil))))) (.block 2 (.loop (.seq (rf (.o 44 (.bin .lss (.t 43) (.t 42)) .nil)) (.seq (.cond (.t 44) .skip (.exit 2)) (.seq (.block 3 (.seq (rf (.o 45 (.idxAddr 3 (.t 41) (.t 43)) (.o 46 (.load (some 3) (.t 45)) (.o 8 (.alloc (.agg [(.bool false), (.lit []), (.lit [])])) (.op none (.store 3 (.t 8) (.t 46)) 0 .nil))))) (.seq (rf (.o 47 (.fieldAddr 1 (.t 8)) (.o 48 (.load none (.t 47)) (.o 49 (.len false (.t 48)) (.o 50 (.move (.i 0)) .nil))))) (.block 4 (.loop (.seq (rf (.o 51 (.bin .lss (.t 50) (.t 49)) .nil)) (.seq (.cond (.t 51) .skip (.exit 4)) (.seq (.block 5 (.seq (rf (.o 52 (.idxAddr 11 (.t 48) (.t 50)) (.o 53 (.load (some 11) (.t 52)) (.o 10 (.alloc (.agg [(.int .i64 0), (.int .i64 0), (.int .i64 0), (.int .i64 0), (.int .i64 0), (.int .i64 0), (.int .i64 0), (.int .i64 0), (.int .i64 0), (.int .i64 0), (.int .i64 0)])) (.op none (.store 11 (.t 10) (.t 53)) 0 .nil))))) (.seq (.seq (rf (.o 54 (.m 3) (.o 55 (.fieldAddr 0 (.t 10)) (.o 56 (.load none (.t 55)) (.o 57 (.prim .mapget [(.t 54), (.t 56)]) .nil))))) (.cond (.t 57) (.seq (rf (.o 58 (.m 4) (.o 59 (.build [(.str ⟨#[]⟩), (.int .i64 0)] [(0, 1, (.c (.str ⟨#[97, 32, 110, 117, 109, 98, 101, 114, 32, 116, 119, 105, 99, 101]⟩))), (1, 1, (.t 58))]) (.o 60 (.box (.t 59)) (.o 61 (.prim (.mkif 84) [(.t 60)]) (.o 2 (.m 61) .nil)))))) .ret) .skip)) (rf (.o 62 (.m 3) (.o 63 (.fieldAddr 0 (.t 10)) (.o 64 (.load none (.t 63)) (.op none (.eprim .mapset [(.t 62), (.t 64), (.c (.bool true))]) 0 .nil)))))))) (rf (.o 65 (.bin .add (.t 50) (.i 1)) (.o 50 (.m 65) .nil))))))))))) (rf (.o 66 (.bin .add (.t 43) (.i 1)) (.o 43 (.m 66) .nil)))))))))))) (rf (.o 67 (.bin .add (.t 25) (.i 1)) (.o 25 (.m 67) .nil))))))))) (.seq (rf (.o 2 (.move (.c .nili)) .nil)) .ret))))), [.tmp 2]⟩
theorem b54 : fnOf Go.Proofs.Tryz.prog (owOf []) 54 = some c54 := by kernel_rfl
def c88 : RFn := ⟨(.seq (rf (.o 2 (.box (.t 0)) (.o 4 (.alloc (.agg [(.int .i64 0), (.int .i64 0), (.lit [])])) (.o 5 (.move (.c (.bool false))) .nil)))) (.seq (.seq (rf (.o 6 (.m 1) (.o 7 (.bin .lss (.t 6) (.i 0)) (.o 8 (.m 7) (.grd 8 false (.o 9 (.m 1) (.o 10 (.fieldAddr 0 (.t 2)) (.o 11 (.load none (.t 10)) (.o 12 (.len false (.t 11)) (.o 13 (.bin .geq (.t 9) (.t 12)) .nil))))) (.o 14 (.pick (.t 8) (.c (.bool true)) (.t 13)) (.o 15 (.m 14) (.grd 15 false (.o 16 (.load (some 1) (.t 2)) (.o 17 (.call 17 [(.t 16)]) (.o 18 (.un .not (.t 17)) .nil))) (.o 19 (.pick (.t 15) (.c (.bool true)) (.t 18)) .nil))))))))) (.cond (.t 19) (.seq (rf (.o 20 (.build [(.int .i64 0), (.int .i64 0), (.lit [])] []) (.op none (.store 3 (.t 4) (.t 20)) 0 (.o 5 (.move (.c (.bool false))) .nil)))) .ret) .skip)) (.seq (rf (.o 21 (.fieldAddr 0 (.t 2)) (.o 22 (.load none (.t 21)) (.o 23 (.m 1) (.o 24 (.idxAddr 3 (.t 22) (.t 23)) (.o 25 (.load (some 3) (.t 24)) (.op none (.store 3 (.t 4) (.t 25)) 0 (.o 5 (.move (.c (.bool true))) .nil)))))))) .ret))), [.cell (some 3) 4, .tmp 5]⟩
theorem b88 : fnOf Go.Proofs.Tryz.prog (owOf []) 88 = some c88 := by kernel_rfl
def c105 : RFn := ⟨(.seq (rf (.o 2 (.box (.t 0)) (.o 3 (.box (.t 1)) (.o 4 (.move (.c (.str ⟨#[]⟩))) .nil)))) (.seq (rf (.o 9 (.fieldAddr 2 (.t 3)) (.o 10 (.load none (.t 9)) (.o 11 (.len false (.t 10)) (.o 5 (.m 11) .nil))))) (.seq (.block 0 (.seq (rf (.o 13 (.fieldAddr 0 (.t 3)) (.o 14 (.load none (.t 13)) (.o 15 (.bin .lss (.t 14) (.i 0)) (.o 16 (.m 15) (.grd 16 false (.o 17 (.fieldAddr 0 (.t 3)) (.o 18 (.load none (.t 17)) (.o 19 (.bin .gtr (.t 18) (.i 3)) .nil))) (.o 20 (.pick (.t 16) (.c (.bool true)) (.t 19)) (.o 21 (.m 20) (.grd 21 false (.o 22 (.fieldAddr 1 (.t 3)) (.o 23 (.load none (.t 22)) (.o 24 (.fieldAddr 0 (.t 3)) (.o 25 (.load none (.t 24)) (.o 26 (.bin .lss (.t 23) (.t 25)) .nil))))) (.o 27 (.pick (.t 21) (.c (.bool true)) (.t 26)) (.o 28 (.m 27) (.grd 28 false (.o 29 (.fieldAddr 1 (.t 3)) (.o 30 (.load none (.t 29)) (.o 31 (.bin .gtr (.t 30) (.i 6)) .nil))) (.o 32 (.pick (.t 28) (.c (.bool true)) (.t 31)) (.o 12 (.m 32) .nil)))))))))))))) (.cond (.t 12) (.seq (rf (.o 4 (.move (.c (.str ⟨#[118, 97, 114, 105, 97, 98, 108, 101, 115]⟩))) .nil)) .ret) (.seq (rf (.o 34 (.m 5) (.o 35 (.bin .lss (.t 34) (.i 1)) (.o 36 (.m 35) (.grd 36 false (.o 37 (.m 5) (.o 38 (.bin .gtr (.t 37) (.i 12)) .nil)) (.o 39 (.pick (.t 36) (.c (.bool true)) (.t 38)) (.o 40 (.m 39) (.grd 40 false (.o 41 (.fieldAddr 2 (.t 3)) (.o 42 (.load none (.t 41)) (.o 43 (.idxAddr 3 (.t 42) (.i 0)) (.o 44 (.fieldAddr 0 (.t 43)) (.o 45 (.load none (.t 44)) (.o 46 (.un .not (.t 45)) .nil)))))) (.o 47 (.pick (.t 40) (.c (.bool true)) (.t 46)) (.o 48 (.m 47) (.grd 48 false (.o 49 (.fieldAddr 2 (.t 3)) (.o 50 (.load none (.t 49)) (.o 51 (.m 5) (.o 52 (.bin .sub (.t 51) (.i 1)) (.o 53 (.idxAddr 3 (.t 50) (.t 52)) (.o 54 (.fieldAddr 0 (.t 53)) (.o 55 (.load none (.t 54)) (.o 56 (.un .not (.t 55)) .nil)))))))) (.o 57 (.pick (.t 48) (.c (.bool true)) (.t 56)) (.o 33 (.m 57) .nil))))))))))))) (.cond (.t 33) (.seq (rf (.o 4 (.move (.c (.str ⟨#[98, 108, 111, 99, 107, 115]⟩))) .nil)) .ret) .skip))))) (.seq (.seq (rf (.o 58 (.fieldAddr 2 (.t 3)) (.o 59 (.load none (.t 58)) (.o 60 (.len false (.t 59)) (.o 61 (.move (.i 0)) .nil))))) (.block 1 (.loop (.seq (rf (.o 62 (.bin .lss (.t 61) (.t 60)) .nil)) (.seq (.cond (.t 62) .skip (.exit 1)) (.seq (.block 2 (.seq (rf (.o 63 (.idxAddr 3 (.t 59) (.t 61)) (.o 64 (.load (some 3) (.t 63)) (.o 7 (.alloc (.agg [(.bool false), (.lit []), (.lit [])])) (.op none (.store 3 (.t 7) (.t 64)) 0 .nil))))) (.seq (rf (.o 65 (.load (some 1) (.t 2)) (.o 66 (.load (some 3) (.t 3)) (.o 67 (.load (some 3) (.t 7)) (.o 68 (.call 151 [(.t 65), (.t 66), (.t 67)]) (.o 8 (.m 68) .nil)))))) (.seq (rf (.o 69 (.m 8) (.o 70 (.bin .neq (.t 69) (.c (.str ⟨#[]⟩))) .nil))) (.cond (.t 70) (.seq (rf (.o 71 (.m 8) (.o 4 (.m 71) .nil))) .ret) .skip))))) (rf (.o 72 (.bin .add (.t 61) (.i 1)) (.o 61 (.m 72) .nil))))))))) (.seq (rf (.o 4 (.move (.c (.str ⟨#[]⟩))) .nil)) .ret))))), [.tmp 4]⟩
theorem b105 : fnOf Go.Proofs.Tryz.prog (owOf []) 105 = some c105 := by kernel_rfl
def c151 : RFn := ⟨(.seq (rf (.o 3 (.box (.t 0)) (.o 4 (.box (.t 1)) (.o 5 (.box (.t 2)) (.o 6 (.move (.c (.str ⟨#[]⟩))) .nil))))) (.seq (.block 0 (.seq (rf (.o 8 (.fieldAddr 0 (.t 5)) (.o 9 (.load none (.t 8)) (.o 10 (.un .not (.t 9)) (.o 11 (.m 10) (.grd 11 true (.o 12 (.fieldAddr 1 (.t 5)) (.o 13 (.load none (.t 12)) (.o 14 (.len false (.t 13)) (.o 15 (.fieldAddr 2 (.t 5)) (.o 16 (.load none (.t 15)) (.o 17 (.len false (.t 16)) (.o 18 (.bin .add (.t 14) (.t 17)) (.o 19 (.bin .gtr (.t 18) (.i 0)) .nil)))))))) (.o 20 (.pick (.t 11) (.t 19) (.c (.bool false))) (.o 7 (.m 20) .nil)))))))) (.cond (.t 7) (.seq (rf (.o 6 (.move (.c (.str ⟨#[97, 32, 98, 108, 111, 99, 107, 32, 116, 104, 97, 116, 32, 105, 115, 32, 110, 111, 110, 101, 32, 104, 97, 115, 32, 112, 97, 114, 116, 115]⟩))) .nil)) .ret) (.seq (rf (.o 22 (.fieldAddr 2 (.t 5)) (.o 23 (.load none (.t 22)) (.o 24 (.call 183 [(.t 23)]) (.o 25 (.un .not (.t 24)) (.o 26 (.m 25) (.grd 26 false (.o 27 (.fieldAddr 2 (.t 5)) (.o 28 (.load none (.t 27)) (.o 29 (.mkfunc 184 [(.t 4)]) (.o 30 (.call 163 [(.t 28), (.t 29)]) .nil)))) (.o 31 (.pick (.t 26) (.c (.bool true)) (.t 30)) (.o 21 (.m 31) .nil))))))))) (.cond (.t 21) (.seq (rf (.o 6 (.move (.c (.str ⟨#[101, 100, 103, 101, 115]⟩))) .nil)) .ret) (.seq (rf (.o 33 (.fieldAddr 1 (.t 5)) (.o 34 (.load none (.t 33)) (.o 35 (.len false (.t 34)) (.o 36 (.bin .gtr (.t 35) (.i 16)) (.o 37 (.m 36) (.grd 37 false (.o 38 (.fieldAddr 1 (.t 5)) (.o 39 (.load none (.t 38)) (.o 40 (.mkfunc 186 [(.t 3), (.t 4)]) (.o 41 (.call 185 [(.t 39), (.t 40)]) .nil)))) (.o 42 (.pick (.t 37) (.c (.bool true)) (.t 41)) (.o 32 (.m 42) .nil))))))))) (.cond (.t 32) (.seq (rf (.o 6 (.move (.c (.str ⟨#[105, 110, 115, 116, 114, 117, 99, 116, 105, 111, 110, 115]⟩))) .nil)) .ret) .skip))))))) (.seq (rf (.o 6 (.move (.c (.str ⟨#[]⟩))) .nil)) .ret))), [.tmp 6]⟩
theorem b151 : fnOf Go.Proofs.Tryz.prog (owOf []) 151 = some c151 := by kernel_rfl
def c186 : RFn := ⟨(.seq (rf (.o 3 (.box (.t 0)) (.o 4 (.move (.c (.bool false))) .nil))) (.seq (rf (.o 5 (.load (some 1) (.t 1)) (.o 6 (.load (some 3) (.t 2)) (.o 7 (.load (some 11) (.t 3)) (.o 8 (.call 187 [(.t 5), (.t 6), (.t 7)]) (.o 9 (.un .not (.t 8)) (.o 4 (.m 9) .nil))))))) .ret)), [.tmp 4]⟩
theorem b186 : fnOf Go.Proofs.Tryz.prog (owOf []) 186 = some c186 := by kernel_rfl
theorem p_block2 (p : List Fn) (f : Fn) (i : In) : Pure Go.Proofs.Tryz.prog glD 186 ([pI i] ++ [.fptr [.sl (p.map pF)], .fptr [.int .i64 f.ar, .int .i64 f.vs, .sl (f.bs.map pB)]]) (.bool (!okI p f i)) := by
  refine Pure.fn hmix b186 ?_
  repeat' first | (with_reducible first | refine tr_seq ?_ | refine n_nil ?_ | refine seqQ_normal ?_ | refine tr_ret ?_) | ((with_reducible refine tr_region_f ?_ ?_); kernel_rfl) | ((with_reducible apply n_val); rfl; rfl) | ((with_reducible apply n_new); rfl; (((simp only [hn0, hn1, hn2, hn3, hn4, hn5, List.length_cons, List.length_nil, Nat.reduceAdd, Nat.zero_add]; rfl))); rfl) | ((with_reducible apply n_call (f := 187)); rfl; rfl; exact p_instrOK p f i) | ((with_reducible apply fnQ_ret_soft); rfl; rfl) | fail
  rfl
theorem p_block (p : List Fn) (f : Fn) (x : Bk) (h1 : x.code.length ≤ 1000) (h2 : x.succ.length ≤ 1000) : Pure Go.Proofs.Tryz.prog glD 151 [pP p, pF f, pB x] (.str (bkS p f x)) := by
  have hC := p_ctnF (gl := glD) x.succ 184 [.fptr [.int .i64 f.ar, .int .i64 f.vs, .sl (f.bs.map pB)]] (fun b => !liveF f b) (by omega) rfl (fun j _ => p_block1 f _)
  have hG := p_ctnG (gl := glD) x.code 186 [.fptr [.sl (p.map pF)], .fptr [.int .i64 f.ar, .int .i64 f.vs, .sl (f.bs.map pB)]] (fun i => !okI p f i) (by omega) rfl (fun j _ => p_block2 p f _)
  refine Pure.fn hmix b151 ?_
  repeat' first | (with_reducible first | refine tr_seq ?_ | refine n_nil ?_ | refine seqQ_normal ?_ | refine seqQ_ret ?_ | refine blkQ_normal ?_ | refine blkQ_ret ?_ | refine tr_block ?_ | refine tr_skip ?_ | refine tr_ret ?_) | ((with_reducible refine tr_region_f ?_ ?_); kernel_rfl) | exact ⟨rfl, rfl⟩ | ((with_reducible apply tr_cond_e); rfl) | ((with_reducible apply n_and); rfl; rfl; intro h) | ((with_reducible apply n_or); rfl; rfl; intro h) | ((((with_reducible apply n_bin); rfl; rfl; focus ((with_reducible (apply b_add)) <;> ((simp only [zz] at *; omega)))))) | ((with_reducible apply n_val); rfl; rfl) | ((with_reducible apply n_new); rfl; (((simp only [hn0, hn1, hn2, hn3, hn4, hn5, List.length_cons, List.length_nil, Nat.reduceAdd, Nat.zero_add]; rfl))); rfl) | ((with_reducible apply n_call (f := 183)); rfl; rfl; exact p_rises x.succ (by omega)) | ((with_reducible apply n_callb ); rfl; rfl; exact hC; rfl) | ((with_reducible apply n_callb ); rfl; rfl; exact hG; rfl) | (with_reducible refine condT_split (fun h => ?_) (fun h => ?_)) | ((with_reducible apply fnQ_ret_soft); rfl; rfl) | fail
  all_goals (simp only [ints_length, List.length_map] at *)
  · exact congrArg PV.str (bkS_1 (by assumption)).symm
  · exact congrArg PV.str (bkS_2 (by assumption) (by assumption)).symm
  · exact congrArg PV.str (bkS_3 (by assumption) (by assumption) (by assumption)).symm
  · exact congrArg PV.str (bkS_0 (by assumption) (by assumption) (by assumption)).symm
theorem p_fun (p : List Fn) (f : Fn) (h0 : f.bs.length ≤ 1000) (h1 : ∀ b ∈ f.bs, b.code.length ≤ 1000) (h2 : ∀ b ∈ f.bs, b.succ.length ≤ 1000) : Pure Go.Proofs.Tryz.prog glD 105 [pP p, pF f] (.str (fnS p f)) := by
  refine Pure.fn hmix b105 ?_
  repeat' first | (with_reducible first | refine tr_seq ?_ | refine n_nil ?_ | refine seqQ_normal ?_ | refine seqQ_exit ?_ | refine seqQ_ret ?_ | refine blkQ_normal ?_ | refine blkQ_exit ?_ | refine blkQ_ret ?_ | refine tr_block ?_ | refine tr_skip ?_ | refine tr_exit ?_ | refine tr_ret ?_ | refine loopV_exit ?_ | refine loopV_ret ?_) | ((with_reducible refine tr_region_f ?_ ?_); kernel_rfl) | exact ⟨rfl, rfl⟩ | ((with_reducible apply tr_cond_e); rfl) | ((with_reducible apply n_or); rfl; rfl; intro h) | ((with_reducible apply n_idx_vals B0); rfl; rfl; exact (fun _ => rfl); (((simp only [zz] at *; omega)))) | ((((with_reducible apply n_bin); rfl; rfl; focus ((with_reducible (first | apply b_add | apply b_sub)) <;> first | omega | (simp only [zz] at *; omega))))) | (refine tr_loop_v (α := Nat) 2 (fun | k => [(61, some (.int .i64 (k : Int))), (62, none), (63, none), (64, none), (7, none), (65, none), (66, none), (67, none), (68, none), (8, none), (69, none), (70, none), (71, none), (4, none), (72, none)]) (fun | k => [some ⟨0, 1, [pP p]⟩, some ⟨0, 3, [pF f]⟩]) (fun | k => k ≤ f.bs.length ∧ ∀ j, j < k → okB p f (f.bs.getD j B0) = true) (fun | k => f.bs.length - k) (0) (ks := [61, 62, 63, 64, 7, 65, 66, 67, 68, 8, 69, 70, 71, 4, 72]) (fun _ => rfl) (fun _ => rfl) rfl (by omega) ?_ ⟨⟨_, rfl, rfl⟩, trivial⟩ ⟨⟨_, rfl, rfl, rfl, rfl⟩, ⟨_, rfl, rfl, rfl, rfl⟩, trivial⟩ ?_; rotate_left; rintro k hx; try dsimp only at hx) | (((refine loopV_normal (k + 1) ?_ ⟨⟨_, rfl, rfl⟩, trivial⟩ ⟨⟨_, rfl, rfl, rfl, rfl⟩, ⟨_, rfl, rfl, rfl, rfl⟩, trivial⟩ ?_ ?_)); repeat (first | exact only_refl | refine only_put rfl ?_)) | ((with_reducible apply n_val); rfl; rfl) | ((with_reducible apply n_new); rfl; (((simp only [hn0, hn1, hn2, hn3, hn4, hn5, List.length_cons, List.length_nil, Nat.reduceAdd, Nat.zero_add]; rfl))); rfl) | ((with_reducible apply n_store); rfl; rfl; rfl; rfl; rfl) | ((with_reducible apply n_call (f := 151)); rfl; rfl; exact p_block p f (f.bs.getD _ B0) (h1 _ (getD_mem B0 (by ((simp only [zz] at *; omega))))) (h2 _ (getD_mem B0 (by ((simp only [zz] at *; omega)))))) | (with_reducible refine condT_split (fun h => ?_) (fun h => ?_)) | ((with_reducible apply fnQ_ret_soft); rfl; rfl) | fail
  all_goals (try dsimp only at *)
  all_goals (try simp only [decide_eq_true_eq, decide_eq_false_iff_not, List.length_map] at *)
  · exact congrArg PV.str (fnS_1 (by assumption)).symm
  · exact congrArg PV.str (fnS_2 (by assumption) (by assumption)).symm
  · rename_i q1 q2 q3
    refine congrArg PV.str ?_
    rw [fnS_3 (by assumption) (by assumption), firstS_at (k := k) (by omega) (okB_of (b := true) (by assumption)) hx.2]
    rfl
  · omega
  · refine ⟨by omega, fun j hj => ?_⟩
    by_cases e : j = k
    · subst e; exact okB_of (b := false) (by assumption)
    · exact hx.2 j (by omega)
  · refine congrArg PV.str ?_
    rw [fnS_3 (by assumption) (by assumption), firstS_all fun j hj => hx.2 j (by omega)]
    rfl
  · exact ⟨by omega, fun j hj => absurd hj (by omega)⟩
def chkV (p : List Fn) : PV := if sane p then .nili else .ifc 84 (.fptr [])
theorem chk_t {p : List Fn} (h : sane p = true) : chkV p = .nili := by rw [chkV, if_pos h]
theorem chk_f {p : List Fn} (h : sane p = false) {l : List PV} : Wk (.ifc 84 (.fptr l)) (chkV p) := by rw [chkV, h]; exact Wk.ptr
theorem p_check (p : List Fn) (hp : Fit p) : Pure Go.Proofs.Tryz.prog glD 54 [pP p] (chkV p) := by
  have hf : ∀ k, k < p.length → Pure Go.Proofs.Tryz.prog glD 105 [pP p, pF (p.getD k F0)] (.str (fnS p (p.getD k F0))) := fun k hk => p_fun p _ (hp.bs _ (getD_mem F0 hk)) (hp.code _ (getD_mem F0 hk)) (hp.succ _ (getD_mem F0 hk))
  have hb : ∀ k, k < p.length → (p.getD k F0).bs.length ≤ 1000 := fun k hk => hp.bs _ (getD_mem F0 hk)
  have hc : ∀ k, k < p.length → ∀ j, j < (p.getD k F0).bs.length → ((p.getD k F0).bs.getD j B0).code.length ≤ 1000 := fun k hk j hj => hp.code _ (getD_mem F0 hk) _ (getD_mem B0 hj)
  have hl := hp.funs
  refine Pure.fnW hmix b54 ?_
  repeat' first | (with_reducible first | refine tr_seq ?_ | refine n_nil ?_ | refine seqQ_normal ?_ | refine seqQ_exit ?_ | refine seqQ_ret ?_ | refine blkQ_normal ?_ | refine blkQ_exit ?_ | refine blkQ_ret ?_ | refine tr_block ?_ | refine tr_skip ?_ | refine tr_exit ?_ | refine tr_ret ?_ | refine loopV_exit ?_ | refine loopV_ret ?_) | ((with_reducible refine tr_region_f ?_ ?_); kernel_rfl) | ((with_reducible apply tr_cond_e); rfl) | ((with_reducible apply n_call (f := 105)); rfl; rfl; exact hf k (by ((simp only [zz] at *; omega)))) | ((with_reducible apply n_mkmap); (((simp only [hn0, hn1, hn2, hn3, hn4, hn5, List.length_cons, List.length_nil, Nat.reduceAdd, Nat.zero_add]; rfl)))) | ((with_reducible apply n_mapget); rfl; rfl; rfl) | ((with_reducible apply n_mapset); rfl; rfl; rfl; rfl) | ((with_reducible apply n_idx_vals F0); rfl; rfl; exact (fun _ => rfl); (((simp only [zz] at *; omega)))) | ((with_reducible apply n_idx_vals B0); rfl; rfl; exact (fun _ => rfl); (((simp only [zz] at *; omega)))) | ((with_reducible apply n_idx_vals i0); rfl; rfl; exact (fun _ => rfl); (((simp only [zz] at *; omega)))) | ((with_reducible apply fnQ_ret_wk); rfl; rfl) | ((((with_reducible apply n_bin); rfl; rfl; focus ((with_reducible (apply b_add)) <;> omega)))) | (refine tr_loop_v (α := Nat) 2 (fun | k => [(25, some (.int .i64 (k : Int))), (26, none), (27, none), (28, none), (29, none), (5, none), (4, none), (30, none), (31, none), (32, none), (6, none), (33, none), (34, none), (35, none), (36, none), (37, none), (38, none), (39, none), (2, none), (40, none), (41, none), (42, none), (43, none), (44, none), (45, none), (46, none), (8, none), (47, none), (48, none), (49, none), (50, none), (51, none), (52, none), (53, none), (10, none), (54, none), (55, none), (56, none), (57, none), (58, none), (59, none), (60, none), (61, none), (62, none), (63, none), (64, none), (65, none), (66, none), (67, none)]) (fun | k => [some ⟨0, 1, [pP p]⟩, some ⟨0, 2, (entT (pre1 p k)).map pM⟩]) (fun | k => k ≤ p.length ∧ (∀ j, j < k → okF p (p.getD j F0) = true) ∧ (pre1 p k).Nodup) (fun | k => p.length - k) (0) (ks := [25, 26, 27, 28, 29, 5, 4, 30, 31, 32, 6, 33, 34, 35, 36, 37, 38, 39, 2, 40, 41, 42, 43, 44, 45, 46, 8, 47, 48, 49, 50, 51, 52, 53, 10, 54, 55, 56, 57, 58, 59, 60, 61, 62, 63, 64, 65, 66, 67]) (fun _ => rfl) (fun _ => rfl) rfl (by omega) ?_ ⟨⟨_, rfl, rfl⟩, trivial⟩ ⟨⟨_, rfl, rfl, rfl, rfl⟩, ⟨_, rfl, rfl, rfl, (by exact fzP_vals (fun _ => rfl) rfl)⟩, trivial⟩ ?_; rotate_left; rintro k hx; try dsimp only at hx) | ((((refine loopV_normal (k + 1) ?_ ⟨⟨_, rfl, rfl⟩, trivial⟩ ⟨⟨_, rfl, rfl, rfl, rfl⟩, ⟨_, rfl, rfl, rfl, (by (exact fzP_vals (fun _ => rfl) (entT_1 (by ((simp only [zz] at *; omega))) (by ((simp only [zz] at *; omega))) (by omega))))⟩, trivial⟩ ?_ ?_))); repeat (first | exact only_refl | refine only_put rfl ?_)) | (refine tr_loop_v (α := Nat) 3 (fun | j => [(43, some (.int .i64 (j : Int))), (44, none), (45, none), (46, none), (8, none), (47, none), (48, none), (49, none), (50, none), (51, none), (52, none), (53, none), (10, none), (54, none), (55, none), (56, none), (57, none), (58, none), (59, none), (60, none), (61, none), (2, none), (62, none), (63, none), (64, none), (65, none), (66, none)]) (fun | j => [some ⟨0, 1, [pP p]⟩, some ⟨0, 2, (entT (pre2 p k j)).map pM⟩, some ⟨0, 3, [pF (p.getD k F0)]⟩]) (fun | j => j ≤ (p.getD k F0).bs.length ∧ (pre2 p k j).Nodup ∧ (p.getD k F0).bs.length ≤ 1000) (fun | j => (p.getD k F0).bs.length - j) (0) (ks := [43, 44, 45, 46, 8, 47, 48, 49, 50, 51, 52, 53, 10, 54, 55, 56, 57, 58, 59, 60, 61, 2, 62, 63, 64, 65, 66]) (fun _ => rfl) (fun _ => rfl) rfl (by omega) ?_ ⟨⟨_, rfl, rfl⟩, trivial⟩ ⟨⟨_, rfl, rfl, rfl, rfl⟩, ⟨_, rfl, rfl, rfl, (by exact fzP_vals (fun _ => rfl) (congrArg entT (pre2_z p k).symm))⟩, ⟨_, rfl, rfl, rfl, rfl⟩, trivial⟩ ?_; rotate_left; rintro j hx; try dsimp only at hx) | ((((refine loopV_normal (j + 1) ?_ ⟨⟨_, rfl, rfl⟩, trivial⟩ ⟨⟨_, rfl, rfl, rfl, rfl⟩, ⟨_, rfl, rfl, rfl, (by (exact fzP_vals (fun _ => rfl) (entT_2 (by ((simp only [zz] at *; omega))) (by ((simp only [zz] at *; omega))) (by omega))))⟩, ⟨_, rfl, rfl, rfl, rfl⟩, trivial⟩ ?_ ?_))); repeat (first | exact only_refl | refine only_put rfl ?_)) | (refine tr_loop_v (α := Nat) 4 (fun | i => [(50, some (.int .i64 (i : Int))), (51, none), (52, none), (53, none), (10, none), (54, none), (55, none), (56, none), (57, none), (58, none), (59, none), (60, none), (61, none), (2, none), (62, none), (63, none), (64, none), (65, none)]) (fun | i => [some ⟨0, 1, [pP p]⟩, some ⟨0, 2, (entT (pre3 p k j i)).map pM⟩, some ⟨0, 3, [pF (p.getD k F0)]⟩, some ⟨0, 3, [pB ((p.getD k F0).bs.getD j B0)]⟩]) (fun | i => i ≤ ((p.getD k F0).bs.getD j B0).code.length ∧ (pre3 p k j i).Nodup ∧ ((p.getD k F0).bs.getD j B0).code.length ≤ 1000) (fun | i => ((p.getD k F0).bs.getD j B0).code.length - i) (0) (ks := [50, 51, 52, 53, 10, 54, 55, 56, 57, 58, 59, 60, 61, 2, 62, 63, 64, 65]) (fun _ => rfl) (fun _ => rfl) rfl (by omega) ?_ ⟨⟨_, rfl, rfl⟩, trivial⟩ ⟨⟨_, rfl, rfl, rfl, rfl⟩, ⟨_, rfl, rfl, rfl, (by exact fzP_vals (fun _ => rfl) (congrArg entT (pre3_z p k j).symm))⟩, ⟨_, rfl, rfl, rfl, rfl⟩, ⟨_, rfl, rfl, rfl, rfl⟩, trivial⟩ ?_; rotate_left; rintro i hx; try dsimp only at hx) | ((((refine loopV_normal (i + 1) ?_ ⟨⟨_, rfl, rfl⟩, trivial⟩ ⟨⟨_, rfl, rfl, rfl, rfl⟩, ⟨_, rfl, rfl, rfl, (by (exact fzP_vals (fun _ => rfl) (entT_3 (by ((simp only [zz] at *; omega))) (by assumption))))⟩, ⟨_, rfl, rfl, rfl, rfl⟩, ⟨_, rfl, rfl, rfl, rfl⟩, trivial⟩ ?_ ?_))); repeat (first | exact only_refl | refine only_put rfl ?_)) | ((with_reducible apply n_val); rfl; rfl) | ((with_reducible apply n_new); rfl; (((simp only [hn0, hn1, hn2, hn3, hn4, hn5, List.length_cons, List.length_nil, Nat.reduceAdd, Nat.zero_add]; rfl))); rfl) | ((with_reducible apply n_store); rfl; rfl; rfl; rfl; rfl) | (with_reducible refine condT_split (fun h => ?_) (fun h => ?_)) | fail
  all_goals (try dsimp only at *)
  all_goals (try simp only [decide_eq_true_eq, decide_eq_false_iff_not, List.length_map] at *)
  · exact chk_f (sane_many (by omega))
  · exact chk_f (sane_fun (k := k) (by omega) (okF_of (b := true) (by assumption)))
  · refine chk_f (sane_twice (k := k) (j := j) (i := i) (by omega) (by simp only [Int.toNat_natCast] at *; omega) (by simp only [Int.toNat_natCast] at *; omega) ?_)
    rw [← look_entT]
    assumption
  · simp only [Int.toNat_natCast] at *; omega
  · refine ⟨by simp only [Int.toNat_natCast] at *; omega, ?_, hx.2.2⟩
    rw [pre3_s (by simp only [Int.toNat_natCast] at *; omega)]
    refine snoc_nodup hx.2.1 ?_
    rw [← look_entT]
    assumption
  · simp only [Int.toNat_natCast] at *; omega
  · refine ⟨by simp only [Int.toNat_natCast] at *; omega, ?_, by simp only [Int.toNat_natCast] at *; omega⟩
    have e : i = ((p.getD k F0).bs.getD j B0).code.length := by simp only [Int.toNat_natCast] at *; omega
    have h3 := hx.2.1
    rw [e] at h3
    rw [pre2_s (by simp only [Int.toNat_natCast] at *; omega)]
    exact h3
  · rw [pre3_z]
    exact ⟨Nat.zero_le _, hx.2.1, hc k (by simp only [Int.toNat_natCast] at *; omega) j (by simp only [Int.toNat_natCast] at *; omega)⟩
  · omega
  · rename_i q1 q2 q3 q4
    have e : j = (p.getD k F0).bs.length := by simp only [Int.toNat_natCast] at *; omega
    have h3 := hx.2.1
    rw [e] at h3
    refine ⟨by omega, fun m hm => ?_, by rw [pre1_s (by omega)]; exact h3⟩
    by_cases e2 : m = k
    · subst e2; exact okF_of (b := false) (by assumption)
    · exact q1.2.1 m (by omega)
  · rw [pre2_z]
    exact ⟨Nat.zero_le _, hx.2.2, hb k (by omega)⟩
  · have e : k = p.length := by omega
    rw [chk_t (sane_yes (by omega) (fun j hj => hx.2.1 j (by omega)) (by rw [← e]; exact hx.2.2))]
    exact Wk.rfl
  · exact ⟨Nat.zero_le _, fun j hj => absurd hj (by omega), by rw [pre1_z]; exact List.nodup_nil⟩
theorem p_Sane (p : List Fn) (hp : Fit p) : Pure Go.Proofs.Tryz.prog glD 17 [pP p] (.bool (sane p)) := by
  have hc := p_check p hp
  cases hs : sane p with
  | true =>
    rw [chk_t hs] at hc
    refine Pure.fn hmix b17 ?_
    repeat' first | (with_reducible first | refine tr_seq ?_ | refine n_nil ?_ | refine seqQ_normal ?_ | refine tr_ret ?_) | ((with_reducible refine tr_region_f ?_ ?_); kernel_rfl) | ((with_reducible apply n_call (f := 54)); rfl; rfl; exact hc) | ((with_reducible apply n_val); rfl; rfl) | ((with_reducible apply n_new); rfl; (((simp only [hn0, hn1, hn2, hn3, hn4, hn5, List.length_cons, List.length_nil, Nat.reduceAdd, Nat.zero_add]; rfl))); rfl) | ((with_reducible apply n_spec (f := 53)); rfl; exact h_As_nil _ _; exact Nat.le_refl _) | ((with_reducible apply fnQ_ret_soft); rfl; rfl) | fail
    rfl
  | false =>
    rw [chkV, hs] at hc
    refine Pure.fn hmix b17 ?_
    repeat' first | (with_reducible first | refine tr_seq ?_ | refine n_nil ?_ | refine seqQ_normal ?_ | refine tr_ret ?_) | ((with_reducible refine tr_region_f ?_ ?_); kernel_rfl) | ((with_reducible apply n_call (f := 54)); rfl; rfl; exact hc) | ((with_reducible apply n_val); rfl; rfl) | ((with_reducible apply n_new); rfl; (((simp only [hn0, hn1, hn2, hn3, hn4, hn5, List.length_cons, List.length_nil, Nat.reduceAdd, Nat.zero_add]; rfl))); rfl) | ((with_reducible apply n_spec (f := 53)); rfl; exact h_As_hit [] _ 1 rfl rfl; exact Nat.le_refl _) | ((with_reducible apply fnQ_ret_soft); rfl; rfl) | fail
    rfl
theorem p_Fun (p : List Fn) (f : Int) (hp : Fit p) : Pure Go.Proofs.Tryz.prog glD 88 [pP p, .int .i64 f] (oT pF F0 (funV p f)) := by
  have hs := p_Sane p hp
  refine Pure.fn hmix b88 ?_
  repeat' first | (with_reducible first | refine tr_seq ?_ | refine n_nil ?_ | refine seqQ_normal ?_ | refine seqQ_ret ?_ | refine tr_skip ?_ | refine tr_ret ?_) | ((with_reducible refine tr_region_f ?_ ?_); kernel_rfl) | exact ⟨rfl, rfl⟩ | ((with_reducible apply tr_cond_e); rfl) | ((with_reducible apply n_or); rfl; rfl; intro h) | ((with_reducible apply n_call (f := 17)); rfl; rfl; exact hs) | ((with_reducible apply n_idx_vals F0); rfl; rfl; exact (fun _ => rfl); (((simp only [zz] at *; omega)))) | ((with_reducible apply n_val); rfl; rfl) | ((with_reducible apply n_new); rfl; (((simp only [hn0, hn1, hn2, hn3, hn4, hn5, List.length_cons, List.length_nil, Nat.reduceAdd, Nat.zero_add]; rfl))); rfl) | ((with_reducible apply n_store); rfl; rfl; rfl; rfl; rfl) | (with_reducible refine condT_split (fun h => ?_) (fun h => ?_)) | ((with_reducible apply fnQ_ret_soft); rfl; rfl) | fail
  · simp only [List.length_map] at h
    rw [funV_no h]; rfl
  · simp only [List.length_map] at h
    rw [funV_yes h]; rfl
theorem p_Block (p : List Fn) (f b : Int) (hp : Fit p) : Pure Go.Proofs.Tryz.prog glD 41 [pP p, .int .i64 f, .int .i64 b] (oT pB B0 (blkV p f b)) := by
  have hf : Pure Go.Proofs.Tryz.prog glD 88 [pP p, .int .i64 f] (.tup [pF ((funV p f).getD F0), .bool (funV p f).isSome]) := p_Fun p f hp
  have hl := p_live (gl := glD) ((funV p f).getD F0) b
  have h1 : liveF ((funV p f).getD F0) b = false → blkV p f b = none := fun h => by rw [blkV, h]; rfl
  have h2 : liveF ((funV p f).getD F0) b = true → blkV p f b = some (((funV p f).getD F0).bs.getD b.toNat B0) := fun h => by rw [blkV, if_pos h]
  have h3 : liveF ((funV p f).getD F0) b = true → 0 ≤ b ∧ b < (((funV p f).getD F0).bs.length : Nat) := fun h => by
    simp only [liveF, Bool.and_eq_true, decide_eq_true_eq] at h
    exact h.1
  generalize (funV p f).getD F0 = g at *
  generalize (funV p f).isSome = o at *
  refine Pure.fn hmix b41 ?_
  repeat' first | (with_reducible first | refine tr_seq ?_ | refine n_nil ?_ | refine seqQ_normal ?_ | refine seqQ_ret ?_ | refine tr_skip ?_ | refine tr_ret ?_) | ((with_reducible refine tr_region_f ?_ ?_); kernel_rfl) | ((with_reducible apply tr_cond_e); rfl) | ((with_reducible apply n_call (f := 88)); rfl; rfl; exact hf) | ((with_reducible apply n_call (f := 89)); rfl; rfl; exact hl) | ((with_reducible apply n_idx_vals B0); rfl; rfl; exact (fun _ => rfl); exact h3 (by simpa using h)) | ((with_reducible apply n_val); rfl; rfl) | ((with_reducible apply n_new); rfl; (((simp only [hn0, hn1, hn2, hn3, hn4, hn5, List.length_cons, List.length_nil, Nat.reduceAdd, Nat.zero_add]; rfl))); rfl) | ((with_reducible apply n_store); rfl; rfl; rfl; rfl; rfl) | (with_reducible refine condT_split (fun h => ?_) (fun h => ?_)) | ((with_reducible apply fnQ_ret_soft); rfl; rfl) | fail
  · rw [h1 (by simpa using h)]; rfl
  · rw [h2 (by simpa using h)]; rfl
theorem p_At (p : List Fn) (f b n : Int) (hp : Fit p) : Pure Go.Proofs.Tryz.prog glD 43 [pP p, .int .i64 f, .int .i64 b, .int .i64 n] (oT pI i0 (atV p f b n)) := by
  have hf : Pure Go.Proofs.Tryz.prog glD 41 [pP p, .int .i64 f, .int .i64 b] (.tup [pB ((blkV p f b).getD B0), .bool (blkV p f b).isSome]) := p_Block p f b hp
  have h1 : ¬ (0 ≤ n ∧ n < (((blkV p f b).getD B0).code.length : Nat)) → atV p f b n = none := fun h => by rw [atV, if_neg h]
  have h2 : (0 ≤ n ∧ n < (((blkV p f b).getD B0).code.length : Nat)) → atV p f b n = some (((blkV p f b).getD B0).code.getD n.toNat i0) := fun h => by rw [atV, if_pos h]
  generalize (blkV p f b).getD B0 = g at *
  generalize (blkV p f b).isSome = o at *
  refine Pure.fn hmix b43 ?_
  repeat' first | (with_reducible first | refine tr_seq ?_ | refine n_nil ?_ | refine seqQ_normal ?_ | refine seqQ_ret ?_ | refine tr_skip ?_ | refine tr_ret ?_) | ((with_reducible refine tr_region_f ?_ ?_); kernel_rfl) | exact ⟨rfl, rfl⟩ | ((with_reducible apply tr_cond_e); rfl) | ((with_reducible apply n_or); rfl; rfl; intro h) | ((with_reducible apply n_call (f := 41)); rfl; rfl; exact hf) | ((with_reducible apply n_idx_vals i0); rfl; rfl; exact (fun _ => rfl); (((simp only [zz] at *; omega)))) | ((with_reducible apply n_val); rfl; rfl) | ((with_reducible apply n_new); rfl; (((simp only [hn0, hn1, hn2, hn3, hn4, hn5, List.length_cons, List.length_nil, Nat.reduceAdd, Nat.zero_add]; rfl))); rfl) | ((with_reducible apply n_store); rfl; rfl; rfl; rfl; rfl) | (with_reducible refine condT_split (fun h => ?_) (fun h => ?_)) | ((with_reducible apply fnQ_ret_soft); rfl; rfl) | fail
  · simp only [List.length_map, Bool.or_eq_true, decide_eq_true_eq] at h
    rw [h1 (by omega)]; rfl
  · simp only [List.length_map, Bool.or_eq_false_iff, decide_eq_false_iff_not] at h
    rw [h2 (by omega)]; rfl
def c16 : RFn := ⟨(.seq (rf (.o 1 (.box (.t 0)) (.o 2 (.move (.c (.bool false))) .nil))) (.seq (.seq (rf (.o 6 (.fieldAddr 0 (.t 1)) (.o 7 (.load none (.t 6)) (.o 8 (.len false (.t 7)) (.o 9 (.bin .gtr (.t 8) (.i 10)) .nil))))) (.cond (.t 9) (.seq (rf (.o 2 (.move (.c (.bool false))) .nil)) .ret) .skip)) (.seq (.seq (rf (.o 3 (.move (.i 0)) .nil)) (.block 0 (.loop (.seq (.seq (rf (.o 10 (.m 3) (.o 11 (.fieldAddr 0 (.t 1)) (.o 12 (.load none (.t 11)) (.o 13 (.len false (.t 12)) (.o 14 (.bin .lss (.t 10) (.t 13)) .nil)))))) (.cond (.t 14) .skip (.exit 0))) (.seq (.block 1 (.seq (.seq (rf (.o 17 (.fieldAddr 0 (.t 1)) (.o 18 (.load none (.t 17)) (.o 19 (.m 3) (.o 20 (.idxAddr 3 (.t 18) (.t 19)) (.o 21 (.fieldAddr 2 (.t 20)) (.o 22 (.load none (.t 21)) (.o 23 (.len false (.t 22)) (.o 24 (.bin .gtr (.t 23) (.i 20)) .nil))))))))) (.cond (.t 24) (.seq (rf (.o 2 (.move (.c (.bool false))) .nil)) .ret) .skip)) (.seq (rf (.o 4 (.move (.i 0)) .nil)) (.block 2 (.loop (.seq (.seq (rf (.o 25 (.m 4) (.o 26 (.fieldAddr 0 (.t 1)) (.o 27 (.load none (.t 26)) (.o 28 (.m 3) (.o 29 (.idxAddr 3 (.t 27) (.t 28)) (.o 30 (.fieldAddr 2 (.t 29)) (.o 31 (.load none (.t 30)) (.o 32 (.len false (.t 31)) (.o 33 (.bin .lss (.t 25) (.t 32)) .nil)))))))))) (.cond (.t 33) .skip (.exit 2))) (.seq (.block 3 (.seq (rf (.o 36 (.fieldAddr 0 (.t 1)) (.o 37 (.load none (.t 36)) (.o 38 (.m 3) (.o 39 (.idxAddr 3 (.t 37) (.t 38)) (.o 40 (.fieldAddr 2 (.t 39)) (.o 41 (.load none (.t 40)) (.o 42 (.m 4) (.o 43 (.idxAddr 3 (.t 41) (.t 42)) (.o 44 (.load (some 3) (.t 43)) (.o 5 (.alloc (.agg [(.bool false), (.lit []), (.lit [])])) (.op none (.store 3 (.t 5) (.t 44)) 0 .nil)))))))))))) (.seq (rf (.o 45 (.fieldAddr 1 (.t 5)) (.o 46 (.load none (.t 45)) (.o 47 (.len false (.t 46)) (.o 48 (.bin .gtr (.t 47) (.i 30)) (.o 49 (.m 48) (.grd 49 false (.o 50 (.fieldAddr 2 (.t 5)) (.o 51 (.load none (.t 50)) (.o 52 (.len false (.t 51)) (.o 53 (.bin .gtr (.t 52) (.i 30)) .nil)))) (.o 54 (.pick (.t 49) (.c (.bool true)) (.t 53)) .nil)))))))) (.cond (.t 54) (.seq (rf (.o 2 (.move (.c (.bool false))) .nil)) .ret) .skip)))) (rf (.o 34 (.m 4) (.o 35 (.bin .add (.t 34) (.i 1)) (.o 4 (.m 35) .nil))))))))))) (rf (.o 15 (.m 3) (.o 16 (.bin .add (.t 15) (.i 1)) (.o 3 (.m 16) .nil))))))))) (.seq (rf (.o 2 (.move (.c (.bool true))) .nil)) .ret)))), [.tmp 2]⟩
theorem b16 : fnOf Go.Proofs.Tryz.prog (owOf []) 16 = some c16 := by kernel_rfl
def c91 : RFn := ⟨(.seq (rf (.o 8 (.box (.t 3)) .nil)) (rf (.o 9 (.load none (.t 4)) (.o 10 (.fieldAddr 0 (.t 8)) (.o 11 (.load none (.t 10)) (.op none (.eprim .mapset [(.t 9), (.t 11), (.c (.bool true))]) 0 .nil)))))), []⟩
theorem b91 : fnOf Go.Proofs.Tryz.prog (owOf []) 91 = some c91 := by kernel_rfl
def c92 : RFn := ⟨(.seq (rf (.o 4 (.move (.i 0)) .nil)) (.seq (.seq (rf (.o 6 (.m 1) (.o 7 (.move (.i 0)) .nil))) (.block 0 (.loop (.seq (rf (.o 8 (.bin .lss (.t 7) (.t 6)) .nil)) (.seq (.cond (.t 8) .skip (.exit 0)) (.seq (.block 1 (.seq (rf (.o 9 (.m 7) (.o 5 (.m 9) .nil))) (.seq (rf (.o 10 (.m 0) (.o 11 (.m 5) (.o 12 (.prim .mapget [(.t 10), (.t 11)]) (.o 13 (.un .not (.t 12)) .nil))))) (.cond (.t 13) (.seq (rf (.o 14 (.m 5) (.o 4 (.m 14) .nil))) .ret) .skip)))) (rf (.o 15 (.bin .add (.t 7) (.i 1)) (.o 7 (.m 15) .nil))))))))) (.seq (rf (.o 4 (.move (.c (.int .i64 (-1)))) .nil)) .ret))), [.tmp 4]⟩
theorem b92 : fnOf Go.Proofs.Tryz.prog (owOf []) 92 = some c92 := by kernel_rfl
theorem few_many {p : List Fn} (h : (p.length : Int) > 10) : few p = false := by
  rw [few, decide_eq_true h]; rfl
theorem few_fun {p : List Fn} {k : Nat} (hk : k < p.length) (h : fewF (p.getD k F0) = false) : few p = false := by
  rw [few, all_no F0 hk h, Bool.and_false]
theorem fewF_many {f : Fn} (h : (f.bs.length : Int) > 20) : fewF f = false := by
  rw [fewF, decide_eq_true h]; rfl
theorem fewF_blk {f : Fn} {j : Nat} (hj : j < f.bs.length) (h : fewB (f.bs.getD j B0) = false) : fewF f = false := by
  rw [fewF, all_no B0 hj h, Bool.and_false]
theorem fewF_yes {f : Fn} (h : f.bs.length ≤ 20) (hj : ∀ j, j < f.bs.length → fewB (f.bs.getD j B0) = true) : fewF f = true := by
  rw [fewF, (all_getD B0).mpr hj, Bool.and_true, decide_eq_false (by omega)]; rfl
theorem few_yes {p : List Fn} (h : p.length ≤ 10) (hj : ∀ j, j < p.length → fewF (p.getD j F0) = true) : few p = true := by
  rw [few, (all_getD F0).mpr hj, Bool.and_true, decide_eq_false (by omega)]; rfl
section
variable {gl : Nat → Option PV}
theorem p_Few (p : List Fn) : Pure Go.Proofs.Tryz.prog gl 16 [pP p] (.bool (few p)) := by
  refine Pure.fn hmix b16 ?_
  repeat' first | (with_reducible first | refine tr_seq ?_ | refine n_nil ?_ | refine seqQ_normal ?_ | refine seqQ_exit ?_ | refine seqQ_ret ?_ | refine blkQ_normal ?_ | refine blkQ_exit ?_ | refine blkQ_ret ?_ | refine tr_block ?_ | refine tr_skip ?_ | refine tr_exit ?_ | refine tr_ret ?_ | refine loopV_exit ?_ | refine loopV_ret ?_) | ((with_reducible refine tr_region_f ?_ ?_); kernel_rfl) | exact ⟨rfl, rfl⟩ | ((with_reducible apply tr_cond_e); rfl) | ((with_reducible apply n_or); rfl; rfl; intro h) | ((with_reducible apply n_idx_vals F0); rfl; rfl; exact (fun _ => rfl); (((simp only [zz] at *; omega)))) | ((with_reducible apply n_idx_vals B0); rfl; rfl; exact (fun _ => rfl); (((simp only [zz] at *; omega)))) | ((((with_reducible apply n_bin); rfl; rfl; focus ((with_reducible (apply b_add)) <;> omega)))) | (refine tr_loop_v (α := Nat) 1 (fun | k => [(3, some (.int .i64 (k : Int))), (10, none), (11, none), (12, none), (13, none), (14, none), (17, none), (18, none), (19, none), (20, none), (21, none), (22, none), (23, none), (24, none), (2, none), (4, none), (25, none), (26, none), (27, none), (28, none), (29, none), (30, none), (31, none), (32, none), (33, none), (36, none), (37, none), (38, none), (39, none), (40, none), (41, none), (42, none), (43, none), (44, none), (5, none), (45, none), (46, none), (47, none), (48, none), (49, none), (50, none), (51, none), (52, none), (53, none), (54, none), (34, none), (35, none), (15, none), (16, none)]) (fun | k => [some ⟨0, 1, [pP p]⟩]) (fun | k => k ≤ p.length ∧ (∀ j, j < k → fewF (p.getD j F0) = true) ∧ p.length ≤ 10) (fun | k => p.length - k) (0) (ks := [3, 10, 11, 12, 13, 14, 17, 18, 19, 20, 21, 22, 23, 24, 2, 4, 25, 26, 27, 28, 29, 30, 31, 32, 33, 36, 37, 38, 39, 40, 41, 42, 43, 44, 5, 45, 46, 47, 48, 49, 50, 51, 52, 53, 54, 34, 35, 15, 16]) (fun _ => rfl) (fun _ => rfl) rfl (by omega) ?_ ⟨⟨_, rfl, rfl⟩, trivial⟩ ⟨⟨_, rfl, rfl, rfl, rfl⟩, trivial⟩ ?_; rotate_left; rintro k hx; try dsimp only at hx) | (((refine loopV_normal (k + 1) ?_ ⟨⟨_, rfl, rfl⟩, trivial⟩ ⟨⟨_, rfl, rfl, rfl, rfl⟩, trivial⟩ ?_ ?_)); repeat (first | exact only_refl | refine only_put rfl ?_)) | (refine tr_loop_v (α := Nat) 1 (fun | j => [(4, some (.int .i64 (j : Int))), (25, none), (26, none), (27, none), (28, none), (29, none), (30, none), (31, none), (32, none), (33, none), (36, none), (37, none), (38, none), (39, none), (40, none), (41, none), (42, none), (43, none), (44, none), (5, none), (45, none), (46, none), (47, none), (48, none), (49, none), (50, none), (51, none), (52, none), (53, none), (54, none), (2, none), (34, none), (35, none)]) (fun | j => [some ⟨0, 1, [pP p]⟩]) (fun | j => j ≤ (p.getD k F0).bs.length ∧ (∀ m, m < j → fewB ((p.getD k F0).bs.getD m B0) = true) ∧ (p.getD k F0).bs.length ≤ 20) (fun | j => (p.getD k F0).bs.length - j) (0) (ks := [4, 25, 26, 27, 28, 29, 30, 31, 32, 33, 36, 37, 38, 39, 40, 41, 42, 43, 44, 5, 45, 46, 47, 48, 49, 50, 51, 52, 53, 54, 2, 34, 35]) (fun _ => rfl) (fun _ => rfl) rfl (by omega) ?_ ⟨⟨_, rfl, rfl⟩, trivial⟩ ⟨⟨_, rfl, rfl, rfl, rfl⟩, trivial⟩ ?_; rotate_left; rintro j hx; try dsimp only at hx) | (((refine loopV_normal (j + 1) ?_ ⟨⟨_, rfl, rfl⟩, trivial⟩ ⟨⟨_, rfl, rfl, rfl, rfl⟩, trivial⟩ ?_ ?_)); repeat (first | exact only_refl | refine only_put rfl ?_ | refine only_less rfl ?_)) | ((with_reducible apply n_val); rfl; rfl) | ((with_reducible apply n_new); rfl; (((simp only [hn0, hn1, hn2, hn3, hn4, hn5, List.length_cons, List.length_nil, Nat.reduceAdd, Nat.zero_add]; rfl))); rfl) | ((with_reducible apply n_store); rfl; rfl; rfl; rfl; rfl) | (with_reducible refine condT_split (fun h => ?_) (fun h => ?_)) | ((with_reducible apply fnQ_ret_soft); rfl; rfl) | fail
  all_goals (try dsimp only at *)
  all_goals (try simp only [decide_eq_true_eq, decide_eq_false_iff_not, List.length_map, ints_length, Int.toNat_natCast] at *)
  · rw [few_many (by omega)]
  · rw [few_fun (k := k) (by omega) (fewF_many (by omega))]
  · rw [few_fun (k := k) (by omega) (fewF_blk (j := j) (by omega) (by rw [fewB, h]; rfl))]
  · omega
  · exact ⟨by omega, fun m hm => by
      rcases Nat.lt_succ_iff_lt_or_eq.mp hm with hm | rfl
      · exact hx.2.1 m hm
      · rw [fewB, h]; rfl, hx.2.2⟩
  · omega
  · rename_i hX _ _ _
    exact ⟨by omega, fun m hm => by
      rcases Nat.lt_succ_iff_lt_or_eq.mp hm with hm | rfl
      · exact hX.2.1 m hm
      · exact fewF_yes (by omega) fun q hq => hx.2.1 q (by omega), hX.2.2⟩
  · exact ⟨Nat.zero_le _, fun m hm => absurd hm (by omega), by omega⟩
  · rw [few_yes (by omega) fun q hq => hx.2.1 q (by omega)]
  · exact ⟨Nat.zero_le _, fun m hm => absurd hm (by omega), by omega⟩
theorem h_NewId1 (a b c : Int) (i : In) (es : List (Int × Bool)) : HSpec Go.Proofs.Tryz.prog gl 91 [.int .i64 a, .int .i64 b, .int .i64 c, pI i, .ptr 0 0 0 0] (Hp.ofL [some ⟨0, 1, [.mp 1]⟩, some ⟨0, 2, es.map pM⟩]) (fun r G => r = .tup [] ∧ G = Hp.ofL [some ⟨0, 1, [.mp 1]⟩, some ⟨0, 2, (upd es i.id true).map pM⟩]) := by
  refine HSpec.fnL (Nat.le_refl _) hmix b91 ?_
  change Tr _ _ 2 _ _ _ _
  repeat' first | (with_reducible first | refine tr_seq ?_ | refine n_nil ?_ | refine seqQ_normal ?_) | ((with_reducible refine tr_region_f ?_ ?_); kernel_rfl) | ((with_reducible apply n_mapset); rfl; rfl; rfl; rfl) | ((with_reducible apply n_val); rfl; rfl) | ((with_reducible apply n_new); rfl; (((simp only [hn0, hn1, hn2, hn3, hn4, hn5, List.length_cons, List.length_nil, Nat.reduceAdd, Nat.zero_add]; rfl))); rfl) | fail
  exact ⟨.tup [], rfl, rfl, ⟨_, rfl, rfl, rfl, rfl⟩, ⟨_, rfl, rfl, rfl, fzP_vals (fun _ => rfl) rfl⟩, trivial⟩
theorem h_least (es : List (Int × Bool)) (m : Nat) (hm : m ≤ 1000) : HSpec Go.Proofs.Tryz.prog gl 92 [.mp 0, .int .i64 (m : Int)] (Hp.ofL [some ⟨0, 2, es.map pM⟩]) (fun r G => r = .int .i64 (leastV es m) ∧ G = Hp.ofL [some ⟨0, 2, es.map pM⟩]) := by
  refine HSpec.fnL (Nat.le_refl _) hmix b92 ?_
  change Tr _ _ 1 _ _ _ _
  repeat' first | (with_reducible first | refine tr_seq ?_ | refine n_nil ?_ | refine seqQ_normal ?_ | refine seqQ_exit ?_ | refine seqQ_ret ?_ | refine blkQ_normal ?_ | refine blkQ_exit ?_ | refine blkQ_ret ?_ | refine tr_block ?_ | refine tr_skip ?_ | refine tr_exit ?_ | refine tr_ret ?_ | refine loopV_exit ?_ | refine loopV_ret ?_) | ((with_reducible refine tr_region_f ?_ ?_); kernel_rfl) | ((with_reducible apply tr_cond_e); rfl) | ((with_reducible apply n_mapget); rfl; rfl; rfl) | ((((with_reducible apply n_bin); rfl; rfl; focus ((with_reducible (apply b_add)) <;> omega)))) | (refine tr_loop_v (α := Nat) 1 (fun | k => [(7, some (.int .i64 (k : Int))), (8, none), (9, none), (5, none), (10, none), (11, none), (12, none), (13, none), (14, none), (4, none), (15, none)]) (fun | k => [some ⟨0, 2, es.map pM⟩]) (fun | k => k ≤ m ∧ ∀ j, j < k → look es ((j : Nat) : Int) = true) (fun | k => m - k) (0) (ks := [7, 8, 9, 5, 10, 11, 12, 13, 14, 4, 15]) (fun _ => rfl) (fun _ => rfl) rfl (by omega) ?_ ⟨⟨_, rfl, rfl⟩, trivial⟩ ⟨⟨_, rfl, rfl, rfl, (by exact fzP_vals (fun _ => rfl) rfl)⟩, trivial⟩ ?_; rotate_left; rintro k hx; try dsimp only at hx) | (((refine loopV_normal (k + 1) ?_ ⟨⟨_, rfl, rfl⟩, trivial⟩ ⟨⟨_, rfl, rfl, rfl, (by exact fzP_vals (fun _ => rfl) rfl)⟩, trivial⟩ ?_ ?_)); repeat (first | exact only_refl | refine only_put rfl ?_)) | ((with_reducible apply n_val); rfl; rfl) | (with_reducible refine condT_split (fun h => ?_) (fun h => ?_)) | ((with_reducible apply fnQ_told_ret); rfl) | fail
  all_goals (try dsimp only at *)
  all_goals (try simp only [decide_eq_true_eq, decide_eq_false_iff_not, Bool.not_eq_true', Bool.not_eq_false'] at *)
  · rw [least_at (by omega) h hx.2]; rfl
  · exact ⟨⟨_, rfl, rfl, rfl, fzP_vals (fun _ => rfl) rfl⟩, trivial⟩
  · omega
  · exact ⟨by omega, fun j hj => by
      rcases Nat.lt_succ_iff_lt_or_eq.mp hj with hj | rfl
      · exact hx.2 j hj
      · exact h⟩
  · rw [least_no fun j hj => hx.2 j (by omega)]; rfl
  · exact ⟨⟨_, rfl, rfl, rfl, fzP_vals (fun _ => rfl) rfl⟩, trivial⟩
  · exact ⟨Nat.zero_le _, fun j hj => absurd hj (by omega)⟩
end
def c44 : RFn := ⟨(.seq (rf (.o 1 (.box (.t 0)) (.o 2 (.move (.i 0)) .nil))) (.seq (.seq (rf (.o 4 (.load (some 1) (.t 1)) (.o 5 (.call 17 [(.t 4)]) (.o 6 (.un .not (.t 5)) .nil)))) (.cond (.t 6) (.seq (rf (.o 2 (.move (.c (.int .i64 (-1)))) .nil)) .ret) .skip)) (.seq (rf (.o 7 (.eprim .mkmap []) (.o 3 (.alloc .nilm) (.op none (.store 1 (.t 3) (.t 7)) 0 .nil)))) (.seq (rf (.o 8 (.load (some 1) (.t 1)) (.o 9 (.mkfunc 91 [(.t 3)]) (.o 10 (.call 90 [(.t 8), (.t 9)]) .nil)))) (.seq (rf (.o 11 (.load none (.t 3)) (.o 12 (.call 92 [(.t 11), (.i 96)]) (.o 2 (.m 12) .nil)))) .ret))))), [.tmp 2]⟩
theorem b44 : fnOf Go.Proofs.Tryz.prog (owOf []) 44 = some c44 := by kernel_rfl
def c86 : RFn := ⟨(.seq (rf (.o 2 (.box (.t 0)) (.o 4 (.move (.i 0)) .nil))) (.seq (rf (.o 11 (.load (some 1) (.t 2)) (.o 12 (.m 1) (.o 13 (.call 88 [(.t 11), (.t 12)]) (.o 10 (.m 13) (.o 14 (.extract 0 (.t 10)) (.o 15 (.extract 1 (.t 10)) (.o 5 (.alloc (.agg [(.int .i64 0), (.int .i64 0), (.lit [])])) (.op none (.store 3 (.t 5) (.t 14)) 0 (.o 6 (.m 15) .nil)))))))))) (.seq (.seq (rf (.o 16 (.m 6) (.o 17 (.un .not (.t 16)) .nil))) (.cond (.t 17) (.seq (rf (.o 4 (.move (.c (.int .i64 (-1)))) .nil)) .ret) .skip)) (.seq (rf (.o 18 (.eprim .mkmap []) (.o 7 (.m 18) .nil))) (.seq (.seq (rf (.o 19 (.fieldAddr 2 (.t 5)) (.o 20 (.load none (.t 19)) (.o 21 (.len false (.t 20)) (.o 22 (.move (.i 0)) .nil))))) (.block 0 (.loop (.seq (rf (.o 23 (.bin .lss (.t 22) (.t 21)) .nil)) (.seq (.cond (.t 23) .skip (.exit 0)) (.seq (.block 1 (.seq (rf (.o 24 (.m 22) (.o 25 (.idxAddr 3 (.t 20) (.t 22)) (.o 26 (.load (some 3) (.t 25)) (.o 9 (.alloc (.agg [(.bool false), (.lit []), (.lit [])])) (.o 8 (.m 24) (.op none (.store 3 (.t 9) (.t 26)) 0 .nil))))))) (rf (.o 27 (.m 7) (.o 28 (.m 8) (.o 29 (.fieldAddr 0 (.t 9)) (.o 30 (.load none (.t 29)) (.op none (.eprim .mapset [(.t 27), (.t 28), (.t 30)]) 0 .nil)))))))) (rf (.o 31 (.bin .add (.t 22) (.i 1)) (.o 22 (.m 31) .nil))))))))) (.seq (rf (.o 32 (.m 7) (.o 33 (.call 92 [(.t 32), (.i 12)]) (.o 4 (.m 33) .nil)))) .ret)))))), [.tmp 4]⟩
theorem b86 : fnOf Go.Proofs.Tryz.prog (owOf []) 86 = some c86 := by kernel_rfl
def c90 : RFn := ⟨(.seq (rf (.o 2 (.box (.t 0)) .nil)) (.seq (rf (.o 10 (.fieldAddr 0 (.t 2)) (.o 11 (.load none (.t 10)) (.o 12 (.len false (.t 11)) (.o 13 (.move (.i 0)) .nil))))) (.block 0 (.loop (.seq (rf (.o 14 (.bin .lss (.t 13) (.t 12)) .nil)) (.seq (.cond (.t 14) .skip (.exit 0)) (.seq (.block 1 (.seq (rf (.o 15 (.m 13) (.o 16 (.idxAddr 3 (.t 11) (.t 13)) (.o 17 (.load (some 3) (.t 16)) (.o 5 (.alloc (.agg [(.int .i64 0), (.int .i64 0), (.lit [])])) (.o 4 (.m 15) (.op none (.store 3 (.t 5) (.t 17)) 0 .nil))))))) (.seq (rf (.o 18 (.fieldAddr 2 (.t 5)) (.o 19 (.load none (.t 18)) (.o 20 (.len false (.t 19)) (.o 21 (.move (.i 0)) .nil))))) (.block 2 (.loop (.seq (rf (.o 22 (.bin .lss (.t 21) (.t 20)) .nil)) (.seq (.cond (.t 22) .skip (.exit 2)) (.seq (.block 3 (.seq (rf (.o 23 (.m 21) (.o 24 (.idxAddr 3 (.t 19) (.t 21)) (.o 25 (.load (some 3) (.t 24)) (.o 7 (.alloc (.agg [(.bool false), (.lit []), (.lit [])])) (.o 6 (.m 23) (.op none (.store 3 (.t 7) (.t 25)) 0 .nil))))))) (.seq (rf (.o 26 (.fieldAddr 1 (.t 7)) (.o 27 (.load none (.t 26)) (.o 28 (.len false (.t 27)) (.o 29 (.move (.i 0)) .nil))))) (.block 4 (.loop (.seq (rf (.o 30 (.bin .lss (.t 29) (.t 28)) .nil)) (.seq (.cond (.t 30) .skip (.exit 4)) (.seq (.block 5 (.seq (rf (.o 31 (.m 29) (.o 32 (.idxAddr 11 (.t 27) (.t 29)) (.o 33 (.load (some 11) (.t 32)) (.o 9 (.alloc (.agg [(.int .i64 0), (.int .i64 0), (.int .i64 0), (.int .i64 0), (.int .i64 0), (.int .i64 0), (.int .i64 0), (.int .i64 0), (.int .i64 0), (.int .i64 0), (.int .i64 0)])) (.o 8 (.m 31) (.op none (.store 11 (.t 9) (.t 33)) 0 .nil))))))) (rf (.o 34 (.m 1) (.o 35 (.m 4) (.o 36 (.m 6) (.o 37 (.m 8) (.o 38 (.load (some 11) (.t 9)) (.o 39 (.callv (.t 34) [(.t 35), (.t 36), (.t 37), (.t 38)]) .nil))))))))) (rf (.o 40 (.bin .add (.t 29) (.i 1)) (.o 29 (.m 40) .nil))))))))))) (rf (.o 41 (.bin .add (.t 21) (.i 1)) (.o 21 (.m 41) .nil))))))))))) (rf (.o 42 (.bin .add (.t 13) (.i 1)) (.o 13 (.m 42) .nil)))))))))), []⟩
theorem b90 : fnOf Go.Proofs.Tryz.prog (owOf []) 90 = some c90 := by kernel_rfl
section
variable {gl : Nat → Option PV}
theorem h_each (p : List Fn) (es : List (Int × Bool)) (hp : Fit p) : HSpec Go.Proofs.Tryz.prog gl 90 [pP p, .fn 91 [.ptr 0 0 0 0]] (Hp.ofL [some ⟨0, 1, [.mp 1]⟩, some ⟨0, 2, es.map pM⟩]) (fun r G => r = .tup [] ∧ G = Hp.ofL [some ⟨0, 1, [.mp 1]⟩, some ⟨0, 2, (entF es (pre1 p p.length)).map pM⟩]) := by
  have hb : ∀ k, k < p.length → (p.getD k F0).bs.length ≤ 1000 := fun k hk => hp.bs _ (getD_mem F0 hk)
  have hc : ∀ k, k < p.length → ∀ j, j < (p.getD k F0).bs.length → ((p.getD k F0).bs.getD j B0).code.length ≤ 1000 := fun k hk j hj => hp.code _ (getD_mem F0 hk) _ (getD_mem B0 hj)
  have hl := hp.funs
  refine HSpec.fnL (Nat.le_refl _) hmix b90 ?_
  change Tr _ _ 2 _ _ _ _
  repeat' first | (with_reducible first | refine tr_seq ?_ | refine n_nil ?_ | refine seqQ_normal ?_ | refine seqQ_exit ?_ | refine blkQ_normal ?_ | refine blkQ_exit ?_ | refine tr_block ?_ | refine tr_skip ?_ | refine tr_exit ?_ | refine loopV_exit ?_) | ((with_reducible refine tr_region_f ?_ ?_); kernel_rfl) | ((with_reducible apply tr_cond_e); rfl) | ((with_reducible apply n_idx_vals F0); rfl; rfl; exact (fun _ => rfl); (((simp only [zz] at *; omega)))) | ((with_reducible apply n_idx_vals B0); rfl; rfl; exact (fun _ => rfl); (((simp only [zz] at *; omega)))) | ((with_reducible apply n_idx_vals i0); rfl; rfl; exact (fun _ => rfl); (((simp only [zz] at *; omega)))) | ((((with_reducible apply n_bin); rfl; rfl; focus ((with_reducible (apply b_add)) <;> omega)))) | (refine tr_loop_v (α := Nat) 3 (fun | k => [(13, some (.int .i64 (k : Int))), (14, none), (15, none), (16, none), (17, none), (5, none), (4, none), (18, none), (19, none), (20, none), (21, none), (22, none), (23, none), (24, none), (25, none), (7, none), (6, none), (26, none), (27, none), (28, none), (29, none), (30, none), (31, none), (32, none), (33, none), (9, none), (8, none), (34, none), (35, none), (36, none), (37, none), (38, none), (39, none), (40, none), (41, none), (42, none)]) (fun | k => [some ⟨0, 1, [.mp 1]⟩, some ⟨0, 2, (entF es (pre1 p k)).map pM⟩, some ⟨0, 1, [pP p]⟩]) (fun | k => k ≤ p.length) (fun | k => p.length - k) (0) (ks := [13, 14, 15, 16, 17, 5, 4, 18, 19, 20, 21, 22, 23, 24, 25, 7, 6, 26, 27, 28, 29, 30, 31, 32, 33, 9, 8, 34, 35, 36, 37, 38, 39, 40, 41, 42]) (fun _ => rfl) (fun _ => rfl) rfl (by omega) ?_ ⟨⟨_, rfl, rfl⟩, trivial⟩ ⟨⟨_, rfl, rfl, rfl, rfl⟩, ⟨_, rfl, rfl, rfl, (by exact fzP_vals (fun _ => rfl) rfl)⟩, ⟨_, rfl, rfl, rfl, rfl⟩, trivial⟩ ?_; rotate_left; rintro k hx; try dsimp only at hx) | ((((refine loopV_normal (k + 1) ?_ ⟨⟨_, rfl, rfl⟩, trivial⟩ ⟨⟨_, rfl, rfl, rfl, rfl⟩, ⟨_, rfl, rfl, rfl, (by (exact fzP_vals (fun _ => rfl) (entF_1 (by ((simp only [zz] at *; omega))) (by ((simp only [zz] at *; omega))) (by omega))))⟩, ⟨_, rfl, rfl, rfl, rfl⟩, trivial⟩ ?_ ?_))); repeat (first | exact only_refl | refine only_put rfl ?_)) | (refine tr_loop_v (α := Nat) 4 (fun | j => [(21, some (.int .i64 (j : Int))), (22, none), (23, none), (24, none), (25, none), (7, none), (6, none), (26, none), (27, none), (28, none), (29, none), (30, none), (31, none), (32, none), (33, none), (9, none), (8, none), (34, none), (35, none), (36, none), (37, none), (38, none), (39, none), (40, none), (41, none)]) (fun | j => [some ⟨0, 1, [.mp 1]⟩, some ⟨0, 2, (entF es (pre2 p k j)).map pM⟩, some ⟨0, 1, [pP p]⟩, some ⟨0, 3, [pF (p.getD k F0)]⟩]) (fun | j => j ≤ (p.getD k F0).bs.length ∧ (p.getD k F0).bs.length ≤ 1000) (fun | j => (p.getD k F0).bs.length - j) (0) (ks := [21, 22, 23, 24, 25, 7, 6, 26, 27, 28, 29, 30, 31, 32, 33, 9, 8, 34, 35, 36, 37, 38, 39, 40, 41]) (fun _ => rfl) (fun _ => rfl) rfl (by omega) ?_ ⟨⟨_, rfl, rfl⟩, trivial⟩ ⟨⟨_, rfl, rfl, rfl, rfl⟩, ⟨_, rfl, rfl, rfl, (by exact fzP_vals (fun _ => rfl) (congrArg (entF es) (pre2_z p k).symm))⟩, ⟨_, rfl, rfl, rfl, rfl⟩, ⟨_, rfl, rfl, rfl, rfl⟩, trivial⟩ ?_; rotate_left; rintro j hx; try dsimp only at hx) | ((((refine loopV_normal (j + 1) ?_ ⟨⟨_, rfl, rfl⟩, trivial⟩ ⟨⟨_, rfl, rfl, rfl, rfl⟩, ⟨_, rfl, rfl, rfl, (by (exact fzP_vals (fun _ => rfl) (entF_2 (by ((simp only [zz] at *; omega))) (by ((simp only [zz] at *; omega))) (by omega))))⟩, ⟨_, rfl, rfl, rfl, rfl⟩, ⟨_, rfl, rfl, rfl, rfl⟩, trivial⟩ ?_ ?_))); repeat (first | exact only_refl | refine only_put rfl ?_)) | (refine tr_loop_v (α := Nat) 5 (fun | i => [(29, some (.int .i64 (i : Int))), (30, none), (31, none), (32, none), (33, none), (9, none), (8, none), (34, none), (35, none), (36, none), (37, none), (38, none), (39, none), (40, none)]) (fun | i => [some ⟨0, 1, [.mp 1]⟩, some ⟨0, 2, (entF es (pre3 p k j i)).map pM⟩, some ⟨0, 1, [pP p]⟩, some ⟨0, 3, [pF (p.getD k F0)]⟩, some ⟨0, 3, [pB ((p.getD k F0).bs.getD j B0)]⟩]) (fun | i => i ≤ ((p.getD k F0).bs.getD j B0).code.length ∧ ((p.getD k F0).bs.getD j B0).code.length ≤ 1000) (fun | i => ((p.getD k F0).bs.getD j B0).code.length - i) (0) (ks := [29, 30, 31, 32, 33, 9, 8, 34, 35, 36, 37, 38, 39, 40]) (fun _ => rfl) (fun _ => rfl) rfl (by omega) ?_ ⟨⟨_, rfl, rfl⟩, trivial⟩ ⟨⟨_, rfl, rfl, rfl, rfl⟩, ⟨_, rfl, rfl, rfl, (by exact fzP_vals (fun _ => rfl) (congrArg (entF es) (pre3_z p k j).symm))⟩, ⟨_, rfl, rfl, rfl, rfl⟩, ⟨_, rfl, rfl, rfl, rfl⟩, ⟨_, rfl, rfl, rfl, rfl⟩, trivial⟩ ?_; rotate_left; rintro i hx; try dsimp only at hx) | ((((refine loopV_normal (i + 1) ?_ ⟨⟨_, rfl, rfl⟩, trivial⟩ ⟨⟨_, rfl, rfl, rfl, rfl⟩, ⟨_, rfl, rfl, rfl, (by (exact fzP_vals (fun _ => rfl) (entF_3 (by ((simp only [zz] at *; omega))))))⟩, ⟨_, rfl, rfl, rfl, rfl⟩, ⟨_, rfl, rfl, rfl, rfl⟩, ⟨_, rfl, rfl, rfl, rfl⟩, trivial⟩ ?_ ?_))); repeat (first | exact only_refl | refine only_put rfl ?_)) | ((with_reducible apply n_val); rfl; rfl) | ((with_reducible apply n_new); rfl; (((simp only [hn0, hn1, hn2, hn3, hn4, hn5, hn6, List.length_cons, List.length_nil, Nat.reduceAdd, Nat.reduceSub, Nat.zero_add, Nat.add_zero]; rfl))); rfl) | ((with_reducible apply n_store); rfl; rfl; rfl; rfl; rfl) | ((with_reducible apply n_frameLv (f := 91) [0, 1]); (((simp only [hn0, hn1, hn2, hn3, hn4, hn5, hn6, List.length_cons, List.length_nil, Nat.reduceAdd, Nat.reduceSub, Nat.zero_add, Nat.add_zero]; rfl))); rfl; rfl; exact h_NewId1 (k : Int) (j : Int) (i : Int) (((p.getD k F0).bs.getD j B0).code.getD i i0) (entF es (pre3 p k j i)); rfl; rfl; rfl; decide; decide; (repeat (first | exact trivial | (refine ⟨⟨_, rfl, rfl, rfl, ?_, ?_⟩, ?_⟩; (first | rfl | exact (renL_pure (vals_pure (fun _ => rfl) _)).symm); (first | rfl | exact vals_under (fun _ => rfl) _)))); rfl; (repeat (first | exact RenL.nil | (apply RenL.some; (first | exact renL_pure (vals_pure (fun _ => rfl) _) | rfl))))) | (with_reducible refine condT_split (fun h => ?_) (fun h => ?_)) | fail
  all_goals (try dsimp only at *)
  all_goals (try simp only [decide_eq_true_eq, decide_eq_false_iff_not, List.length_map, Int.toNat_natCast] at *)
  · omega
  · omega
  · omega
  · omega
  · exact ⟨by omega, hc k (by omega) j (by omega)⟩
  · omega
  · omega
  · exact ⟨Nat.zero_le _, hb k (by omega)⟩
  · obtain rfl : k = p.length := by omega
    exact ⟨.tup [], rfl, rfl, ⟨_, rfl, rfl, rfl, rfl⟩, ⟨_, rfl, rfl, rfl, fzP_vals (fun _ => rfl) rfl⟩, trivial⟩
  · omega
end
theorem p_NewId (p : List Fn) (hp : Fit p) : Pure Go.Proofs.Tryz.prog glD 44 [pP p] (.int .i64 (newIdV p)) := by
  have hs := p_Sane p hp
  refine Pure.fn hmix b44 ?_
  repeat' first | (with_reducible first | refine tr_seq ?_ | refine n_nil ?_ | refine seqQ_normal ?_ | refine seqQ_ret ?_ | refine tr_skip ?_ | refine tr_ret ?_) | ((with_reducible refine tr_region_f ?_ ?_); kernel_rfl) | ((with_reducible apply tr_cond_e); rfl) | ((with_reducible apply n_call (f := 17)); rfl; rfl; exact hs) | ((with_reducible apply n_mkmap); (((simp only [hn0, hn1, hn2, hn3, hn4, hn5, hn6, List.length_cons, List.length_nil, Nat.reduceAdd, Nat.reduceSub, Nat.zero_add, Nat.add_zero]; rfl)))) | ((with_reducible apply n_val); rfl; rfl) | ((with_reducible apply n_new); rfl; (((simp only [hn0, hn1, hn2, hn3, hn4, hn5, hn6, List.length_cons, List.length_nil, Nat.reduceAdd, Nat.reduceSub, Nat.zero_add, Nat.add_zero]; rfl))); rfl) | ((with_reducible apply n_store); rfl; rfl; rfl; rfl; rfl) | ((with_reducible apply n_frameL (f := 90) [2, 1]); (((simp only [hn0, hn1, hn2, hn3, hn4, hn5, hn6, List.length_cons, List.length_nil, Nat.reduceAdd, Nat.reduceSub, Nat.zero_add, Nat.add_zero]; rfl))); rfl; exact h_each p ([] : List (Int × Bool)) hp; rfl; rfl; rfl; decide; decide; (repeat (first | exact trivial | (refine ⟨⟨_, rfl, rfl, rfl, ?_, ?_⟩, ?_⟩; (rfl); (rfl)))); rfl; (repeat (first | exact RenL.nil | (apply RenL.some; (first | exact renL_pure (vals_pure (fun _ => rfl) _) | rfl))))) | ((with_reducible apply n_frameL (f := 92) [1]); (((simp only [hn0, hn1, hn2, hn3, hn4, hn5, hn6, List.length_cons, List.length_nil, Nat.reduceAdd, Nat.reduceSub, Nat.zero_add, Nat.add_zero]; rfl))); rfl; exact h_least (entF [] (pre1 p p.length)) 96 (by decide); rfl; rfl; rfl; decide; decide; (repeat (first | exact trivial | (refine ⟨⟨_, rfl, rfl, rfl, ?_, ?_⟩, ?_⟩; (exact (renL_pure (vals_pure (fun _ => rfl) _)).symm); (exact vals_under (fun _ => rfl) _)))); rfl; (repeat (first | exact RenL.nil | (apply RenL.some; (exact renL_pure (vals_pure (fun _ => rfl) _)))))) | (with_reducible refine condT_split (fun h => ?_) (fun h => ?_)) | ((with_reducible apply fnQ_ret_soft); rfl; rfl) | fail
  all_goals (try dsimp only at *)
  · rw [newIdV, if_neg (by simpa using h)]
  · rw [newIdV, if_pos (by simpa using h), pre1_all]; rfl
theorem p_NewBlock (p : List Fn) (f : Int) (hp : Fit p) : Pure Go.Proofs.Tryz.prog glD 86 [pP p, .int .i64 f] (.int .i64 (newBlockV p f)) := by
  have hf : Pure Go.Proofs.Tryz.prog glD 88 [pP p, .int .i64 f] (.tup [pF ((funV p f).getD F0), .bool (funV p f).isSome]) := p_Fun p f hp
  have hfit : ((funV p f).getD F0).bs.length ≤ 1000 := by
    unfold funV
    split
    · rename_i h
      exact hp.bs _ (getD_mem F0 (by omega))
    · exact Nat.zero_le _
  unfold newBlockV
  generalize (funV p f).getD F0 = g at *
  generalize (funV p f).isSome = o at *
  refine Pure.fn hmix b86 ?_
  repeat' first | (with_reducible first | refine tr_seq ?_ | refine n_nil ?_ | refine seqQ_normal ?_ | refine seqQ_exit ?_ | refine seqQ_ret ?_ | refine blkQ_normal ?_ | refine blkQ_exit ?_ | refine tr_block ?_ | refine tr_skip ?_ | refine tr_exit ?_ | refine tr_ret ?_ | refine loopV_exit ?_) | ((with_reducible refine tr_region_f ?_ ?_); kernel_rfl) | ((with_reducible apply tr_cond_e); rfl) | ((with_reducible apply n_call (f := 88)); rfl; rfl; exact hf) | ((with_reducible apply n_mkmap); (((simp only [hn0, hn1, hn2, hn3, hn4, hn5, hn6, List.length_cons, List.length_nil, Nat.reduceAdd, Nat.reduceSub, Nat.zero_add, Nat.add_zero]; rfl)))) | ((with_reducible apply n_mapset); rfl; rfl; rfl; rfl) | ((with_reducible apply n_idx_vals B0); rfl; rfl; exact (fun _ => rfl); (((simp only [zz] at *; omega)))) | ((((with_reducible apply n_bin); rfl; rfl; focus ((with_reducible (apply b_add)) <;> omega)))) | (refine tr_loop_v (α := Nat) 3 (fun | k => [(22, some (.int .i64 (k : Int))), (23, none), (24, none), (25, none), (26, none), (9, none), (8, none), (27, none), (28, none), (29, none), (30, none), (31, none)]) (fun | k => [some ⟨0, 1, [pP p]⟩, some ⟨0, 3, [pF g]⟩, some ⟨0, 2, (entG g k).map pM⟩]) (fun | k => k ≤ g.bs.length) (fun | k => g.bs.length - k) (0) (ks := [22, 23, 24, 25, 26, 9, 8, 27, 28, 29, 30, 31]) (fun _ => rfl) (fun _ => rfl) rfl (by omega) ?_ ⟨⟨_, rfl, rfl⟩, trivial⟩ ⟨⟨_, rfl, rfl, rfl, rfl⟩, ⟨_, rfl, rfl, rfl, rfl⟩, ⟨_, rfl, rfl, rfl, (by exact fzP_vals (fun _ => rfl) rfl)⟩, trivial⟩ ?_; rotate_left; rintro k hx; try dsimp only at hx) | (((refine loopV_normal (k + 1) ?_ ⟨⟨_, rfl, rfl⟩, trivial⟩ ⟨⟨_, rfl, rfl, rfl, rfl⟩, ⟨_, rfl, rfl, rfl, rfl⟩, ⟨_, rfl, rfl, rfl, (by exact fzP_vals (fun _ => rfl) (entG_s g _))⟩, trivial⟩ ?_ ?_)); repeat (first | exact only_refl | refine only_put rfl ?_)) | ((with_reducible apply n_val); rfl; rfl) | ((with_reducible apply n_new); rfl; (((simp only [hn0, hn1, hn2, hn3, hn4, hn5, hn6, List.length_cons, List.length_nil, Nat.reduceAdd, Nat.reduceSub, Nat.zero_add, Nat.add_zero]; rfl))); rfl) | ((with_reducible apply n_store); rfl; rfl; rfl; rfl; rfl) | ((with_reducible apply n_frameL (f := 92) [2]); (((simp only [hn0, hn1, hn2, hn3, hn4, hn5, hn6, List.length_cons, List.length_nil, Nat.reduceAdd, Nat.reduceSub, Nat.zero_add, Nat.add_zero]; rfl))); rfl; exact h_least (entG g k) 12 (by decide); rfl; rfl; rfl; decide; decide; (repeat (first | exact trivial | (refine ⟨⟨_, rfl, rfl, rfl, ?_, ?_⟩, ?_⟩; (exact (renL_pure (vals_pure (fun _ => rfl) _)).symm); (exact vals_under (fun _ => rfl) _)))); rfl; (repeat (first | exact RenL.nil | (apply RenL.some; (exact renL_pure (vals_pure (fun _ => rfl) _)))))) | (with_reducible refine condT_split (fun h => ?_) (fun h => ?_)) | ((with_reducible apply fnQ_ret_soft); rfl; rfl) | fail
  all_goals (try dsimp only at *)
  all_goals (try simp only [decide_eq_true_eq, decide_eq_false_iff_not, List.length_map, Int.toNat_natCast] at *)
  · rw [if_neg (by simpa using h)]
  · omega
  · omega
  · obtain rfl : k = g.bs.length := by omega
    rename_i ho
    rw [if_pos (by simpa using ho)]; rfl
  · omega
theorem blk_some {p : List Fn} {f b : Int} {x : Fn} (h : funV p f = some x) : (blkV p f b).isSome = liveF x b := by
  rw [blkV, h, Option.getD_some]
  cases liveF x b <;> rfl
section
variable {gl : Nat → Option PV}
end
section
variable {gl : Nat → Option PV}
end
section
variable {gl : Nat → Option PV}
theorem few_fun2 {p : List Fn} (h : few p = true) (f : Int) : ((funV p f).getD F0).bs.length ≤ 20 ∧ ∀ j, (((funV p f).getD F0).bs.getD j B0).code.length ≤ 30 ∧ (((funV p f).getD F0).bs.getD j B0).succ.length ≤ 30 := by
  unfold funV
  split
  · exact few_at h f.toNat
  · exact ⟨Nat.zero_le _, fun j => ⟨Nat.zero_le _, Nat.zero_le _⟩⟩
end
def c40 : RFn := ⟨(.seq (rf (.o 1 (.box (.t 0)) (.o 2 (.move (.i 0)) (.o 3 (.move (.i 0)) (.o 4 (.move (.i 0)) .nil))))) (.seq (.seq (rf (.o 11 (.load (some 1) (.t 1)) (.o 12 (.call 17 [(.t 11)]) (.o 13 (.un .not (.t 12)) .nil)))) (.cond (.t 13) (.seq (rf (.o 2 (.move (.i 0)) (.o 3 (.move (.i 0)) (.o 4 (.move (.i 0)) .nil)))) .ret) .skip)) (.seq (rf (.o 5 (.move (.i 0)) (.o 6 (.move (.i 0)) .nil))) (.seq (.seq (rf (.o 14 (.fieldAddr 0 (.t 1)) (.o 15 (.load none (.t 14)) (.o 16 (.len false (.t 15)) (.o 17 (.move (.i 0)) .nil))))) (.block 0 (.loop (.seq (rf (.o 18 (.bin .lss (.t 17) (.t 16)) .nil)) (.seq (.cond (.t 18) .skip (.exit 0)) (.seq (.block 1 (.seq (rf (.o 19 (.idxAddr 3 (.t 15) (.t 17)) (.o 20 (.load (some 3) (.t 19)) (.o 8 (.alloc (.agg [(.int .i64 0), (.int .i64 0), (.lit [])])) (.op none (.store 3 (.t 8) (.t 20)) 0 .nil))))) (.seq (rf (.o 21 (.fieldAddr 2 (.t 8)) (.o 22 (.load none (.t 21)) (.o 23 (.len false (.t 22)) (.o 24 (.move (.i 0)) .nil))))) (.block 2 (.loop (.seq (rf (.o 25 (.bin .lss (.t 24) (.t 23)) .nil)) (.seq (.cond (.t 25) .skip (.exit 2)) (.seq (.block 3 (.seq (rf (.o 26 (.idxAddr 3 (.t 22) (.t 24)) (.o 27 (.load (some 3) (.t 26)) (.o 10 (.alloc (.agg [(.bool false), (.lit []), (.lit [])])) (.op none (.store 3 (.t 10) (.t 27)) 0 .nil))))) (.seq (.seq (rf (.o 28 (.fieldAddr 0 (.t 10)) (.o 29 (.load none (.t 28)) .nil))) (.cond (.t 29) (rf (.o 30 (.m 5) (.o 31 (.bin .add (.t 30) (.i 1)) (.o 5 (.m 31) .nil)))) .skip)) (rf (.o 32 (.m 6) (.o 33 (.fieldAddr 1 (.t 10)) (.o 34 (.load none (.t 33)) (.o 35 (.len false (.t 34)) (.o 36 (.bin .add (.t 32) (.t 35)) (.o 6 (.m 36) .nil)))))))))) (rf (.o 37 (.bin .add (.t 24) (.i 1)) (.o 24 (.m 37) .nil))))))))))) (rf (.o 38 (.bin .add (.t 17) (.i 1)) (.o 17 (.m 38) .nil))))))))) (.seq (rf (.o 39 (.fieldAddr 0 (.t 1)) (.o 40 (.load none (.t 39)) (.o 41 (.len false (.t 40)) (.o 42 (.m 5) (.o 43 (.m 6) (.o 2 (.m 41) (.o 3 (.m 42) (.o 4 (.m 43) .nil))))))))) .ret))))), [.tmp 2, .tmp 3, .tmp 4]⟩
theorem b40 : fnOf Go.Proofs.Tryz.prog (owOf []) 40 = some c40 := by kernel_rfl
section
variable {gl : Nat → Option PV}
end
theorem p_Count (p : List Fn) (hf : few p = true) : Pure Go.Proofs.Tryz.prog glD 40 [pP p] (.tup [.int .i64 (countV p).1, .int .i64 (countV p).2.1, .int .i64 (countV p).2.2]) := by
  have hs := p_Sane p (few_fit hf)
  have hl := (few_bs hf).1
  have hb := fun k => (few_at hf k).1
  have hc := fun k j => ((few_at hf k).2 j).1
  have hn := fun k => nlB_le (p.getD k F0).bs
  have h3 : ∀ k, k < p.length → ∀ j, (alT2 p k j).length ≤ 7000 := fun k hk j => alT2_le hf hk j
  refine Pure.fn hmix b40 ?_
  repeat' first | (with_reducible first | refine tr_seq ?_ | refine n_nil ?_ | refine seqQ_normal ?_ | refine seqQ_exit ?_ | refine seqQ_ret ?_ | refine blkQ_normal ?_ | refine blkQ_exit ?_ | refine tr_block ?_ | refine tr_skip ?_ | refine tr_exit ?_ | refine tr_ret ?_ | refine loopV_exit ?_) | ((with_reducible refine tr_region_f ?_ ?_); kernel_rfl) | ((with_reducible apply tr_cond_e); rfl) | ((with_reducible apply n_call (f := 17)); rfl; rfl; exact hs) | ((with_reducible apply n_idx_vals F0); rfl; rfl; exact (fun _ => rfl); (((simp only [zz] at *; omega)))) | ((with_reducible apply n_idx_vals B0); rfl; rfl; exact (fun _ => rfl); (((simp only [zz] at *; omega)))) | ((((with_reducible apply n_bin); rfl; rfl; focus ((with_reducible (apply b_add)) <;> first | omega | (simp only [zz] at *; omega))))) | (refine tr_loop_v (α := Nat × Int × Int) 1 (fun | (k, n, c) => [(5, some (.int .i64 n)), (6, some (.int .i64 c)), (17, some (.int .i64 (k : Int))), (18, none), (19, none), (20, none), (8, none), (21, none), (22, none), (23, none), (24, none), (25, none), (26, none), (27, none), (10, none), (28, none), (29, none), (30, none), (31, none), (32, none), (33, none), (34, none), (35, none), (36, none), (37, none), (38, none)]) (fun | (k, n, c) => [some ⟨0, 1, [pP p]⟩]) (fun | (k, n, c) => k ≤ p.length ∧ n = (nlF p k : Nat) ∧ nlF p k ≤ k * 20 ∧ c = ((alT1 p k).length : Nat)) (fun | (k, n, c) => p.length - k) ((0, 0, 0)) (ks := [5, 6, 17, 18, 19, 20, 8, 21, 22, 23, 24, 25, 26, 27, 10, 28, 29, 30, 31, 32, 33, 34, 35, 36, 37, 38]) (fun _ => rfl) (fun _ => rfl) rfl (by omega) ?_ ⟨⟨_, rfl, rfl⟩, ⟨_, rfl, rfl⟩, ⟨_, rfl, rfl⟩, trivial⟩ ⟨⟨_, rfl, rfl, rfl, rfl⟩, trivial⟩ ?_; rotate_left; rintro ⟨k, n, c⟩ hx; try dsimp only at hx) | (((refine loopV_normal ((k + 1, m, d)) ?_ ⟨⟨_, rfl, rfl⟩, ⟨_, rfl, rfl⟩, ⟨_, rfl, rfl⟩, trivial⟩ ⟨⟨_, rfl, rfl, rfl, rfl⟩, trivial⟩ ?_ ?_)); repeat (first | exact only_refl | refine only_put rfl ?_)) | (refine tr_loop_v (α := Nat × Int × Int) 2 (fun | (j, m, d) => [(5, some (.int .i64 m)), (6, some (.int .i64 d)), (24, some (.int .i64 (j : Int))), (25, none), (26, none), (27, none), (10, none), (28, none), (29, none), (30, none), (31, none), (32, none), (33, none), (34, none), (35, none), (36, none), (37, none)]) (fun | (j, m, d) => [some ⟨0, 1, [pP p]⟩, some ⟨0, 3, [pF (p.getD k F0)]⟩]) (fun | (j, m, d) => j ≤ (p.getD k F0).bs.length ∧ m = n + (nlB (p.getD k F0).bs j : Nat) ∧ (p.getD k F0).bs.length ≤ 20 ∧ nlB (p.getD k F0).bs j ≤ j ∧ 0 ≤ n ∧ n ≤ 1000 ∧ d = ((alT2 p k j).length : Nat) ∧ (alT2 p k j).length ≤ 7000 ∧ ((p.getD k F0).bs.getD j B0).code.length ≤ 30) (fun | (j, m, d) => (p.getD k F0).bs.length - j) ((0, n, c)) (ks := [5, 6, 24, 25, 26, 27, 10, 28, 29, 30, 31, 32, 33, 34, 35, 36, 37]) (fun _ => rfl) (fun _ => rfl) rfl (by omega) ?_ ⟨⟨_, rfl, rfl⟩, ⟨_, rfl, rfl⟩, ⟨_, rfl, rfl⟩, trivial⟩ ⟨⟨_, rfl, rfl, rfl, rfl⟩, ⟨_, rfl, rfl, rfl, rfl⟩, trivial⟩ ?_; rotate_left; rintro ⟨j, m, d⟩ hx; try dsimp only at hx) | ((first | (refine loopV_normal ((j + 1, m + 1, d + ((((p.getD k F0).bs.getD j B0).code.map pI).length : Nat))) ?_ ⟨⟨_, rfl, rfl⟩, ⟨_, rfl, rfl⟩, ⟨_, rfl, rfl⟩, trivial⟩ ⟨⟨_, rfl, rfl, rfl, rfl⟩, ⟨_, rfl, rfl, rfl, rfl⟩, trivial⟩ ?_ ?_) | (refine loopV_normal ((j + 1, m, d + ((((p.getD k F0).bs.getD j B0).code.map pI).length : Nat))) ?_ ⟨⟨_, rfl, rfl⟩, ⟨_, rfl, rfl⟩, ⟨_, rfl, rfl⟩, trivial⟩ ⟨⟨_, rfl, rfl, rfl, rfl⟩, ⟨_, rfl, rfl, rfl, rfl⟩, trivial⟩ ?_ ?_)); repeat (first | exact only_refl | refine only_put rfl ?_)) | ((with_reducible apply n_val); rfl; rfl) | ((with_reducible apply n_new); rfl; (((simp only [hn0, hn1, hn2, hn3, hn4, hn5, List.length_cons, List.length_nil, Nat.reduceAdd, Nat.zero_add]; rfl))); rfl) | ((with_reducible apply n_store); rfl; rfl; rfl; rfl; rfl) | (with_reducible refine condT_split (fun h => ?_) (fun h => ?_)) | ((with_reducible apply fnQ_ret_soft); rfl; rfl) | fail
  all_goals (try dsimp only at *)
  all_goals (try simp only [decide_eq_true_eq, decide_eq_false_iff_not, List.length_map, ints_length, Int.toNat_natCast] at *)
  · rename (!_) = true => hq
    rw [countV, if_neg (by rw [Bool.not_eq_true'] at hq; rw [hq]; simp)]
  · omega
  · have e := nlB_s (l := (p.getD k F0).bs) (n := j) (by omega)
    rw [‹((p.getD k F0).bs.getD j B0).live = true›, if_pos rfl] at e
    have e2 := alT2_s (p := p) (k := k) (j := j) (by omega)
    have e3 := h3 k (by omega) (j + 1)
    have e4 := hc k (j + 1)
    have e5 : (alT2 p k (j + 1)).length = (alT2 p k j).length + ((p.getD k F0).bs.getD j B0).code.length := by rw [e2, List.length_append]
    omega
  · omega
  · have e := nlB_s (l := (p.getD k F0).bs) (n := j) (by omega)
    rw [‹((p.getD k F0).bs.getD j B0).live = false›, if_neg (by simp)] at e
    have e2 := alT2_s (p := p) (k := k) (j := j) (by omega)
    have e3 := h3 k (by omega) (j + 1)
    have e4 := hc k (j + 1)
    have e5 : (alT2 p k (j + 1)).length = (alT2 p k j).length + ((p.getD k F0).bs.getD j B0).code.length := by rw [e2, List.length_append]
    omega
  · omega
  · have e := nlF_s (p := p) (n := k) (by omega)
    have e2 : j = (p.getD k F0).bs.length := by omega
    have e6 := alT1_s (p := p) (k := k) (by omega)
    rw [← e2] at e6
    rw [← e2] at e
    have e5 := hb k
    exact ⟨by omega, by omega, by omega, by rw [e6]; omega⟩
  · have e := hb k
    have e2 := h3 k (by omega) 0
    exact ⟨Nat.zero_le _, by simp [nlB], e, by simp [nlB], by omega, by omega, by rw [alT2_z]; omega, e2, hc k 0⟩
  · rename (!_) = false => hq
    obtain rfl : k = p.length := by omega
    rw [countV, if_pos (by simpa using hq), hx.2.1, hx.2.2.2, alT1_all]
  · exact ⟨Nat.zero_le _, by simp [nlF], by simp [nlF], by rw [alT1_z]; rfl⟩
theorem blk_few {p : List Fn} (hf : few p = true) (f b : Int) : ((blkV p f b).getD B0).code.length ≤ 30 ∧ ((blkV p f b).getD B0).succ.length ≤ 30 := by
  unfold blkV
  split
  · exact (few_fun2 hf f).2 _
  · exact ⟨Nat.zero_le _, Nat.zero_le _⟩
end Go.Vm
