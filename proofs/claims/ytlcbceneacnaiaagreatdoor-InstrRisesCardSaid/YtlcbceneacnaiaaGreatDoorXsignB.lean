/- Laid. -/
import Derived.Test.YtlcbceneacnaiaaGreatDoorVmThree
import Derived.KernelRfl
import Derived.Test.YtlcbceneacnaiaaGreatDoorProg
import Derived.Test.YtlcbceneacnaiaaGreatDoorXsignA
section
/- Code. -/
set_option maxRecDepth 100000
set_option linter.unusedSimpArgs false
set_option linter.unusedVariables false
namespace Go.Vm
open Go
def c81 : RFn := ⟨(.seq (.region (Nodes.flat none (.op (some 2) (.move (.c (.int .i64 0))) 0
  .nil)) false)
 (.seq (.region (Nodes.flat none (.op (some 3) (.move (.t 0)) 0
  (.op (some 4) (.call 84 [(.t 3), (.c (.int .i64 1))]) 0
  (.op (some 2) (.move (.t 4)) 0
  .nil)))) false)
 .ret)),
 [.tmp 2]⟩
theorem b81 : fnOf Go.Proofs.Tryz.prog (owOf []) 81 = some c81 := by kernel_rfl
def c82 : RFn := ⟨(.seq (.region (Nodes.flat none (.op (some 4) (.move (.c (.int .i64 0))) 0
  .nil)) false)
 (.seq (.region (Nodes.flat none (.op (some 5) (.call 127 []) 0
  (.op (some 6) (.move (.t 0)) 0
  (.op (some 7) (.move (.t 1)) 0
  (.op (some 8) (.call 128 [(.t 5), (.t 6), (.t 7)]) 0
  (.op (some 4) (.move (.t 8)) 0
  .nil)))))) false)
 .ret)),
 [.tmp 4]⟩
theorem b82 : fnOf Go.Proofs.Tryz.prog (owOf []) 82 = some c82 := by kernel_rfl
def c83 : RFn := ⟨(.seq (.region (Nodes.flat none (.op (some 4) (.move (.c (.int .i64 0))) 0
  .nil)) false)
 (.seq (.region (Nodes.flat none (.op (some 5) (.move (.t 0)) 0
  (.op (some 6) (.move (.t 1)) 0
  (.op (some 7) (.call 81 [(.t 6)]) 0
  (.op (some 8) (.call 82 [(.t 5), (.t 7)]) 0
  (.op (some 4) (.move (.t 8)) 0
  .nil)))))) false)
 .ret)),
 [.tmp 4]⟩
theorem b83 : fnOf Go.Proofs.Tryz.prog (owOf []) 83 = some c83 := by kernel_rfl
def c84 : RFn := ⟨(.seq (.region (Nodes.flat none (.op (some 4) (.move (.c (.int .i64 0))) 0
  .nil)) false)
 (.seq (.region (Nodes.flat none (.op (some 5) (.call 129 []) 0
  (.op (some 6) (.move (.t 0)) 0
  (.op (some 7) (.move (.t 1)) 0
  (.op (some 8) (.call 128 [(.t 5), (.t 6), (.t 7)]) 0
  (.op (some 4) (.move (.t 8)) 0
  .nil)))))) false)
 .ret)),
 [.tmp 4]⟩
theorem b84 : fnOf Go.Proofs.Tryz.prog (owOf []) 84 = some c84 := by kernel_rfl
def c127 : RFn := ⟨(.seq (.region (Nodes.flat none (.op (some 0) (.alloc (.agg [(.int .i64 0), (.int .i64 0), (.int .i64 0), (.int .i64 0), (.int .i64 0), (.int .i64 0), (.int .i64 0), (.int .i64 0), (.int .i64 0)])) 0
  .nil)) false)
 (.seq (.region (Nodes.flat none (.op (some 1) (.build [(.int .i64 0), (.int .i64 0), (.int .i64 0)] [(0, 1, (.c (.int .i64 1))), (1, 1, (.c (.int .i64 1))), (2, 1, (.c (.int .i64 7)))]) 0
  (.op (some 2) (.build [(.int .i64 0), (.int .i64 0), (.int .i64 0)] [(0, 1, (.c (.int .i64 1))), (1, 1, (.c (.int .i64 2))), (2, 1, (.c (.int .i64 4)))]) 0
  (.op (some 3) (.build [(.int .i64 0), (.int .i64 0), (.int .i64 0)] [(0, 1, (.c (.int .i64 7))), (1, 1, (.c (.int .i64 4))), (2, 1, (.c (.int .i64 4)))]) 0
  (.op (some 4) (.build [(.int .i64 0), (.int .i64 0), (.int .i64 0), (.int .i64 0), (.int .i64 0), (.int .i64 0), (.int .i64 0), (.int .i64 0), (.int .i64 0)] [(0, 3, (.t 1)), (3, 3, (.t 2)), (6, 3, (.t 3))]) 0
  (.op none (.store 9 (.t 0) (.t 4)) 0
  .nil)))))) false)
 .ret)),
 [.cell (some 9) 0]⟩
theorem b127 : fnOf Go.Proofs.Tryz.prog (owOf []) 127 = some c127 := by kernel_rfl
def c128 : RFn := ⟨(.seq (.region (Nodes.flat none (.op (some 3) (.box (.t 0)) 0
  (.op (some 6) (.move (.c (.int .i64 0))) 0
  .nil))) false)
 (.seq (.region (Nodes.flat none (.op (some 7) (.move (.c (.int .i64 0))) 0
  .nil)) false)
 (.seq (.seq (.region (Nodes.flat none (.op (some 12) (.move (.t 1)) 0
  (.op (some 13) (.call 139 [(.t 12)]) 0
  (.op (some 14) (.len false (.t 13)) 0
  (.op (some 15) (.move (.c (.int .i64 0))) 0
  .nil))))) false)
 (.block 0 (.loop (.seq (.region (Nodes.flat none (.op (some 16) (.bin .lss (.t 15) (.t 14)) 0
  .nil)) false)
 (.seq (.cond (.t 16)
 .skip
 (.exit 0))
 (.seq (.block 1 (.seq (.region (Nodes.flat none (.op (some 17) (.idxAddr 1 (.t 13) (.t 15)) 0
  (.op (some 18) (.load none (.t 17)) 0
  (.op (some 9) (.move (.t 18)) 0
  .nil)))) false)
 (.seq (.region (Nodes.flat none (.op (some 19) (.move (.t 2)) 0
  (.op (some 20) (.call 139 [(.t 19)]) 0
  (.op (some 21) (.len false (.t 20)) 0
  (.op (some 22) (.move (.c (.int .i64 0))) 0
  .nil))))) false)
 (.block 2 (.loop (.seq (.region (Nodes.flat none (.op (some 23) (.bin .lss (.t 22) (.t 21)) 0
  .nil)) false)
 (.seq (.cond (.t 23)
 .skip
 (.exit 2))
 (.seq (.block 3 (.seq (.region (Nodes.flat none (.op (some 24) (.idxAddr 1 (.t 20) (.t 22)) 0
  (.op (some 25) (.load none (.t 24)) 0
  (.op (some 11) (.move (.t 25)) 0
  .nil)))) false)
 (.region (Nodes.flat none (.op (some 26) (.move (.t 7)) 0
  (.op (some 27) (.move (.t 9)) 0
  (.op (some 28) (.bin .add (.t 27) (.c (.int .i64 1))) 0
  (.op (some 29) (.move (.t 11)) 0
  (.op (some 30) (.bin .add (.t 29) (.c (.int .i64 1))) 0
  (.op (some 31) (.idxAddrA 3 3 (.t 3) (.t 28)) 0
  (.op (some 32) (.idxAddrA 3 1 (.t 31) (.t 30)) 0
  (.op (some 33) (.load none (.t 32)) 0
  (.op (some 34) (.bin .or (.t 26) (.t 33)) 0
  (.op (some 7) (.move (.t 34)) 0
  .nil))))))))))) false)))
 (.region (Nodes.flat none (.op (some 35) (.bin .add (.t 22) (.c (.int .i64 1))) 0
  (.op (some 22) (.move (.t 35)) 0
  .nil))) false)))))))))
 (.region (Nodes.flat none (.op (some 36) (.bin .add (.t 15) (.c (.int .i64 1))) 0
  (.op (some 15) (.move (.t 36)) 0
  .nil))) false)))))))
 (.seq (.region (Nodes.flat none (.op (some 37) (.move (.t 7)) 0
  (.op (some 6) (.move (.t 37)) 0
  .nil))) false)
 .ret)))),
 [.tmp 6]⟩
theorem b128 : fnOf Go.Proofs.Tryz.prog (owOf []) 128 = some c128 := by kernel_rfl
def c129 : RFn := ⟨(.seq (.region (Nodes.flat none (.op (some 0) (.alloc (.agg [(.int .i64 0), (.int .i64 0), (.int .i64 0), (.int .i64 0), (.int .i64 0), (.int .i64 0), (.int .i64 0), (.int .i64 0), (.int .i64 0)])) 0
  .nil)) false)
 (.seq (.region (Nodes.flat none (.op (some 1) (.build [(.int .i64 0), (.int .i64 0), (.int .i64 0)] [(0, 1, (.c (.int .i64 4))), (1, 1, (.c (.int .i64 2))), (2, 1, (.c (.int .i64 1)))]) 0
  (.op (some 2) (.build [(.int .i64 0), (.int .i64 0), (.int .i64 0)] [(0, 1, (.c (.int .i64 2))), (1, 1, (.c (.int .i64 2))), (2, 1, (.c (.int .i64 2)))]) 0
  (.op (some 3) (.build [(.int .i64 0), (.int .i64 0), (.int .i64 0)] [(0, 1, (.c (.int .i64 1))), (1, 1, (.c (.int .i64 2))), (2, 1, (.c (.int .i64 4)))]) 0
  (.op (some 4) (.build [(.int .i64 0), (.int .i64 0), (.int .i64 0), (.int .i64 0), (.int .i64 0), (.int .i64 0), (.int .i64 0), (.int .i64 0), (.int .i64 0)] [(0, 3, (.t 1)), (3, 3, (.t 2)), (6, 3, (.t 3))]) 0
  (.op none (.store 9 (.t 0) (.t 4)) 0
  .nil)))))) false)
 .ret)),
 [.cell (some 9) 0]⟩
theorem b129 : fnOf Go.Proofs.Tryz.prog (owOf []) 129 = some c129 := by kernel_rfl
end Go.Vm
end
section
/- Walks. -/
set_option maxRecDepth 100000
set_option linter.unusedSimpArgs false
set_option linter.unusedVariables false
namespace Go.Vm
open Go
section
variable {gl : Nat → Option PV}
set_option maxHeartbeats 4000000
def tf (t : List Int) (x y : Int) : Int := t.getD ((x + 1).toNat * 3 + (y + 1).toNat) 0
def sIn (t : List Int) (lb : List Int) (o x : Int) : Int := lb.foldl (fun o y => sOr o (tf t x y)) o
def sFold (t la lb : List Int) : Int := la.foldl (fun o x => sIn t lb o x) 0
theorem sList_mem (s : Int) (i : Nat) (h : i < (sList s).length) : (sList s).getD i 0 = -1 ∨ (sList s).getD i 0 = 0 ∨ (sList s).getD i 0 = 1 := by
  have h2 : sList s = sList (sn s) := by simp [sList, sn_sn]
  rw [h2] at h ⊢
  have hc := sn_cases s
  generalize sn s = n at *
  rcases hc with rfl | rfl | rfl | rfl | rfl | rfl | rfl | rfl <;> revert i <;> decide
theorem sList_len (s : Int) : (sList s).length ≤ 3 := by
  have h2 : sList s = sList (sn s) := by simp [sList, sn_sn]
  rw [h2]
  have hc := sn_cases s
  generalize sn s = n at *
  rcases hc with rfl | rfl | rfl | rfl | rfl | rfl | rfl | rfl <;> decide
theorem p_sign_of (T : List Int) (hT : T.length = 9) (a b : Int) (ha : i64r a) (hb : i64r b) : Pure Go.Proofs.Tryz.prog gl 128 [.agg (ints T), .int .i64 a, .int .i64 b] (.int .i64 (sFold T (sList a) (sList b))) := by
  refine Pure.fn hmix b128 ?_
  have ma := sList_mem a
  have mb := sList_mem b
  have na := sList_len a
  have nb := sList_len b
  have la := p_sign_List (gl := gl) a ha
  have lb := p_sign_List (gl := gl) b hb
  generalize sList a = A at *
  generalize sList b = B at *
  have bd : ∀ {X : List Int} {i : Int}, (∀ (i : Nat), i < X.length → X.getD i 0 = -1 ∨ X.getD i 0 = 0 ∨ X.getD i 0 = 1) → 0 ≤ i → decide (i < ((ints X).length : Int)) = true → (IntKind.i64.wrap (X.getD i.toNat 0 + 1) = X.getD i.toNat 0 + 1 ∧ 0 ≤ X.getD i.toNat 0 + 1 ∧ X.getD i.toNat 0 + 1 < 3) := by
    intro X i h h0 hi
    simp only [decide_eq_true_eq, ints_length] at hi
    have := h i.toNat (by omega)
    rw [IntKind.wrap_i64]
    omega
  repeat' first
    | with_reducible refine tr_seq ?_
    | ((with_reducible refine tr_region_f ?_ ?_); kernel_rfl)
    | with_reducible refine n_nil ?_
    | with_reducible refine seqQ_normal ?_
    | with_reducible refine seqQ_exit ?_
    | with_reducible refine seqQ_ret ?_
    | with_reducible refine blkQ_normal ?_
    | with_reducible refine blkQ_exit ?_
    | with_reducible refine blkQ_ret ?_
    | ((with_reducible refine blkQ_exit_ne ?_ ?_); rfl)
    | with_reducible refine tr_block ?_
    | with_reducible refine tr_skip ?_
    | with_reducible refine tr_exit ?_
    | with_reducible refine tr_ret ?_
    | ((with_reducible apply tr_cond_e); rfl)
    | with_reducible refine condT_t ?_
    | with_reducible refine condT_f ?_
    | with_reducible refine loopV_exit ?_
    | with_reducible refine loopV_ret ?_
    | refine n_call rfl rfl la ?_
    | refine n_call rfl rfl lb ?_
    | ((with_reducible apply n_idx_ints); rfl; rfl; (simp only [decide_eq_true_eq] at *; omega))
    | ((with_reducible apply n_idx_arr); rfl; rfl; (first | (have := bd (i := i) ma (by omega) (by assumption); rw [this.1]; exact this.2) | (have := bd (i := j) mb (by omega) (by assumption); rw [this.1]; exact this.2)))
    | ((with_reducible apply n_load_ints); rfl; rfl; (have h1 := bd (i := i) ma (by omega) (by assumption); have h2 := bd (i := j) mb (by omega) (by assumption); rw [h1.1, h2.1, hT]; omega))
    | (refine tr_loop_v (α := Int × Int) 1 (fun | (i, o) => [(15, some (.int .i64 i)), (7, some (.int .i64 o)), (16, none), (17, none), (18, none), (9, none), (19, none), (20, none), (21, none), (22, none), (23, none), (24, none), (25, none), (11, none), (26, none), (27, none), (28, none), (29, none), (30, none), (31, none), (32, none), (33, none), (34, none), (35, none), (36, none)]) (fun | (i, o) => [some ⟨0, (ints T).length, [.agg (ints T)]⟩]) (fun | (i, o) => 0 ≤ i ∧ i ≤ A.length ∧ o = sFold T (A.take i.toNat) B) (fun | (i, o) => (A.length - i).toNat) ((0, 0)) (ks := [15, 7, 16, 17, 18, 9, 19, 20, 21, 22, 23, 24, 25, 11, 26, 27, 28, 29, 30, 31, 32, 33, 34, 35, 36]) (fun _ => rfl) (fun _ => rfl) rfl (by omega) ?_ ⟨⟨_, rfl, rfl⟩, ⟨_, rfl, rfl⟩, trivial⟩ ⟨⟨_, rfl, rfl, rfl, (by first |  rfl | exact fzP_pure (ints_pure _) | exact fzP_pure (u64s_pure _) | exact fzP_pure (by assumption) | exact fzP_pure (by first | (simp [pureE, pure1, ints]; done) | (simp_all [pe_int, pe_bool, pe_str, pe_sl, pe_agg, p1_int, p1_bool, p1_str, p1_sl]; done)))⟩, trivial⟩ ?_; rotate_left; rintro ⟨i, o⟩ hx; try dsimp only at hx)
    | ((first | (refine loopV_normal ((_, _)) ?_ ⟨⟨_, rfl, rfl⟩, ⟨_, rfl, rfl⟩, trivial⟩ ⟨⟨_, rfl, rfl, rfl, (by first |  rfl | exact fzP_pure (ints_pure _) | exact fzP_pure (u64s_pure _) | exact fzP_pure (by assumption) | exact fzP_pure (by first | (simp [pureE, pure1, ints]; done) | (simp_all [pe_int, pe_bool, pe_str, pe_sl, pe_agg, p1_int, p1_bool, p1_str, p1_sl]; done)))⟩, trivial⟩ ?_ ?_)); repeat (first | exact only_refl | refine only_put rfl ?_ | refine only_less rfl ?_ | refine only_ov rfl ?_))
    | (refine tr_loop_v (α := Int × Int) 1 (fun | (j, p) => [(22, some (.int .i64 j)), (7, some (.int .i64 p)), (23, none), (24, none), (25, none), (11, none), (26, none), (27, none), (28, none), (29, none), (30, none), (31, none), (32, none), (33, none), (34, none), (35, none)]) (fun | (j, p) => [some ⟨0, (ints T).length, [.agg (ints T)]⟩]) (fun | (j, p) => 0 ≤ j ∧ j ≤ B.length ∧ p = sIn T (B.take j.toNat) o (A.getD i.toNat 0)) (fun | (j, p) => (B.length - j).toNat) ((0, o)) (ks := [22, 7, 23, 24, 25, 11, 26, 27, 28, 29, 30, 31, 32, 33, 34, 35]) (fun _ => rfl) (fun _ => rfl) rfl (by omega) ?_ ⟨⟨_, rfl, rfl⟩, ⟨_, rfl, rfl⟩, trivial⟩ ⟨⟨_, rfl, rfl, rfl, (by first |  rfl | exact fzP_pure (ints_pure _) | exact fzP_pure (u64s_pure _) | exact fzP_pure (by assumption) | exact fzP_pure (by first | (simp [pureE, pure1, ints]; done) | (simp_all [pe_int, pe_bool, pe_str, pe_sl, pe_agg, p1_int, p1_bool, p1_str, p1_sl]; done)))⟩, trivial⟩ ?_; rotate_left; rintro ⟨j, p⟩ hx; try dsimp only at hx)
    | ((first | (refine loopV_normal ((_, _)) ?_ ⟨⟨_, rfl, rfl⟩, ⟨_, rfl, rfl⟩, trivial⟩ ⟨⟨_, rfl, rfl, rfl, (by first |  rfl | exact fzP_pure (ints_pure _) | exact fzP_pure (u64s_pure _) | exact fzP_pure (by assumption) | exact fzP_pure (by first | (simp [pureE, pure1, ints]; done) | (simp_all [pe_int, pe_bool, pe_str, pe_sl, pe_agg, p1_int, p1_bool, p1_str, p1_sl]; done)))⟩, trivial⟩ ?_ ?_)); repeat (first | exact only_refl | refine only_put rfl ?_ | refine only_less rfl ?_ | refine only_ov rfl ?_))
    | ((with_reducible apply n_val); rfl; rfl)
    | ((with_reducible apply n_new); rfl; (first | (simp only [hn0, hn1, hn2, hn3, hn4, hn5, List.length_cons, List.length_nil, Nat.reduceAdd, Nat.zero_add]; done) | (simp only [hn0, hn1, hn2, hn3, hn4, hn5, List.length_cons, List.length_nil, Nat.reduceAdd, Nat.zero_add]; rfl) | rfl); rfl)
    | (with_reducible refine condT_split (fun h => ?_) (fun h => ?_))
    | ((with_reducible apply fnQ_told_ret); rfl)
    | ((with_reducible apply fnQ_ret_soft); rfl; rfl)
  all_goals (try dsimp only at *)
  all_goals (simp only [decide_eq_true_eq, decide_eq_false_iff_not, ints_length] at *)
  · rw [wrap_i64_of (by omega)]; omega
  · have b1 := bd (i := i) ma (by omega) (by omega)
    have b2 := bd (i := j) mb (by omega) (by omega)
    rw [wrap_i64_of (by omega), take_snoc (by omega) (by omega)]
    refine ⟨by omega, by omega, ?_⟩
    rw [b1.1, b2.1, hx.2.2]
    simp only [sIn, List.foldl_append, List.foldl_cons, List.foldl_nil, Nat.zero_add, Nat.mul_one]
    rfl
  · rw [wrap_i64_of (by omega)]; omega
  · have hy : 0 ≤ i ∧ i ≤ (A.length : Int) ∧ o = sFold T (List.take i.toNat A) B := by assumption
    rw [wrap_i64_of (by omega), take_snoc (by omega) (by omega)]
    refine ⟨by omega, by omega, ?_⟩
    have hj : j = B.length := by omega
    rw [hx.2.2, take_all hj, hy.2.2]
    simp only [sFold, List.foldl_append, List.foldl_cons, List.foldl_nil]
  · exact ⟨by omega, by omega, rfl⟩
  · rw [hx.2.2, take_all (by omega)]
  · exact ⟨by omega, by omega, rfl⟩
theorem p_sign_sums : Pure Go.Proofs.Tryz.prog gl 127 [] (.agg (ints [1, 1, 7, 1, 2, 4, 7, 4, 4])) := by
  refine Pure.fn hmix b127 ?_
  repeat' first
    | with_reducible refine tr_seq ?_
    | ((with_reducible refine tr_region_f ?_ ?_); kernel_rfl)
    | with_reducible refine n_nil ?_
    | with_reducible refine seqQ_normal ?_
    | with_reducible refine seqQ_ret ?_
    | with_reducible refine blkQ_ret ?_
    | with_reducible refine tr_ret ?_
    | ((with_reducible apply n_val); rfl; rfl)
    | ((with_reducible apply n_new); rfl; (first | (simp only [hn0, hn1, hn2, hn3, hn4, hn5, List.length_cons, List.length_nil, Nat.reduceAdd, Nat.zero_add]; done) | (simp only [hn0, hn1, hn2, hn3, hn4, hn5, List.length_cons, List.length_nil, Nat.reduceAdd, Nat.zero_add]; rfl) | rfl); rfl)
    | ((with_reducible apply n_store); rfl; rfl; rfl; rfl; rfl)
    | ((with_reducible apply fnQ_told_ret); rfl)
    | ((with_reducible apply fnQ_ret_soft); rfl; rfl)
  rfl
theorem p_sign_products : Pure Go.Proofs.Tryz.prog gl 129 [] (.agg (ints [4, 2, 1, 2, 2, 2, 1, 2, 4])) := by
  refine Pure.fn hmix b129 ?_
  repeat' first
    | with_reducible refine tr_seq ?_
    | ((with_reducible refine tr_region_f ?_ ?_); kernel_rfl)
    | with_reducible refine n_nil ?_
    | with_reducible refine seqQ_normal ?_
    | with_reducible refine seqQ_ret ?_
    | with_reducible refine blkQ_ret ?_
    | with_reducible refine tr_ret ?_
    | ((with_reducible apply n_val); rfl; rfl)
    | ((with_reducible apply n_new); rfl; (first | (simp only [hn0, hn1, hn2, hn3, hn4, hn5, List.length_cons, List.length_nil, Nat.reduceAdd, Nat.zero_add]; done) | (simp only [hn0, hn1, hn2, hn3, hn4, hn5, List.length_cons, List.length_nil, Nat.reduceAdd, Nat.zero_add]; rfl) | rfl); rfl)
    | ((with_reducible apply n_store); rfl; rfl; rfl; rfl; rfl)
    | ((with_reducible apply fnQ_told_ret); rfl)
    | ((with_reducible apply fnQ_ret_soft); rfl; rfl)
  rfl
def sAdd (a b : Int) : Int := sFold [1, 1, 7, 1, 2, 4, 7, 4, 4] (sList a) (sList b)
def sMul (a b : Int) : Int := sFold [4, 2, 1, 2, 2, 2, 1, 2, 4] (sList a) (sList b)
theorem p_sign_Add (a b : Int) (ha : i64r a) (hb : i64r b) : Pure Go.Proofs.Tryz.prog gl 82 [.int .i64 a, .int .i64 b] (.int .i64 (sAdd a b)) := by
  refine Pure.fn hmix b82 ?_
  repeat' first
    | with_reducible refine tr_seq ?_
    | ((with_reducible refine tr_region_f ?_ ?_); kernel_rfl)
    | with_reducible refine n_nil ?_
    | with_reducible refine seqQ_normal ?_
    | with_reducible refine seqQ_ret ?_
    | with_reducible refine blkQ_ret ?_
    | with_reducible refine tr_ret ?_
    | ((with_reducible apply n_val); rfl; rfl)
    | ((with_reducible apply n_call (f := 127)); rfl; rfl; exact p_sign_sums)
    | ((with_reducible apply n_call (f := 128)); rfl; rfl; exact p_sign_of [1, 1, 7, 1, 2, 4, 7, 4, 4] rfl _ _ ha hb)
    | ((with_reducible apply fnQ_told_ret); rfl)
    | ((with_reducible apply fnQ_ret_soft); rfl; rfl)
  rfl
theorem p_sign_Mul (a b : Int) (ha : i64r a) (hb : i64r b) : Pure Go.Proofs.Tryz.prog gl 84 [.int .i64 a, .int .i64 b] (.int .i64 (sMul a b)) := by
  refine Pure.fn hmix b84 ?_
  repeat' first
    | with_reducible refine tr_seq ?_
    | ((with_reducible refine tr_region_f ?_ ?_); kernel_rfl)
    | with_reducible refine n_nil ?_
    | with_reducible refine seqQ_normal ?_
    | with_reducible refine seqQ_ret ?_
    | with_reducible refine blkQ_ret ?_
    | with_reducible refine tr_ret ?_
    | ((with_reducible apply n_val); rfl; rfl)
    | ((with_reducible apply n_call (f := 129)); rfl; rfl; exact p_sign_products)
    | ((with_reducible apply n_call (f := 128)); rfl; rfl; exact p_sign_of [4, 2, 1, 2, 2, 2, 1, 2, 4] rfl _ _ ha hb)
    | ((with_reducible apply fnQ_told_ret); rfl)
    | ((with_reducible apply fnQ_ret_soft); rfl; rfl)
  rfl
theorem i64r_1 : i64r 1 := by unfold i64r; omega
theorem p_sign_Neg (a : Int) (ha : i64r a) : Pure Go.Proofs.Tryz.prog gl 81 [.int .i64 a] (.int .i64 (sMul a 1)) := by
  refine Pure.fn hmix b81 ?_
  repeat' first
    | with_reducible refine tr_seq ?_
    | ((with_reducible refine tr_region_f ?_ ?_); kernel_rfl)
    | with_reducible refine n_nil ?_
    | with_reducible refine seqQ_normal ?_
    | with_reducible refine seqQ_ret ?_
    | with_reducible refine blkQ_ret ?_
    | with_reducible refine tr_ret ?_
    | ((with_reducible apply n_val); rfl; rfl)
    | ((with_reducible apply n_call (f := 84)); rfl; rfl; exact p_sign_Mul _ _ ha i64r_1)
    | ((with_reducible apply fnQ_told_ret); rfl)
    | ((with_reducible apply fnQ_ret_soft); rfl; rfl)
  rfl
theorem sFold_sn (t : List Int) (a b : Int) : sFold t (sList a) (sList b) = sFold t (sList (sn a)) (sList (sn b)) := by simp [sList, sn_sn]
theorem sMul_r (a b : Int) : 0 ≤ sMul a b ∧ sMul a b ≤ 7 := by
  unfold sMul
  rw [sFold_sn]
  rcases sn_cases a with h | h | h | h | h | h | h | h <;> rcases sn_cases b with k | k | k | k | k | k | k | k <;> rw [h, k] <;> decide +kernel
theorem sMul_i64 (a b : Int) : i64r (sMul a b) := by have := sMul_r a b; unfold i64r; omega
theorem p_sign_Sub (a b : Int) (ha : i64r a) (hb : i64r b) : Pure Go.Proofs.Tryz.prog gl 83 [.int .i64 a, .int .i64 b] (.int .i64 (sAdd a (sMul b 1))) := by
  refine Pure.fn hmix b83 ?_
  repeat' first
    | with_reducible refine tr_seq ?_
    | ((with_reducible refine tr_region_f ?_ ?_); kernel_rfl)
    | with_reducible refine n_nil ?_
    | with_reducible refine seqQ_normal ?_
    | with_reducible refine seqQ_ret ?_
    | with_reducible refine blkQ_ret ?_
    | with_reducible refine tr_ret ?_
    | ((with_reducible apply n_val); rfl; rfl)
    | ((with_reducible apply n_call (f := 81)); rfl; rfl; exact p_sign_Neg _ hb)
    | ((with_reducible apply n_call (f := 82)); rfl; rfl; exact p_sign_Add _ _ ha (sMul_i64 _ _))
    | ((with_reducible apply fnQ_told_ret); rfl)
    | ((with_reducible apply fnQ_ret_soft); rfl; rfl)
  rfl
end
end Go.Vm
end
