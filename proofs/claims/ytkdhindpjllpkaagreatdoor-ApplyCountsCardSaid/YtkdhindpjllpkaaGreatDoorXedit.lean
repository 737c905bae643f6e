/- Laid. -/
import Derived.Test.YtkdhindpjllpkaaGreatDoorVmThree
import Derived.KernelRfl
import Derived.Test.YtkdhindpjllpkaaGreatDoorProg
import Derived.Test.YtkdhindpjllpkaaGreatDoorXprog
import Derived.Test.YtkdhindpjllpkaaGreatDoorLAll
set_option linter.unusedSimpArgs false
set_option linter.unusedVariables false
set_option maxRecDepth 100000
set_option maxHeartbeats 4000000
set_option exponentiation.threshold 2000
namespace Go.Vm
open Go
def c81 : RFn := ⟨(.seq (rf (.o 2 (.move (.c (.str ⟨#[]⟩))) .nil)) (.seq (.seq (rf (.o 3 (.m 0) (.o 4 (.bin .lss (.t 3) (.i 0)) (.o 5 (.m 4) (.grd 5 false (.o 6 (.m 0) (.o 7 (.bin .geq (.t 6) (.i 8)) .nil)) (.o 8 (.pick (.t 5) (.c (.bool true)) (.t 7)) .nil)))))) (.cond (.t 8) (.seq (rf (.o 2 (.move (.c (.str ⟨#[]⟩))) .nil)) .ret) .skip)) (.seq (rf (.o 9 (.call 119 [(.c (.str ⟨#[97, 100, 100, 102, 117, 110, 32, 97, 100, 100, 98, 108, 111, 99, 107, 32, 100, 101, 108, 98, 108, 111, 99, 107, 32, 97, 100, 100, 101, 100, 103, 101, 32, 100, 101, 108, 101, 100, 103, 101, 32, 114, 101, 119, 105, 114, 101, 32, 105, 110, 115, 101, 114, 116, 32, 100, 101, 108, 101, 116, 101]⟩))]) (.o 10 (.m 0) (.o 11 (.idxAddr 1 (.t 9) (.t 10)) (.o 12 (.load none (.t 11)) (.o 2 (.m 12) .nil)))))) .ret))), [.tmp 2]⟩
theorem b81 : fnOf Go.Proofs.Tryz.prog (owOf []) 81 = some c81 := by kernel_rfl
def c82 : RFn := ⟨(.seq (rf (.o 1 (.box (.t 0)) (.o 2 (.move (.i 0)) .nil))) (.seq (rf (.o 3 (.mkfunc 121 [(.t 1)]) (.o 4 (.build [(.int .i64 0), .nilf] [(0, 1, (.i 9)), (1, 1, (.t 3))]) (.o 5 (.mkfunc 122 [(.t 1)]) (.o 6 (.build [(.int .i64 0), .nilf] [(0, 1, (.i 8)), (1, 1, (.t 5))]) (.o 7 (.bslice false 2 2 (.agg [(.int .i64 0), .nilf]) [(0, (.t 4)), (1, (.t 6))]) (.o 8 (.call 120 [(.t 7)]) (.o 2 (.m 8) .nil)))))))) .ret)), [.tmp 2]⟩
theorem b82 : fnOf Go.Proofs.Tryz.prog (owOf [(1, 4)]) 82 = some c82 := by kernel_rfl
def c120 : RFn := ⟨(.seq (rf (.o 2 (.move (.i 0)) .nil)) (.seq (.seq (rf (.o 5 (.m 0) (.o 6 (.len false (.t 5)) (.o 7 (.move (.i 0)) .nil)))) (.block 0 (.loop (.seq (rf (.o 8 (.bin .lss (.t 7) (.t 6)) .nil)) (.seq (.cond (.t 8) .skip (.exit 0)) (.seq (.block 1 (.seq (rf (.o 9 (.idxAddr 2 (.t 5) (.t 7)) (.o 10 (.load (some 2) (.t 9)) (.o 4 (.alloc (.agg [(.int .i64 0), .nilf])) (.op none (.store 2 (.t 4) (.t 10)) 0 .nil))))) (.seq (rf (.o 11 (.fieldAddr 1 (.t 4)) (.o 12 (.load none (.t 11)) (.o 13 (.callv (.t 12) []) .nil)))) (.cond (.t 13) (.seq (rf (.o 14 (.fieldAddr 0 (.t 4)) (.o 15 (.load none (.t 14)) (.o 2 (.m 15) .nil)))) .ret) .skip)))) (rf (.o 16 (.bin .add (.t 7) (.i 1)) (.o 7 (.m 16) .nil))))))))) (.seq (rf (.o 2 (.move (.i 0)) .nil)) .ret))), [.tmp 2]⟩
theorem b120 : fnOf Go.Proofs.Tryz.prog (owOf []) 120 = some c120 := by kernel_rfl
def c121 : RFn := ⟨(.seq (rf (.o 1 (.move (.c (.bool false))) .nil)) (.seq (rf (.o 2 (.fieldAddr 1 (.t 0)) (.o 3 (.fieldAddr 2 (.t 2)) (.o 4 (.load none (.t 3)) (.o 5 (.bin .lss (.t 4) (.i 0)) (.o 6 (.m 5) (.grd 6 false (.o 7 (.fieldAddr 1 (.t 0)) (.o 8 (.fieldAddr 2 (.t 7)) (.o 9 (.load none (.t 8)) (.o 10 (.bin .gtr (.t 9) (.i 3)) .nil)))) (.o 11 (.pick (.t 6) (.c (.bool true)) (.t 10)) (.o 12 (.m 11) (.grd 12 false (.o 13 (.fieldAddr 1 (.t 0)) (.o 14 (.fieldAddr 3 (.t 13)) (.o 15 (.load none (.t 14)) (.o 16 (.fieldAddr 1 (.t 0)) (.o 17 (.fieldAddr 2 (.t 16)) (.o 18 (.load none (.t 17)) (.o 19 (.bin .lss (.t 15) (.t 18)) .nil))))))) (.o 20 (.pick (.t 12) (.c (.bool true)) (.t 19)) (.o 21 (.m 20) (.grd 21 false (.o 22 (.fieldAddr 1 (.t 0)) (.o 23 (.fieldAddr 3 (.t 22)) (.o 24 (.load none (.t 23)) (.o 25 (.bin .gtr (.t 24) (.i 6)) .nil)))) (.o 26 (.pick (.t 21) (.c (.bool true)) (.t 25)) (.o 1 (.m 26) .nil))))))))))))))) .ret)), [.tmp 1]⟩
theorem b121 : fnOf Go.Proofs.Tryz.prog (owOf []) 121 = some c121 := by kernel_rfl
def c122 : RFn := ⟨(.seq (rf (.o 1 (.move (.c (.bool false))) .nil)) (.seq (rf (.o 2 (.fieldAddr 0 (.t 0)) (.o 3 (.fieldAddr 0 (.t 2)) (.o 4 (.load none (.t 3)) (.o 5 (.len false (.t 4)) (.o 6 (.bin .geq (.t 5) (.i 6)) (.o 1 (.m 6) .nil))))))) .ret)), [.tmp 1]⟩
theorem b122 : fnOf Go.Proofs.Tryz.prog (owOf []) 122 = some c122 := by kernel_rfl
def c124 : RFn := ⟨(.seq (rf (.o 2 (.box (.t 0)) (.o 3 (.box (.t 1)) (.o 4 (.alloc (.agg [(.int .i64 0), .nilf])) .nil)))) (.seq (rf (.o 5 (.mkfunc 162 [(.t 3), (.t 2)]) (.o 6 (.build [(.int .i64 0), .nilf] [(0, 1, (.i 2)), (1, 1, (.t 5))]) (.op none (.store 2 (.t 4) (.t 6)) 0 .nil)))) .ret)), [.cell (some 2) 4]⟩
theorem b124 : fnOf Go.Proofs.Tryz.prog (owOf []) 124 = some c124 := by kernel_rfl
def c127 : RFn := ⟨(.seq (rf (.o 2 (.box (.t 0)) (.o 4 (.move (.c (.bool false))) .nil))) (.seq (rf (.o 8 (.fieldAddr 0 (.t 2)) (.o 9 (.load (some 1) (.t 8)) (.o 10 (.fieldAddr 1 (.t 2)) (.o 11 (.fieldAddr 1 (.t 10)) (.o 12 (.load none (.t 11)) (.o 13 (.fieldAddr 1 (.t 2)) (.o 14 (.fieldAddr 2 (.t 13)) (.o 15 (.load none (.t 14)) (.o 16 (.call 41 [(.t 9), (.t 12), (.t 15)]) (.o 7 (.m 16) (.o 17 (.extract 0 (.t 7)) (.o 18 (.extract 1 (.t 7)) (.o 5 (.alloc (.agg [(.bool false), (.lit []), (.lit [])])) (.op none (.store 3 (.t 5) (.t 17)) 0 (.o 6 (.m 18) .nil)))))))))))))))) (.seq (rf (.o 19 (.fieldAddr 2 (.t 5)) (.o 20 (.load none (.t 19)) (.o 21 (.m 1) (.o 22 (.call 165 [(.t 20), (.t 21)]) (.o 4 (.m 22) .nil)))))) .ret))), [.tmp 4]⟩
theorem b127 : fnOf Go.Proofs.Tryz.prog (owOf []) 127 = some c127 := by kernel_rfl
def c132 : RFn := ⟨(.seq (rf (.o 1 (.box (.t 0)) (.o 2 (.move (.c (.lit []))) .nil))) (.seq (rf (.o 6 (.fieldAddr 0 (.t 1)) (.o 7 (.load (some 1) (.t 6)) (.o 8 (.fieldAddr 1 (.t 1)) (.o 9 (.fieldAddr 1 (.t 8)) (.o 10 (.load none (.t 9)) (.o 11 (.fieldAddr 1 (.t 1)) (.o 12 (.fieldAddr 2 (.t 11)) (.o 13 (.load none (.t 12)) (.o 14 (.call 41 [(.t 7), (.t 10), (.t 13)]) (.o 5 (.m 14) (.o 15 (.extract 0 (.t 5)) (.o 16 (.extract 1 (.t 5)) (.o 3 (.alloc (.agg [(.bool false), (.lit []), (.lit [])])) (.op none (.store 3 (.t 3) (.t 15)) 0 (.o 4 (.m 16) .nil)))))))))))))))) (.seq (rf (.o 17 (.fieldAddr 1 (.t 3)) (.o 18 (.load none (.t 17)) (.o 2 (.m 18) .nil)))) .ret))), [.tmp 2]⟩
theorem b132 : fnOf Go.Proofs.Tryz.prog (owOf []) 132 = some c132 := by kernel_rfl
def c162 : RFn := ⟨(.seq (rf (.o 2 (.move (.c (.bool false))) .nil)) (.seq (rf (.o 3 (.load none (.t 0)) (.o 4 (.mkfunc 164 [(.t 1)]) (.o 5 (.call 163 [(.t 3), (.t 4)]) (.o 2 (.m 5) .nil))))) .ret)), [.tmp 2]⟩
theorem b162 : fnOf Go.Proofs.Tryz.prog (owOf []) 162 = some c162 := by kernel_rfl
def c164 : RFn := ⟨(.seq (rf (.o 3 (.move (.c (.bool false))) .nil)) (.seq (rf (.o 7 (.fieldAddr 0 (.t 1)) (.o 8 (.load (some 1) (.t 7)) (.o 9 (.fieldAddr 1 (.t 1)) (.o 10 (.fieldAddr 1 (.t 9)) (.o 11 (.load none (.t 10)) (.o 12 (.m 0) (.o 13 (.call 41 [(.t 8), (.t 11), (.t 12)]) (.o 6 (.m 13) (.o 14 (.extract 0 (.t 6)) (.o 15 (.extract 1 (.t 6)) (.o 4 (.alloc (.agg [(.bool false), (.lit []), (.lit [])])) (.op none (.store 3 (.t 4) (.t 14)) 0 (.o 5 (.m 15) .nil)))))))))))))) (.seq (rf (.o 16 (.m 5) (.o 17 (.un .not (.t 16)) (.o 3 (.m 17) .nil)))) .ret))), [.tmp 3]⟩
theorem b164 : fnOf Go.Proofs.Tryz.prog (owOf []) 164 = some c164 := by kernel_rfl
theorem p_first {gl : Nat → Option PV} (l : List Rl) (hl : l.length ≤ 1000) (hr : RsOk Go.Proofs.Tryz.prog gl l) : Pure Go.Proofs.Tryz.prog gl 120 [.sl (l.map pR)] (.int .i64 (firstV (rsV l))) := by
  have hg := fun k hk hj => hr.get k hk hj
  refine Pure.fn hmix b120 ?_
  repeat' first | (with_reducible first | refine tr_seq ?_ | refine n_nil ?_ | refine seqQ_normal ?_ | refine seqQ_exit ?_ | refine seqQ_ret ?_ | refine blkQ_normal ?_ | refine blkQ_exit ?_ | refine blkQ_ret ?_ | refine tr_block ?_ | refine tr_skip ?_ | refine tr_exit ?_ | refine tr_ret ?_ | refine loopV_exit ?_ | refine loopV_ret ?_) | ((with_reducible refine tr_region_f ?_ ?_); kernel_rfl) | ((with_reducible apply tr_cond_e); rfl) | ((with_reducible apply n_idx_vals (f := pR) R0); rfl; rfl; exact (fun _ => rfl); (((simp only [zz] at *; omega)))) | ((with_reducible apply n_callv_p); rfl; rfl; rfl; exact (hg k (by ((simp only [zz] at *; omega))) hx.2).1; exact (hg k (by ((simp only [zz] at *; omega))) hx.2).2) | ((((with_reducible apply n_bin); rfl; rfl; focus ((with_reducible (apply b_add)) <;> omega)))) | (refine tr_loop_v (α := Nat) 0 (fun | k => [(7, some (.int .i64 (k : Int))), (8, none), (9, none), (10, none), (4, none), (11, none), (12, none), (13, none), (14, none), (15, none), (2, none), (16, none)]) (fun | k => []) (fun | k => k ≤ l.length ∧ ∀ j, j < k → (l.getD j R0).b = false) (fun | k => l.length - k) (0) (ks := [7, 8, 9, 10, 4, 11, 12, 13, 14, 15, 2, 16]) (fun _ => rfl) (fun _ => rfl) rfl (by omega) ?_ ⟨⟨_, rfl, rfl⟩, trivial⟩ trivial ?_; rotate_left; rintro k hx; try dsimp only at hx) | (((refine loopV_normal (k + 1) ?_ ⟨⟨_, rfl, rfl⟩, trivial⟩ trivial ?_ ?_)); repeat (first | exact only_refl | refine only_put rfl ?_)) | ((with_reducible apply n_val); rfl; rfl) | ((with_reducible apply n_new); rfl; (((simp only [hn0, hn1, hn2, hn3, hn4, hn5, List.length_cons, List.length_nil, Nat.reduceAdd, Nat.zero_add]; rfl))); rfl) | ((with_reducible apply n_store); rfl; rfl; rfl; rfl; rfl) | (with_reducible refine condT_split (fun h => ?_) (fun h => ?_)) | ((with_reducible apply fnQ_ret_soft); rfl; rfl) | fail
  all_goals (try dsimp only at *)
  all_goals (try simp only [decide_eq_true_eq, decide_eq_false_iff_not, List.length_map, ints_length, Int.toNat_natCast] at *)
  · rename _ = true => hb
    rw [first_at (k := k) (by omega) hb hx.2]
  · omega
  · refine ⟨by omega, fun j hj => ?_⟩
    rcases Nat.lt_succ_iff_lt_or_eq.mp hj with hj | rfl
    · exact hx.2 j hj
    · assumption
  · rw [first_no fun j hj => hx.2 j (by omega)]
  · exact ⟨Nat.zero_le _, fun j hj => absurd hj (by omega)⟩
theorem p_fieldsE : Pure Go.Proofs.Tryz.prog glD 119 [.str ⟨#[97, 100, 100, 102, 117, 110, 32, 97, 100, 100, 98, 108, 111, 99, 107, 32, 100, 101, 108, 98, 108, 111, 99, 107, 32, 97, 100, 100, 101, 100, 103, 101, 32, 100, 101, 108, 101, 100, 103, 101, 32, 114, 101, 119, 105, 114, 101, 32, 105, 110, 115, 101, 114, 116, 32, 100, 101, 108, 101, 116, 101]⟩] (.sl (nmE.map .str)) := by
  have hT : TabOk Go.Proofs.Tryz.prog [(119, c119)] := ⟨⟨_, b119⟩, by kernel_rfl, trivial⟩
  exact clc_sound hmix hT (k := 80) (d := 1) (by kernel_rfl)
theorem p_edName (k : Int) : Pure Go.Proofs.Tryz.prog glD 81 [.int .i64 k] (.str (nmO k)) := by
  refine Pure.fn hmix b81 ?_
  repeat' first | (with_reducible first | refine tr_seq ?_ | refine n_nil ?_ | refine seqQ_normal ?_ | refine seqQ_ret ?_ | refine tr_skip ?_ | refine tr_ret ?_) | ((with_reducible refine tr_region_f ?_ ?_); kernel_rfl) | exact ⟨rfl, rfl⟩ | ((with_reducible apply tr_cond_e); rfl) | ((with_reducible apply n_or); rfl; rfl; intro h) | ((with_reducible apply n_idx_sl (y := .str (nmE.getD k.toNat bs0))); rfl; rfl; (((simp only [zz] at *; omega))); exact nmE_get _ (by ((simp only [zz] at *; omega))); rfl) | ((with_reducible apply n_val); rfl; rfl) | ((with_reducible apply n_call (f := 119)); rfl; rfl; exact p_fieldsE) | (with_reducible refine condT_split (fun h => ?_) (fun h => ?_)) | ((with_reducible apply fnQ_ret_soft); rfl; rfl) | fail
  all_goals (simp only [Bool.or_eq_true, decide_eq_true_eq, Bool.or_eq_false_iff, decide_eq_false_iff_not] at h)
  · rw [nmO, if_neg (by omega)]; rfl
  · rw [nmO, if_pos (by omega)]
theorem p_blk11 (p : List Fn) (e : Ed) (b : Int) (hp : Fit p) : Pure Go.Proofs.Tryz.prog glD 164 [.int .i64 b, .fptr (cA p e)] (.bool (!(blkV p e.f b).isSome)) := by
  have hB : Pure Go.Proofs.Tryz.prog glD 41 [pP p, .int .i64 e.f, .int .i64 b] (.tup [pB ((blkV p e.f b).getD B0), .bool (blkV p e.f b).isSome]) := p_Block p e.f b hp
  refine Pure.fn hmix b164 ?_
  repeat' first | (with_reducible first | refine tr_seq ?_ | refine n_nil ?_ | refine seqQ_normal ?_ | refine tr_ret ?_) | ((with_reducible refine tr_region_f ?_ ?_); kernel_rfl) | ((with_reducible apply n_call (f := 41)); rfl; rfl; exact hB) | ((with_reducible apply n_val); rfl; rfl) | ((with_reducible apply n_new); rfl; (((simp only [hn0, hn1, hn2, hn3, hn4, hn5, List.length_cons, List.length_nil, Nat.reduceAdd, Nat.zero_add]; rfl))); rfl) | ((with_reducible apply n_store); rfl; rfl; rfl; rfl; rfl) | ((with_reducible apply fnQ_ret_soft); rfl; rfl) | fail
  rfl
theorem p_blk1 (p : List Fn) (e : Ed) (l : List Int) (hl : l.length ≤ 1000) (hp : Fit p) : Pure Go.Proofs.Tryz.prog glD 162 [.fptr [.sl (ints l)], .fptr (cA p e)] (.bool (noB p e.f l)) := by
  have hC := p_ctnF (gl := glD) l 164 [.fptr (cA p e)] (fun b => !(blkV p e.f b).isSome) (by omega) rfl (fun j _ => p_blk11 p e _ hp)
  refine Pure.fn hmix b162 ?_
  repeat' first | (with_reducible first | refine tr_seq ?_ | refine n_nil ?_ | refine seqQ_normal ?_ | refine tr_ret ?_) | ((with_reducible refine tr_region_f ?_ ?_); kernel_rfl) | ((with_reducible apply n_val); rfl; rfl) | ((with_reducible apply n_callb ); rfl; rfl; exact hC; rfl) | ((with_reducible apply fnQ_ret_soft); rfl; rfl) | fail
  rfl
theorem p_blk (p : List Fn) (e : Ed) (l : List Int) : Pure Go.Proofs.Tryz.prog glD 124 [pA p e, .sl (ints l)] (pR ⟨2, 162, [.fptr [.sl (ints l)], .fptr (cA p e)], noB p e.f l⟩) := by
  refine Pure.fn hmix b124 ?_
  repeat' first | (with_reducible first | refine tr_seq ?_ | refine n_nil ?_ | refine seqQ_normal ?_ | refine tr_ret ?_) | ((with_reducible refine tr_region_f ?_ ?_); kernel_rfl) | ((with_reducible apply n_val); rfl; rfl) | ((with_reducible apply n_new); rfl; (((simp only [hn0, hn1, hn2, hn3, hn4, hn5, List.length_cons, List.length_nil, Nat.reduceAdd, Nat.zero_add]; rfl))); rfl) | ((with_reducible apply n_store); rfl; rfl; rfl; rfl; rfl) | ((with_reducible apply fnQ_ret_soft); rfl; rfl) | fail
  rfl
theorem p_code (p : List Fn) (e : Ed) (hp : Fit p) : Pure Go.Proofs.Tryz.prog glD 132 [pA p e] (.sl ((codeV p e.f e.b).map pI)) := by
  have hB : Pure Go.Proofs.Tryz.prog glD 41 [pP p, .int .i64 e.f, .int .i64 e.b] (.tup [pB ((blkV p e.f e.b).getD B0), .bool (blkV p e.f e.b).isSome]) := p_Block p e.f e.b hp
  refine Pure.fn hmix b132 ?_
  repeat' first | (with_reducible first | refine tr_seq ?_ | refine n_nil ?_ | refine seqQ_normal ?_ | refine tr_ret ?_) | ((with_reducible refine tr_region_f ?_ ?_); kernel_rfl) | ((with_reducible apply n_call (f := 41)); rfl; rfl; exact hB) | ((with_reducible apply n_val); rfl; rfl) | ((with_reducible apply n_new); rfl; (((simp only [hn0, hn1, hn2, hn3, hn4, hn5, List.length_cons, List.length_nil, Nat.reduceAdd, Nat.zero_add]; rfl))); rfl) | ((with_reducible apply n_store); rfl; rfl; rfl; rfl; rfl) | ((with_reducible apply fnQ_ret_soft); rfl; rfl) | fail
  rfl
theorem p_edge (p : List Fn) (e : Ed) (to : Int) (hf : few p = true) : Pure Go.Proofs.Tryz.prog glD 127 [pA p e, .int .i64 to] (.bool (edgV p e.f e.b to)) := by
  have hB : Pure Go.Proofs.Tryz.prog glD 41 [pP p, .int .i64 e.f, .int .i64 e.b] (.tup [pB ((blkV p e.f e.b).getD B0), .bool (blkV p e.f e.b).isSome]) := p_Block p e.f e.b (few_fit hf)
  have hC := p_slContains (gl := glD) ((blkV p e.f e.b).getD B0).succ to (Nat.le_trans (blk_few hf e.f e.b).2 (by omega))
  refine Pure.fn hmix b127 ?_
  repeat' first | (with_reducible first | refine tr_seq ?_ | refine n_nil ?_ | refine seqQ_normal ?_ | refine tr_ret ?_) | ((with_reducible refine tr_region_f ?_ ?_); kernel_rfl) | ((with_reducible apply n_call (f := 41)); rfl; rfl; exact hB) | ((with_reducible apply n_call (f := 165)); rfl; rfl; exact hC) | ((with_reducible apply n_val); rfl; rfl) | ((with_reducible apply n_new); rfl; (((simp only [hn0, hn1, hn2, hn3, hn4, hn5, List.length_cons, List.length_nil, Nat.reduceAdd, Nat.zero_add]; rfl))); rfl) | ((with_reducible apply n_store); rfl; rfl; rfl; rfl; rfl) | ((with_reducible apply fnQ_ret_soft); rfl; rfl) | fail
  rfl
theorem p_addF1 {gl : Nat → Option PV} (p : List Fn) (e : Ed) : Pure Go.Proofs.Tryz.prog gl 121 [.fptr (cA p e)] (.bool (decide (e.b < 0) || decide (e.b > 3) || decide (e.to < e.b) || decide (e.to > 6))) := by
  refine Pure.fn hmix b121 ?_
  repeat' first | (with_reducible first | refine tr_seq ?_ | refine n_nil ?_ | refine seqQ_normal ?_ | refine tr_ret ?_) | ((with_reducible refine tr_region_f ?_ ?_); kernel_rfl) | exact ⟨rfl, rfl⟩ | ((with_reducible apply n_or); rfl; rfl; intro h) | ((with_reducible apply n_val); rfl; rfl) | ((with_reducible apply fnQ_ret_soft); rfl; rfl) | fail
  rfl
theorem p_addF2 {gl : Nat → Option PV} (p : List Fn) (e : Ed) : Pure Go.Proofs.Tryz.prog gl 122 [.fptr (cA p e)] (.bool (decide ((p.length : Int) ≥ 6))) := by
  refine Pure.fn hmix b122 ?_
  repeat' first | (with_reducible first | refine tr_seq ?_ | refine n_nil ?_ | refine seqQ_normal ?_ | refine tr_ret ?_) | ((with_reducible refine tr_region_f ?_ ?_); kernel_rfl) | ((with_reducible apply n_val); rfl; rfl) | ((with_reducible apply fnQ_ret_soft); rfl; rfl) | fail
  rw [List.length_map]
theorem p_addFun {gl : Nat → Option PV} (p : List Fn) (e : Ed) : Pure Go.Proofs.Tryz.prog gl 82 [pA p e] (.int .i64 (addV p e)) := by
  have hr := p_first (gl := gl) [⟨9, 121, [.fptr (cA p e)], decide (e.b < 0) || decide (e.b > 3) || decide (e.to < e.b) || decide (e.to > 6)⟩, ⟨8, 122, [.fptr (cA p e)], decide ((p.length : Int) ≥ 6)⟩] (by simp) ⟨rfl, p_addF1 p e, fun _ => ⟨rfl, p_addF2 p e, fun _ => trivial⟩⟩
  refine Pure.fn hmix b82 ?_
  repeat' first | (with_reducible first | refine tr_seq ?_ | refine n_nil ?_ | refine seqQ_normal ?_ | refine tr_ret ?_) | ((with_reducible refine tr_region_f ?_ ?_); kernel_rfl) | ((with_reducible apply n_callb (f := 120)); rfl; rfl; exact hr; rfl) | ((with_reducible apply n_val); rfl; rfl) | ((with_reducible apply n_new); rfl; (((simp only [hn0, hn1, hn2, hn3, hn4, hn5, List.length_cons, List.length_nil, Nat.reduceAdd, Nat.zero_add]; rfl))); rfl) | ((with_reducible apply fnQ_ret_soft); rfl; rfl) | fail
  rfl
def c38 : RFn := ⟨(.seq (rf (.o 2 (.box (.t 0)) (.o 3 (.box (.t 1)) (.o 4 (.move (.i 0)) .nil)))) (.seq (rf (.o 6 (.load (some 1) (.t 2)) (.o 7 (.load (some 17) (.t 3)) (.o 8 (.build [(.lit []), (.int .i64 0), (.int .i64 0), (.int .i64 0), (.int .i64 0), (.int .i64 0), (.int .i64 0), (.int .i64 0), (.int .i64 0), (.int .i64 0), (.int .i64 0), (.int .i64 0), (.int .i64 0), (.int .i64 0), (.int .i64 0), (.int .i64 0), (.int .i64 0), (.int .i64 0)] [(0, 1, (.t 6)), (1, 17, (.t 7))]) (.o 5 (.alloc (.agg [(.lit []), (.int .i64 0), (.int .i64 0), (.int .i64 0), (.int .i64 0), (.int .i64 0), (.int .i64 0), (.int .i64 0), (.int .i64 0), (.int .i64 0), (.int .i64 0), (.int .i64 0), (.int .i64 0), (.int .i64 0), (.int .i64 0), (.int .i64 0), (.int .i64 0), (.int .i64 0)])) (.op none (.store 18 (.t 5) (.t 8)) 0 .nil)))))) (.seq (.block 0 (.seq (rf (.o 10 (.load (some 1) (.t 2)) (.o 11 (.call 17 [(.t 10)]) (.o 12 (.un .not (.t 11)) (.o 9 (.m 12) .nil))))) (.cond (.t 9) (.seq (rf (.o 4 (.move (.i 11)) .nil)) .ret) (.seq (rf (.o 14 (.fieldAddr 0 (.t 3)) (.o 15 (.load none (.t 14)) (.o 16 (.call 81 [(.t 15)]) (.o 17 (.bin .eql (.t 16) (.c (.str ⟨#[]⟩))) (.o 13 (.m 17) .nil)))))) (.cond (.t 13) (.seq (rf (.o 4 (.move (.i 9)) .nil)) .ret) (.seq (rf (.o 19 (.fieldAddr 0 (.t 3)) (.o 20 (.load none (.t 19)) (.o 21 (.bin .eql (.t 20) (.i 0)) (.o 18 (.m 21) .nil))))) (.cond (.t 18) (.seq (rf (.o 22 (.load (some 18) (.t 5)) (.o 23 (.call 82 [(.t 22)]) (.o 4 (.m 23) .nil)))) .ret) (.seq (rf (.o 25 (.fieldAddr 1 (.t 3)) (.o 26 (.load none (.t 25)) (.o 27 (.bin .lss (.t 26) (.i 0)) (.o 28 (.m 27) (.grd 28 false (.o 29 (.fieldAddr 1 (.t 3)) (.o 30 (.load none (.t 29)) (.o 31 (.fieldAddr 0 (.t 2)) (.o 32 (.load none (.t 31)) (.o 33 (.len false (.t 32)) (.o 34 (.bin .geq (.t 30) (.t 33)) .nil)))))) (.o 35 (.pick (.t 28) (.c (.bool true)) (.t 34)) (.o 24 (.m 35) .nil)))))))) (.cond (.t 24) (.seq (rf (.o 4 (.move (.i 1)) .nil)) .ret) .skip))))))))) (.seq (rf (.o 36 (.load (some 18) (.t 5)) (.o 37 (.call 83 [(.t 36)]) (.o 4 (.m 37) .nil)))) .ret)))), [.tmp 4]⟩
theorem b38 : fnOf Go.Proofs.Tryz.prog (owOf []) 38 = some c38 := by kernel_rfl
def c45 : RFn := ⟨(.seq (rf (.o 2 (.box (.t 0)) (.o 3 (.box (.t 1)) (.o 4 (.move (.c (.lit []))) .nil)))) (.seq (.block 0 (.seq (rf (.o 6 (.load (some 1) (.t 2)) (.o 7 (.load (some 17) (.t 3)) (.o 8 (.call 38 [(.t 6), (.t 7)]) (.o 9 (.bin .neq (.t 8) (.i 0)) (.o 5 (.m 9) .nil)))))) (.cond (.t 5) (.seq (rf (.o 4 (.move (.c (.lit []))) .nil)) .ret) (.seq (rf (.o 11 (.fieldAddr 0 (.t 3)) (.o 12 (.load none (.t 11)) (.o 13 (.bin .eql (.t 12) (.i 0)) (.o 10 (.m 13) .nil))))) (.cond (.t 10) (.seq (rf (.o 14 (.fieldAddr 0 (.t 2)) (.o 15 (.load none (.t 14)) (.o 16 (.len false (.t 15)) (.o 17 (.bslice true 1 1 (.int .i64 0) [(0, (.t 16))]) (.o 4 (.m 17) .nil)))))) .ret) .skip))))) (.seq (rf (.o 18 (.fieldAddr 1 (.t 3)) (.o 19 (.load none (.t 18)) (.o 20 (.bslice true 1 1 (.int .i64 0) [(0, (.t 19))]) (.o 4 (.m 20) .nil))))) .ret))), [.tmp 4]⟩
theorem b45 : fnOf Go.Proofs.Tryz.prog (owOf []) 45 = some c45 := by kernel_rfl
def c46 : RFn := ⟨(.seq (rf (.o 2 (.box (.t 0)) (.o 3 (.box (.t 1)) (.o 4 (.move (.c (.bool false))) .nil)))) (.seq (rf (.o 5 (.fieldAddr 0 (.t 3)) (.o 6 (.load none (.t 5)) (.o 7 (.bin .eql (.t 6) (.i 5)) (.o 8 (.m 7) (.grd 8 true (.o 9 (.fieldAddr 3 (.t 3)) (.o 10 (.load none (.t 9)) (.o 11 (.fieldAddr 4 (.t 3)) (.o 12 (.load none (.t 11)) (.o 13 (.bin .eql (.t 10) (.t 12)) .nil))))) (.o 14 (.pick (.t 8) (.t 13) (.c (.bool false))) (.o 15 (.m 14) (.grd 15 true (.o 16 (.load (some 1) (.t 2)) (.o 17 (.load (some 17) (.t 3)) (.o 18 (.call 38 [(.t 16), (.t 17)]) (.o 19 (.bin .eql (.t 18) (.i 0)) .nil)))) (.o 20 (.pick (.t 15) (.t 19) (.c (.bool false))) (.o 4 (.m 20) .nil))))))))))) .ret)), [.tmp 4]⟩
theorem b46 : fnOf Go.Proofs.Tryz.prog (owOf []) 46 = some c46 := by kernel_rfl
def c83 : RFn := ⟨(.seq (rf (.o 1 (.box (.t 0)) (.o 2 (.move (.i 0)) .nil))) (.seq (rf (.o 4 (.fieldAddr 1 (.t 1)) (.o 5 (.load (some 17) (.t 4)) (.o 3 (.alloc (.agg [(.int .i64 0), (.int .i64 0), (.int .i64 0), (.int .i64 0), (.int .i64 0), (.int .i64 0), (.int .i64 0), (.int .i64 0), (.int .i64 0), (.int .i64 0), (.int .i64 0), (.int .i64 0), (.int .i64 0), (.int .i64 0), (.int .i64 0), (.int .i64 0), (.int .i64 0)])) (.op none (.store 17 (.t 3) (.t 5)) 0 .nil))))) (.seq (.seq (rf (.o 6 (.fieldAddr 0 (.t 3)) (.o 7 (.load none (.t 6)) .nil))) (.block 0 (.seq (rf (.o 9 (.bin .eql (.t 7) (.i 1)) (.o 8 (.m 9) .nil))) (.cond (.t 8) (.seq (rf (.o 10 (.mkfunc 123 [(.t 1), (.t 3)]) (.o 11 (.build [(.int .i64 0), .nilf] [(0, 1, (.i 8)), (1, 1, (.t 10))]) (.o 12 (.bslice false 2 1 (.agg [(.int .i64 0), .nilf]) [(0, (.t 11))]) (.o 13 (.call 120 [(.t 12)]) (.o 2 (.m 13) .nil)))))) .ret) (.seq (rf (.o 15 (.bin .eql (.t 7) (.i 2)) (.o 14 (.m 15) .nil))) (.cond (.t 14) (.seq (rf (.o 16 (.load (some 18) (.t 1)) (.o 17 (.fieldAddr 2 (.t 3)) (.o 18 (.load none (.t 17)) (.o 19 (.bslice false 1 1 (.int .i64 0) [(0, (.t 18))]) (.o 20 (.call 124 [(.t 16), (.t 19)]) (.o 21 (.mkfunc 125 [(.t 3)]) (.o 22 (.build [(.int .i64 0), .nilf] [(0, 1, (.i 6)), (1, 1, (.t 21))]) (.o 23 (.bslice false 2 2 (.agg [(.int .i64 0), .nilf]) [(0, (.t 20)), (1, (.t 22))]) (.o 24 (.call 120 [(.t 23)]) (.o 2 (.m 24) .nil))))))))))) .ret) (.seq (rf (.o 26 (.bin .eql (.t 7) (.i 3)) (.o 25 (.m 26) .nil))) (.cond (.t 25) (.seq (rf (.o 27 (.load (some 18) (.t 1)) (.o 28 (.fieldAddr 2 (.t 3)) (.o 29 (.load none (.t 28)) (.o 30 (.fieldAddr 3 (.t 3)) (.o 31 (.load none (.t 30)) (.o 32 (.bslice false 1 2 (.int .i64 0) [(0, (.t 29)), (1, (.t 31))]) (.o 33 (.call 124 [(.t 27), (.t 32)]) (.o 34 (.mkfunc 126 [(.t 1), (.t 3)]) (.o 35 (.build [(.int .i64 0), .nilf] [(0, 1, (.i 5)), (1, 1, (.t 34))]) (.o 36 (.bslice false 2 2 (.agg [(.int .i64 0), .nilf]) [(0, (.t 33)), (1, (.t 35))]) (.o 37 (.call 120 [(.t 36)]) (.o 2 (.m 37) .nil))))))))))))) .ret) (.seq (rf (.o 39 (.bin .eql (.t 7) (.i 4)) (.o 38 (.m 39) .nil))) (.cond (.t 38) (.seq (rf (.o 40 (.load (some 18) (.t 1)) (.o 41 (.fieldAddr 2 (.t 3)) (.o 42 (.load none (.t 41)) (.o 43 (.fieldAddr 3 (.t 3)) (.o 44 (.load none (.t 43)) (.o 45 (.bslice false 1 2 (.int .i64 0) [(0, (.t 42)), (1, (.t 44))]) (.o 46 (.call 124 [(.t 40), (.t 45)]) (.o 47 (.mkfunc 128 [(.t 1), (.t 3)]) (.o 48 (.build [(.int .i64 0), .nilf] [(0, 1, (.i 5)), (1, 1, (.t 47))]) (.o 49 (.bslice false 2 2 (.agg [(.int .i64 0), .nilf]) [(0, (.t 46)), (1, (.t 48))]) (.o 50 (.call 120 [(.t 49)]) (.o 2 (.m 50) .nil))))))))))))) .ret) (.seq (rf (.o 52 (.bin .eql (.t 7) (.i 5)) (.o 51 (.m 52) .nil))) (.cond (.t 51) (.seq (rf (.o 53 (.load (some 18) (.t 1)) (.o 54 (.fieldAddr 2 (.t 3)) (.o 55 (.load none (.t 54)) (.o 56 (.fieldAddr 3 (.t 3)) (.o 57 (.load none (.t 56)) (.o 58 (.fieldAddr 4 (.t 3)) (.o 59 (.load none (.t 58)) (.o 60 (.bslice false 1 3 (.int .i64 0) [(0, (.t 55)), (1, (.t 57)), (2, (.t 59))]) (.o 61 (.call 124 [(.t 53), (.t 60)]) (.o 62 (.mkfunc 129 [(.t 1), (.t 3)]) (.o 63 (.build [(.int .i64 0), .nilf] [(0, 1, (.i 5)), (1, 1, (.t 62))]) (.o 64 (.bslice false 2 2 (.agg [(.int .i64 0), .nilf]) [(0, (.t 61)), (1, (.t 63))]) (.o 65 (.call 120 [(.t 64)]) (.o 2 (.m 65) .nil))))))))))))))) .ret) (.seq (rf (.o 67 (.bin .eql (.t 7) (.i 6)) (.o 66 (.m 67) .nil))) (.cond (.t 66) (.seq (rf (.o 68 (.load (some 18) (.t 1)) (.o 69 (.call 130 [(.t 68)]) (.o 2 (.m 69) .nil)))) .ret) .skip)))))))))))))) (.seq (rf (.o 70 (.load (some 18) (.t 1)) (.o 71 (.fieldAddr 2 (.t 3)) (.o 72 (.load none (.t 71)) (.o 73 (.bslice false 1 1 (.int .i64 0) [(0, (.t 72))]) (.o 74 (.call 124 [(.t 70), (.t 73)]) (.o 75 (.mkfunc 131 [(.t 3), (.t 1)]) (.o 76 (.build [(.int .i64 0), .nilf] [(0, 1, (.i 3)), (1, 1, (.t 75))]) (.o 77 (.bslice false 2 2 (.agg [(.int .i64 0), .nilf]) [(0, (.t 74)), (1, (.t 76))]) (.o 78 (.call 120 [(.t 77)]) (.o 2 (.m 78) .nil))))))))))) .ret)))), [.tmp 2]⟩
theorem b83 : fnOf Go.Proofs.Tryz.prog (owOf [(4, 2), (6, 3), (6, 7), (8, 5), (8, 9), (10, 5), (10, 9), (12, 7), (12, 11), (15, 3), (15, 7)]) 83 = some c83 := by kernel_rfl
def c123 : RFn := ⟨(.seq (rf (.o 2 (.move (.c (.bool false))) .nil)) (.seq (rf (.o 3 (.fieldAddr 0 (.t 0)) (.o 4 (.load (some 1) (.t 3)) (.o 5 (.fieldAddr 1 (.t 1)) (.o 6 (.load none (.t 5)) (.o 7 (.call 86 [(.t 4), (.t 6)]) (.o 8 (.bin .lss (.t 7) (.i 0)) (.o 2 (.m 8) .nil)))))))) .ret)), [.tmp 2]⟩
theorem b123 : fnOf Go.Proofs.Tryz.prog (owOf []) 123 = some c123 := by kernel_rfl
def c125 : RFn := ⟨(.seq (rf (.o 1 (.move (.c (.bool false))) .nil)) (.seq (rf (.o 2 (.fieldAddr 2 (.t 0)) (.o 3 (.load none (.t 2)) (.o 4 (.bin .eql (.t 3) (.i 0)) (.o 1 (.m 4) .nil))))) .ret)), [.tmp 1]⟩
theorem b125 : fnOf Go.Proofs.Tryz.prog (owOf []) 125 = some c125 := by kernel_rfl
def c126 : RFn := ⟨(.seq (rf (.o 2 (.move (.c (.bool false))) .nil)) (.seq (rf (.o 3 (.load (some 18) (.t 0)) (.o 4 (.fieldAddr 3 (.t 1)) (.o 5 (.load none (.t 4)) (.o 6 (.call 127 [(.t 3), (.t 5)]) (.o 2 (.m 6) .nil)))))) .ret)), [.tmp 2]⟩
theorem b126 : fnOf Go.Proofs.Tryz.prog (owOf []) 126 = some c126 := by kernel_rfl
def c128 : RFn := ⟨(.seq (rf (.o 2 (.move (.c (.bool false))) .nil)) (.seq (rf (.o 3 (.load (some 18) (.t 0)) (.o 4 (.fieldAddr 3 (.t 1)) (.o 5 (.load none (.t 4)) (.o 6 (.call 127 [(.t 3), (.t 5)]) (.o 7 (.un .not (.t 6)) (.o 2 (.m 7) .nil))))))) .ret)), [.tmp 2]⟩
theorem b128 : fnOf Go.Proofs.Tryz.prog (owOf []) 128 = some c128 := by kernel_rfl
def c129 : RFn := ⟨(.seq (rf (.o 2 (.move (.c (.bool false))) .nil)) (.seq (rf (.o 3 (.load (some 18) (.t 0)) (.o 4 (.fieldAddr 3 (.t 1)) (.o 5 (.load none (.t 4)) (.o 6 (.call 127 [(.t 3), (.t 5)]) (.o 7 (.un .not (.t 6)) (.o 8 (.m 7) (.grd 8 false (.o 9 (.fieldAddr 4 (.t 1)) (.o 10 (.load none (.t 9)) (.o 11 (.fieldAddr 3 (.t 1)) (.o 12 (.load none (.t 11)) (.o 13 (.bin .neq (.t 10) (.t 12)) (.o 14 (.m 13) (.grd 14 true (.o 15 (.load (some 18) (.t 0)) (.o 16 (.fieldAddr 4 (.t 1)) (.o 17 (.load none (.t 16)) (.o 18 (.call 127 [(.t 15), (.t 17)]) .nil)))) (.o 19 (.pick (.t 14) (.t 18) (.c (.bool false))) .nil)))))))) (.o 20 (.pick (.t 8) (.c (.bool true)) (.t 19)) (.o 2 (.m 20) .nil)))))))))) .ret)), [.tmp 2]⟩
theorem b129 : fnOf Go.Proofs.Tryz.prog (owOf []) 129 = some c129 := by kernel_rfl
def c130 : RFn := ⟨(.seq (rf (.o 1 (.box (.t 0)) (.o 2 (.move (.i 0)) .nil))) (.seq (rf (.o 5 (.fieldAddr 1 (.t 1)) (.o 6 (.fieldAddr 6 (.t 5)) (.o 7 (.load (some 11) (.t 6)) (.o 3 (.alloc (.agg [(.int .i64 0), (.int .i64 0), (.int .i64 0), (.int .i64 0), (.int .i64 0), (.int .i64 0), (.int .i64 0), (.int .i64 0), (.int .i64 0), (.int .i64 0), (.int .i64 0)])) (.op none (.store 11 (.t 3) (.t 7)) 0 .nil)))))) (.seq (rf (.o 8 (.fieldAddr 1 (.t 3)) (.o 9 (.load none (.t 8)) (.o 10 (.bin .eql (.t 9) (.i 7)) (.o 4 (.alloc (.bool false)) (.op none (.store 1 (.t 4) (.t 10)) 0 .nil)))))) (.seq (rf (.o 11 (.load (some 18) (.t 1)) (.o 12 (.fieldAddr 1 (.t 1)) (.o 13 (.fieldAddr 2 (.t 12)) (.o 14 (.load none (.t 13)) (.o 15 (.bslice false 1 1 (.int .i64 0) [(0, (.t 14))]) (.o 16 (.call 124 [(.t 11), (.t 15)]) (.o 17 (.mkfunc 166 [(.t 1)]) (.o 18 (.build [(.int .i64 0), .nilf] [(0, 1, (.i 3)), (1, 1, (.t 17))]) (.o 19 (.mkfunc 167 [(.t 3)]) (.o 20 (.build [(.int .i64 0), .nilf] [(0, 1, (.i 9)), (1, 1, (.t 19))]) (.o 21 (.mkfunc 169 [(.t 3), (.t 1)]) (.o 22 (.build [(.int .i64 0), .nilf] [(0, 1, (.i 4)), (1, 1, (.t 21))]) (.o 23 (.mkfunc 172 [(.t 4), (.t 3), (.t 1)]) (.o 24 (.build [(.int .i64 0), .nilf] [(0, 1, (.i 1)), (1, 1, (.t 23))]) (.o 25 (.mkfunc 173 [(.t 4), (.t 1), (.t 3)]) (.o 26 (.build [(.int .i64 0), .nilf] [(0, 1, (.i 7)), (1, 1, (.t 25))]) (.o 27 (.mkfunc 174 [(.t 1)]) (.o 28 (.build [(.int .i64 0), .nilf] [(0, 1, (.i 8)), (1, 1, (.t 27))]) (.o 29 (.bslice false 2 7 (.agg [(.int .i64 0), .nilf]) [(0, (.t 16)), (1, (.t 18)), (2, (.t 20)), (3, (.t 22)), (4, (.t 24)), (5, (.t 26)), (6, (.t 28))]) (.o 30 (.call 120 [(.t 29)]) (.o 2 (.m 30) .nil)))))))))))))))))))))) .ret)))), [.tmp 2]⟩
theorem b130 : fnOf Go.Proofs.Tryz.prog (owOf [(3, 4), (3, 18)]) 130 = some c130 := by kernel_rfl
def c131 : RFn := ⟨(.seq (rf (.o 2 (.move (.c (.bool false))) .nil)) (.seq (rt (.o 3 (.fieldAddr 5 (.t 0)) (.op (some 4) (.load none (.t 3)) 1 (.op (some 5) (.bin .lss (.t 4) (.i 0)) 3 (.op (some 6) (.m 5) 7 (.grd 6 false (.op (some 7) (.fieldAddr 5 (.t 0)) 15 (.op (some 8) (.load none (.t 7)) 31 (.op (some 9) (.load (some 18) (.t 1)) 15 (.op (some 10) (.call 132 [(.t 9)]) 79 (.op (some 11) (.len false (.t 10)) 207 (.op (some 12) (.bin .geq (.t 8) (.t 11)) 511 .nil)))))) (.op (some 13) (.pick (.t 6) (.c (.bool true)) (.t 12)) 1023 (.op (some 2) (.m 13) 2047 .nil)))))))) .ret)), [.tmp 2]⟩
theorem b131 : fnOf Go.Proofs.Tryz.prog (owOf []) 131 = some c131 := by kernel_rfl
def c166 : RFn := ⟨(.seq (rf (.o 1 (.move (.c (.bool false))) .nil)) (.seq (rt (.o 2 (.fieldAddr 1 (.t 0)) (.op (some 3) (.fieldAddr 5 (.t 2)) 1 (.op (some 4) (.load none (.t 3)) 3 (.op (some 5) (.bin .lss (.t 4) (.i 0)) 7 (.op (some 6) (.m 5) 15 (.grd 6 false (.op (some 7) (.fieldAddr 1 (.t 0)) 31 (.op (some 8) (.fieldAddr 5 (.t 7)) 63 (.op (some 9) (.load none (.t 8)) 127 (.op (some 10) (.load (some 18) (.t 0)) 31 (.op (some 11) (.call 132 [(.t 10)]) 287 (.op (some 12) (.len false (.t 11)) 799 (.op (some 13) (.bin .gtr (.t 9) (.t 12)) 2047 .nil))))))) (.op (some 14) (.pick (.t 6) (.c (.bool true)) (.t 13)) 4095 (.op (some 1) (.m 14) 8191 .nil))))))))) .ret)), [.tmp 1]⟩
theorem b166 : fnOf Go.Proofs.Tryz.prog (owOf []) 166 = some c166 := by kernel_rfl
def c167 : RFn := ⟨(.seq (rf (.o 1 (.move (.c (.bool false))) .nil)) (.seq (rf (.o 2 (.fieldAddr 0 (.t 0)) (.o 3 (.load none (.t 2)) (.o 4 (.bin .neq (.t 3) (.i 0)) (.o 5 (.m 4) (.grd 5 false (.o 6 (.load (some 11) (.t 0)) (.o 7 (.call 168 [(.t 6)]) (.o 8 (.un .not (.t 7)) .nil))) (.o 9 (.pick (.t 5) (.c (.bool true)) (.t 8)) (.o 1 (.m 9) .nil)))))))) .ret)), [.tmp 1]⟩
theorem b167 : fnOf Go.Proofs.Tryz.prog (owOf []) 167 = some c167 := by kernel_rfl
def c169 : RFn := ⟨(.seq (rf (.o 2 (.move (.c (.bool false))) .nil)) (.seq (rf (.o 3 (.load (some 11) (.t 0)) (.o 4 (.call 170 [(.t 3)]) (.o 5 (.mkfunc 171 [(.t 1)]) (.o 6 (.call 163 [(.t 4), (.t 5)]) (.o 2 (.m 6) .nil)))))) .ret)), [.tmp 2]⟩
theorem b169 : fnOf Go.Proofs.Tryz.prog (owOf []) 169 = some c169 := by kernel_rfl
def c171 : RFn := ⟨(.seq (rf (.o 3 (.move (.c (.bool false))) .nil)) (.seq (rf (.o 4 (.m 0) (.o 5 (.fieldAddr 0 (.t 1)) (.o 6 (.fieldAddr 0 (.t 5)) (.o 7 (.load none (.t 6)) (.o 8 (.fieldAddr 1 (.t 1)) (.o 9 (.fieldAddr 1 (.t 8)) (.o 10 (.load none (.t 9)) (.o 11 (.idxAddr 3 (.t 7) (.t 10)) (.o 12 (.fieldAddr 1 (.t 11)) (.o 13 (.load none (.t 12)) (.o 14 (.bin .geq (.t 4) (.t 13)) (.o 3 (.m 14) .nil))))))))))))) .ret)), [.tmp 3]⟩
theorem b171 : fnOf Go.Proofs.Tryz.prog (owOf []) 171 = some c171 := by kernel_rfl
def c172 : RFn := ⟨(.seq (rf (.o 3 (.move (.c (.bool false))) .nil)) (.seq (rf (.o 4 (.load none (.t 0)) (.o 5 (.m 4) (.grd 5 true (.o 6 (.fieldAddr 6 (.t 1)) (.o 7 (.load none (.t 6)) (.o 8 (.fieldAddr 0 (.t 2)) (.o 9 (.fieldAddr 0 (.t 8)) (.o 10 (.load none (.t 9)) (.o 11 (.len false (.t 10)) (.o 12 (.bin .geq (.t 7) (.t 11)) .nil))))))) (.o 13 (.pick (.t 5) (.t 12) (.c (.bool false))) (.o 3 (.m 13) .nil)))))) .ret)), [.tmp 3]⟩
theorem b172 : fnOf Go.Proofs.Tryz.prog (owOf []) 172 = some c172 := by kernel_rfl
def c173 : RFn := ⟨(.seq (rf (.o 3 (.move (.c (.bool false))) .nil)) (.seq (rt (.o 4 (.load none (.t 0)) (.op (some 5) (.m 4) 1 (.grd 5 true (.op (some 6) (.fieldAddr 0 (.t 1)) 3 (.op (some 7) (.fieldAddr 0 (.t 6)) 7 (.op (some 8) (.load none (.t 7)) 15 (.op (some 9) (.fieldAddr 6 (.t 2)) 3 (.op (some 10) (.load none (.t 9)) 35 (.op (some 11) (.idxAddr 3 (.t 8) (.t 10)) 127 (.op (some 12) (.fieldAddr 0 (.t 11)) 255 (.op (some 13) (.load none (.t 12)) 511 (.op (some 14) (.fieldAddr 7 (.t 2)) 3 (.op (some 15) (.load none (.t 14)) 1027 (.op (some 16) (.bin .neq (.t 13) (.t 15)) 4095 .nil))))))))))) (.op (some 17) (.pick (.t 5) (.t 16) (.c (.bool false))) 8191 (.op (some 3) (.m 17) 16383 .nil)))))) .ret)), [.tmp 3]⟩
theorem b173 : fnOf Go.Proofs.Tryz.prog (owOf []) 173 = some c173 := by kernel_rfl
def c174 : RFn := ⟨(.seq (rf (.o 1 (.move (.c (.bool false))) .nil)) (.seq (rf (.o 2 (.load (some 18) (.t 0)) (.o 3 (.call 132 [(.t 2)]) (.o 4 (.len false (.t 3)) (.o 5 (.bin .geq (.t 4) (.i 16)) (.o 6 (.m 5) (.grd 6 false (.o 7 (.fieldAddr 0 (.t 0)) (.o 8 (.load (some 1) (.t 7)) (.o 9 (.call 44 [(.t 8)]) (.o 10 (.bin .lss (.t 9) (.i 0)) .nil)))) (.o 11 (.pick (.t 6) (.c (.bool true)) (.t 10)) (.o 1 (.m 11) .nil))))))))) .ret)), [.tmp 1]⟩
theorem b174 : fnOf Go.Proofs.Tryz.prog (owOf []) 174 = some c174 := by kernel_rfl
theorem p_ins1 (p : List Fn) (e : Ed) (hp : Fit p) : Pure Go.Proofs.Tryz.prog glD 166 [.fptr (cA p e)] (.bool (decide (e.pos < 0) || decide (e.pos > ((codeV p e.f e.b).length : Nat)))) := by
  have hc := p_code p e hp
  refine Pure.fn hmix b166 ?_
  repeat' first | (with_reducible first | refine tr_seq ?_ | refine n_nil ?_ | refine seqQ_normal ?_ | refine tr_ret ?_) | ((with_reducible refine tr_region_f ?_ ?_); kernel_rfl) | ((with_reducible refine tr_region_t ?_ ?_ ?_); kernel_rfl; kernel_rfl) | exact ⟨rfl, rfl⟩ | ((with_reducible apply n_or); rfl; rfl; intro h) | ((with_reducible apply n_call (f := 132)); rfl; rfl; exact hc) | ((with_reducible apply n_val); rfl; rfl) | ((with_reducible apply fnQ_ret_soft); rfl; rfl) | fail
  rw [List.length_map]
theorem p_ins2 (i : In) : Pure Go.Proofs.Tryz.prog glD 167 [.fptr (cI i)] (.bool (i.id != 0 || !form i)) := by
  refine Pure.fn hmix b167 ?_
  repeat' first | (with_reducible first | refine tr_seq ?_ | refine n_nil ?_ | refine seqQ_normal ?_ | refine tr_ret ?_) | ((with_reducible refine tr_region_f ?_ ?_); kernel_rfl) | exact ⟨rfl, rfl⟩ | ((with_reducible apply n_or); rfl; rfl; intro h) | ((with_reducible apply n_val); rfl; rfl) | ((with_reducible apply n_call (f := 168)); rfl; rfl; exact p_Form i) | ((with_reducible apply fnQ_ret_soft); rfl; rfl) | fail
  rfl
theorem p_ins31 {gl : Nat → Option PV} (p : List Fn) (e : Ed) (v : Int) (h : 0 ≤ e.f ∧ e.f < (p.length : Nat)) : Pure Go.Proofs.Tryz.prog gl 171 [.int .i64 v, .fptr (cA p e)] (.bool (decide (v ≥ (p.getD e.f.toNat F0).vs))) := by
  refine Pure.fn hmix b171 ?_
  repeat' first | (with_reducible first | refine tr_seq ?_ | refine n_nil ?_ | refine seqQ_normal ?_ | refine tr_ret ?_) | ((with_reducible refine tr_region_f ?_ ?_); kernel_rfl) | ((with_reducible apply n_idx_vals F0); rfl; rfl; exact (fun _ => rfl); (omega)) | ((with_reducible apply n_val); rfl; rfl) | ((with_reducible apply fnQ_ret_soft); rfl; rfl) | fail
  rfl
theorem p_ins3 (p : List Fn) (e : Ed) (i : In) (h : 0 ≤ e.f ∧ e.f < (p.length : Nat)) : Pure Go.Proofs.Tryz.prog glD 169 [.fptr (cI i), .fptr (cA p e)] (.bool ((varsI i).any fun v => decide (v ≥ (p.getD e.f.toNat F0).vs))) := by
  have hC := p_ctnF (gl := glD) (varsI i) 171 [.fptr (cA p e)] (fun v => decide (v ≥ (p.getD e.f.toNat F0).vs)) (vars_len5 i) rfl (fun j _ => p_ins31 p e _ h)
  refine Pure.fn hmix b169 ?_
  repeat' first | (with_reducible first | refine tr_seq ?_ | refine n_nil ?_ | refine seqQ_normal ?_ | refine tr_ret ?_) | ((with_reducible refine tr_region_f ?_ ?_); kernel_rfl) | ((with_reducible apply n_val); rfl; rfl) | ((with_reducible apply n_call (f := 170)); rfl; rfl; exact p_Vars i) | ((with_reducible apply n_callb ); rfl; rfl; exact hC; rfl) | ((with_reducible apply fnQ_ret_soft); rfl; rfl) | fail
  rfl
theorem p_ins4 {gl : Nat → Option PV} (p : List Fn) (e : Ed) (i : In) (c : Bool) : Pure Go.Proofs.Tryz.prog gl 172 [.fptr [.bool c], .fptr (cI i), .fptr (cA p e)] (.bool (c && decide (i.f ≥ (p.length : Nat)))) := by
  refine Pure.fn hmix b172 ?_
  repeat' first | (with_reducible first | refine tr_seq ?_ | refine n_nil ?_ | refine seqQ_normal ?_ | refine tr_ret ?_) | ((with_reducible refine tr_region_f ?_ ?_); kernel_rfl) | exact ⟨rfl, rfl⟩ | ((with_reducible apply n_and); rfl; rfl; intro h) | ((with_reducible apply n_val); rfl; rfl) | ((with_reducible apply fnQ_ret_soft); rfl; rfl) | fail
  rw [List.length_map]
theorem p_ins5 {gl : Nat → Option PV} (p : List Fn) (e : Ed) (i : In) (c : Bool) (h : c = true → 0 ≤ i.f ∧ i.f < (p.length : Nat)) : Pure Go.Proofs.Tryz.prog gl 173 [.fptr [.bool c], .fptr (cA p e), .fptr (cI i)] (.bool (c && (p.getD i.f.toNat F0).ar != i.n)) := by
  have hc := h
  refine Pure.fn hmix b173 ?_
  repeat' first | (with_reducible first | refine tr_seq ?_ | refine n_nil ?_ | refine seqQ_normal ?_ | refine tr_ret ?_) | ((with_reducible refine tr_region_f ?_ ?_); kernel_rfl) | ((with_reducible refine tr_region_t ?_ ?_ ?_); kernel_rfl; kernel_rfl) | exact ⟨rfl, rfl⟩ | ((with_reducible apply n_and); rfl; rfl; intro h) | ((with_reducible apply n_idx_vals F0); rfl; rfl; exact (fun _ => rfl); exact hc (by assumption)) | ((with_reducible apply n_val); rfl; rfl) | ((with_reducible apply fnQ_ret_soft); rfl; rfl) | fail
  rfl
theorem p_ins6 (p : List Fn) (e : Ed) (hp : Fit p) : Pure Go.Proofs.Tryz.prog glD 174 [.fptr (cA p e)] (.bool (decide (((codeV p e.f e.b).length : Int) ≥ 16) || decide (newIdV p < 0))) := by
  have hc := p_code p e hp
  have hn := p_NewId p hp
  refine Pure.fn hmix b174 ?_
  repeat' first | (with_reducible first | refine tr_seq ?_ | refine n_nil ?_ | refine seqQ_normal ?_ | refine tr_ret ?_) | ((with_reducible refine tr_region_f ?_ ?_); kernel_rfl) | exact ⟨rfl, rfl⟩ | ((with_reducible apply n_or); rfl; rfl; intro h) | ((with_reducible apply n_call (f := 132)); rfl; rfl; exact hc) | ((with_reducible apply n_call (f := 44)); rfl; rfl; exact hn) | ((with_reducible apply n_val); rfl; rfl) | ((with_reducible apply fnQ_ret_soft); rfl; rfl) | fail
  rw [List.length_map]
theorem p_insert (p : List Fn) (e : Ed) (hf : few p = true) (h : 0 ≤ e.f ∧ e.f < (p.length : Nat)) : Pure Go.Proofs.Tryz.prog glD 130 [pA p e] (.int .i64 (insV p e)) := by
  have hp := few_fit hf
  have hb := p_blk p e [e.b]
  have hr := p_first (gl := glD) [⟨2, 162, [.fptr [.sl (ints [e.b])], .fptr (cA p e)], noB p e.f [e.b]⟩,
    ⟨3, 166, [.fptr (cA p e)], decide (e.pos < 0) || decide (e.pos > ((codeV p e.f e.b).length : Nat))⟩,
    ⟨9, 167, [.fptr (cI e.i)], e.i.id != 0 || !form e.i⟩,
    ⟨4, 169, [.fptr (cI e.i), .fptr (cA p e)], (varsI e.i).any fun v => decide (v ≥ (p.getD e.f.toNat F0).vs)⟩,
    ⟨1, 172, [.fptr [.bool (e.i.kind == 7)], .fptr (cI e.i), .fptr (cA p e)], e.i.kind == 7 && decide (e.i.f ≥ (p.length : Nat))⟩,
    ⟨7, 173, [.fptr [.bool (e.i.kind == 7)], .fptr (cA p e), .fptr (cI e.i)], e.i.kind == 7 && (p.getD e.i.f.toNat F0).ar != e.i.n⟩,
    ⟨8, 174, [.fptr (cA p e)], decide (((codeV p e.f e.b).length : Int) ≥ 16) || decide (newIdV p < 0)⟩] (by simp)
    ⟨rfl, p_blk1 p e [e.b] (by simp) hp, fun _ => ⟨rfl, p_ins1 p e hp, fun _ => ⟨rfl, p_ins2 e.i, fun q2 => ⟨rfl, p_ins3 p e e.i h, fun _ => ⟨rfl, p_ins4 p e e.i _, fun q4 => ⟨rfl, p_ins5 p e e.i _ (fun hk => by
      have q2' : (e.i.id != 0 || !form e.i) = false := q2
      have q4' : (e.i.kind == 7 && decide (e.i.f ≥ (p.length : Nat))) = false := q4
      rw [hk, Bool.true_and, decide_eq_false_iff_not] at q4'
      simp only [Bool.or_eq_false_iff, Bool.not_eq_false'] at q2'
      exact ⟨form_call q2'.2 (by simpa using hk), by omega⟩), fun _ => ⟨rfl, p_ins6 p e hp, fun _ => trivial⟩⟩⟩⟩⟩⟩⟩
  refine Pure.fn hmix b130 ?_
  repeat' first | (with_reducible first | refine tr_seq ?_ | refine n_nil ?_ | refine seqQ_normal ?_ | refine tr_ret ?_) | ((with_reducible refine tr_region_f ?_ ?_); kernel_rfl) | ((with_reducible apply n_call (f := 124)); rfl; rfl; exact hb) | ((with_reducible apply n_callb (f := 120)); rfl; rfl; exact hr; rfl) | ((with_reducible apply n_val); rfl; rfl) | ((with_reducible apply n_new); rfl; (((simp only [hn0, hn1, hn2, hn3, hn4, hn5, List.length_cons, List.length_nil, Nat.reduceAdd, Nat.zero_add]; rfl))); rfl) | ((with_reducible apply n_store); rfl; rfl; rfl; rfl; rfl) | ((with_reducible apply fnQ_ret_soft); rfl; rfl) | fail
  rfl
theorem p_oth1 (p : List Fn) (e : Ed) (hp : Fit p) : Pure Go.Proofs.Tryz.prog glD 123 [.fptr (cA p e), .fptr (cE e)] (.bool (decide (newBlockV p e.f < 0))) := by
  have hn := p_NewBlock p e.f hp
  refine Pure.fn hmix b123 ?_
  repeat' first | (with_reducible first | refine tr_seq ?_ | refine n_nil ?_ | refine seqQ_normal ?_ | refine tr_ret ?_) | ((with_reducible refine tr_region_f ?_ ?_); kernel_rfl) | ((with_reducible apply n_call (f := 86)); rfl; rfl; exact hn) | ((with_reducible apply n_val); rfl; rfl) | ((with_reducible apply fnQ_ret_soft); rfl; rfl) | fail
  rfl
theorem p_oth2 {gl : Nat → Option PV} (e : Ed) : Pure Go.Proofs.Tryz.prog gl 125 [.fptr (cE e)] (.bool (e.b == 0)) := by
  refine Pure.fn hmix b125 ?_
  repeat' first | (with_reducible first | refine tr_seq ?_ | refine n_nil ?_ | refine seqQ_normal ?_ | refine tr_ret ?_) | ((with_reducible refine tr_region_f ?_ ?_); kernel_rfl) | ((with_reducible apply n_val); rfl; rfl) | ((with_reducible apply fnQ_ret_soft); rfl; rfl) | fail
  rfl
theorem p_oth3 (p : List Fn) (e : Ed) (hf : few p = true) : Pure Go.Proofs.Tryz.prog glD 126 [.fptr (cA p e), .fptr (cE e)] (.bool (edgV p e.f e.b e.to)) := by
  have hn := p_edge p e e.to hf
  refine Pure.fn hmix b126 ?_
  repeat' first | (with_reducible first | refine tr_seq ?_ | refine n_nil ?_ | refine seqQ_normal ?_ | refine tr_ret ?_) | ((with_reducible refine tr_region_f ?_ ?_); kernel_rfl) | ((with_reducible apply n_call (f := 127)); rfl; rfl; exact hn) | ((with_reducible apply n_val); rfl; rfl) | ((with_reducible apply fnQ_ret_soft); rfl; rfl) | fail
  rfl
theorem p_oth4 (p : List Fn) (e : Ed) (hf : few p = true) : Pure Go.Proofs.Tryz.prog glD 128 [.fptr (cA p e), .fptr (cE e)] (.bool (!edgV p e.f e.b e.to)) := by
  have hn := p_edge p e e.to hf
  refine Pure.fn hmix b128 ?_
  repeat' first | (with_reducible first | refine tr_seq ?_ | refine n_nil ?_ | refine seqQ_normal ?_ | refine tr_ret ?_) | ((with_reducible refine tr_region_f ?_ ?_); kernel_rfl) | ((with_reducible apply n_call (f := 127)); rfl; rfl; exact hn) | ((with_reducible apply n_val); rfl; rfl) | ((with_reducible apply fnQ_ret_soft); rfl; rfl) | fail
  rfl
theorem p_oth5 (p : List Fn) (e : Ed) (hf : few p = true) : Pure Go.Proofs.Tryz.prog glD 129 [.fptr (cA p e), .fptr (cE e)] (.bool (!edgV p e.f e.b e.to || (e.ot != e.to && edgV p e.f e.b e.ot))) := by
  have hn := p_edge p e e.to hf
  have hn2 := p_edge p e e.ot hf
  refine Pure.fn hmix b129 ?_
  repeat' first | (with_reducible first | refine tr_seq ?_ | refine n_nil ?_ | refine seqQ_normal ?_ | refine tr_ret ?_) | ((with_reducible refine tr_region_f ?_ ?_); kernel_rfl) | exact ⟨rfl, rfl⟩ | ((with_reducible apply n_and); rfl; rfl; intro h) | ((with_reducible apply n_or); rfl; rfl; intro h) | ((with_reducible apply n_call (f := 127)); rfl; rfl; exact hn) | ((with_reducible apply n_call (f := 127)); rfl; rfl; exact hn2) | ((with_reducible apply n_val); rfl; rfl) | ((with_reducible apply fnQ_ret_soft); rfl; rfl) | fail
  rfl
theorem p_oth6 (p : List Fn) (e : Ed) (hp : Fit p) : Pure Go.Proofs.Tryz.prog glD 131 [.fptr (cE e), .fptr (cA p e)] (.bool (decide (e.pos < 0) || decide (e.pos ≥ ((codeV p e.f e.b).length : Nat)))) := by
  have hc := p_code p e hp
  refine Pure.fn hmix b131 ?_
  repeat' first | (with_reducible first | refine tr_seq ?_ | refine n_nil ?_ | refine seqQ_normal ?_ | refine tr_ret ?_) | ((with_reducible refine tr_region_f ?_ ?_); kernel_rfl) | ((with_reducible refine tr_region_t ?_ ?_ ?_); kernel_rfl; kernel_rfl) | exact ⟨rfl, rfl⟩ | ((with_reducible apply n_or); rfl; rfl; intro h) | ((with_reducible apply n_call (f := 132)); rfl; rfl; exact hc) | ((with_reducible apply n_val); rfl; rfl) | ((with_reducible apply fnQ_ret_soft); rfl; rfl) | fail
  rw [List.length_map]
theorem p_other (p : List Fn) (e : Ed) (hf : few p = true) (h : 0 ≤ e.f ∧ e.f < (p.length : Nat)) : Pure Go.Proofs.Tryz.prog glD 83 [pA p e] (.int .i64 (othV p e)) := by
  have hp := few_fit hf
  have hins := p_insert p e hf h
  have hb1 := p_blk p e [e.b]
  have hb2 := p_blk p e [e.b, e.to]
  have hb3 := p_blk p e [e.b, e.to, e.ot]
  have r1 := p_first (gl := glD) [⟨8, 123, [.fptr (cA p e), .fptr (cE e)], decide (newBlockV p e.f < 0)⟩] (by simp) ⟨rfl, p_oth1 p e hp, fun _ => trivial⟩
  have r2 := p_first (gl := glD) [⟨2, 162, [.fptr [.sl (ints [e.b])], .fptr (cA p e)], noB p e.f [e.b]⟩, ⟨6, 125, [.fptr (cE e)], e.b == 0⟩] (by simp) ⟨rfl, p_blk1 p e [e.b] (by simp) hp, fun _ => ⟨rfl, p_oth2 e, fun _ => trivial⟩⟩
  have r3 := p_first (gl := glD) [⟨2, 162, [.fptr [.sl (ints [e.b, e.to])], .fptr (cA p e)], noB p e.f [e.b, e.to]⟩, ⟨5, 126, [.fptr (cA p e), .fptr (cE e)], edgV p e.f e.b e.to⟩] (by simp) ⟨rfl, p_blk1 p e [e.b, e.to] (by simp) hp, fun _ => ⟨rfl, p_oth3 p e hf, fun _ => trivial⟩⟩
  have r4 := p_first (gl := glD) [⟨2, 162, [.fptr [.sl (ints [e.b, e.to])], .fptr (cA p e)], noB p e.f [e.b, e.to]⟩, ⟨5, 128, [.fptr (cA p e), .fptr (cE e)], !edgV p e.f e.b e.to⟩] (by simp) ⟨rfl, p_blk1 p e [e.b, e.to] (by simp) hp, fun _ => ⟨rfl, p_oth4 p e hf, fun _ => trivial⟩⟩
  have r5 := p_first (gl := glD) [⟨2, 162, [.fptr [.sl (ints [e.b, e.to, e.ot])], .fptr (cA p e)], noB p e.f [e.b, e.to, e.ot]⟩, ⟨5, 129, [.fptr (cA p e), .fptr (cE e)], !edgV p e.f e.b e.to || (e.ot != e.to && edgV p e.f e.b e.ot)⟩] (by simp) ⟨rfl, p_blk1 p e [e.b, e.to, e.ot] (by simp) hp, fun _ => ⟨rfl, p_oth5 p e hf, fun _ => trivial⟩⟩
  have r6 := p_first (gl := glD) [⟨2, 162, [.fptr [.sl (ints [e.b])], .fptr (cA p e)], noB p e.f [e.b]⟩, ⟨3, 131, [.fptr (cE e), .fptr (cA p e)], decide (e.pos < 0) || decide (e.pos ≥ ((codeV p e.f e.b).length : Nat))⟩] (by simp) ⟨rfl, p_blk1 p e [e.b] (by simp) hp, fun _ => ⟨rfl, p_oth6 p e hp, fun _ => trivial⟩⟩
  refine Pure.fn hmix b83 ?_
  repeat' first | (with_reducible first | refine tr_seq ?_ | refine n_nil ?_ | refine seqQ_normal ?_ | refine seqQ_ret ?_ | refine blkQ_normal ?_ | refine blkQ_ret ?_ | refine tr_block ?_ | refine tr_skip ?_ | refine tr_ret ?_) | ((with_reducible refine tr_region_f ?_ ?_); kernel_rfl) | ((with_reducible apply tr_cond_e); rfl) | ((with_reducible apply n_call (f := 130)); rfl; rfl; exact hins) | ((with_reducible apply n_call (f := 124)); rfl; rfl; first | exact hb1 | exact hb2 | exact hb3) | ((with_reducible apply n_callb (f := 120)); rfl; rfl; (first | exact r1 | exact r2 | exact r3 | exact r4 | exact r5 | exact r6); rfl) | ((with_reducible apply n_val); rfl; rfl) | ((with_reducible apply n_new); rfl; (((simp only [hn0, hn1, hn2, hn3, hn4, hn5, List.length_cons, List.length_nil, Nat.reduceAdd, Nat.zero_add]; rfl))); rfl) | ((with_reducible apply n_store); rfl; rfl; rfl; rfl; rfl) | (with_reducible refine condT_split (fun h => ?_) (fun h => ?_)) | ((with_reducible apply fnQ_ret_soft); rfl; rfl) | fail
  all_goals (
    clear hins hb1 hb2 hb3 r1 r2 r3 r4 r5 r6
    refine congrArg (PV.int .i64) ?_
    simp only [beq_iff_eq, beq_eq_false_iff_ne, ne_eq] at *
    unfold othV
    repeat (first | rw [if_pos (by assumption)] | rw [if_neg (by assumption)])
    try rfl)
theorem p_edCheck (p : List Fn) (e : Ed) (hf : few p = true) : Pure Go.Proofs.Tryz.prog glD 38 [pP p, pE e] (.int .i64 (cheV p e)) := by
  have hp := few_fit hf
  have hs := p_Sane p hp
  have hn := p_edName e.op
  have ha := p_addFun (gl := glD) p e
  have hN : ((nmO e.op).toList == (⟨#[]⟩ : ByteArray).toList) = !decide (0 ≤ e.op ∧ e.op < 8) := nmO_empty e.op
  by_cases h : 0 ≤ e.f ∧ e.f < (p.length : Nat)
  · have ho := p_other p e hf h
    refine Pure.fn hmix b38 ?_
    repeat' first | (with_reducible first | refine tr_seq ?_ | refine n_nil ?_ | refine seqQ_normal ?_ | refine seqQ_ret ?_ | refine blkQ_normal ?_ | refine blkQ_ret ?_ | refine tr_block ?_ | refine tr_skip ?_ | refine tr_ret ?_) | ((with_reducible refine tr_region_f ?_ ?_); kernel_rfl) | exact ⟨rfl, rfl⟩ | ((with_reducible apply tr_cond_e); rfl) | ((with_reducible apply n_or); rfl; rfl; intro h) | ((with_reducible apply n_call (f := 17)); rfl; rfl; exact hs) | ((with_reducible apply n_call (f := 81)); rfl; rfl; exact hn) | ((with_reducible apply n_call (f := 82)); rfl; rfl; exact ha) | ((with_reducible apply n_call (f := 83)); rfl; rfl; exact ho) | ((with_reducible apply n_val); rfl; rfl) | ((with_reducible apply n_new); rfl; (((simp only [hn0, hn1, hn2, hn3, hn4, hn5, List.length_cons, List.length_nil, Nat.reduceAdd, Nat.zero_add]; rfl))); rfl) | ((with_reducible apply n_store); rfl; rfl; rfl; rfl; rfl) | (with_reducible refine condT_split (fun h => ?_) (fun h => ?_)) | ((with_reducible apply fnQ_ret_soft); rfl; rfl) | fail
    all_goals (
      clear hs hn ha
      refine congrArg (PV.int .i64) ?_
      simp only [hN, Bool.not_eq_true', Bool.not_eq_false', decide_eq_true_eq, decide_eq_false_iff_not, beq_iff_eq, beq_eq_false_iff_ne, ne_eq, Bool.or_eq_true, Bool.or_eq_false_iff, List.length_map] at *
      first
        | (exfalso; omega)
        | (unfold cheV
           repeat (first | rw [if_pos (by first | assumption | omega)] | rw [if_neg (by first | assumption | omega | (simp_all; done))])))
  · refine Pure.fn hmix b38 ?_
    repeat' first | (with_reducible first | refine tr_seq ?_ | refine n_nil ?_ | refine seqQ_normal ?_ | refine seqQ_ret ?_ | refine blkQ_normal ?_ | refine blkQ_ret ?_ | refine tr_block ?_ | refine tr_skip ?_ | refine tr_ret ?_) | ((with_reducible refine tr_region_f ?_ ?_); kernel_rfl) | exact ⟨rfl, rfl⟩ | ((with_reducible apply tr_cond_e); rfl) | ((with_reducible apply n_or); rfl; rfl; intro h) | ((with_reducible apply n_call (f := 17)); rfl; rfl; exact hs) | ((with_reducible apply n_call (f := 81)); rfl; rfl; exact hn) | ((with_reducible apply n_call (f := 82)); rfl; rfl; exact ha) | (exfalso; rename (_ || _) = false => hq; simp only [Bool.or_eq_false_iff, decide_eq_false_iff_not, List.length_map] at hq; omega) | ((with_reducible apply n_val); rfl; rfl) | ((with_reducible apply n_new); rfl; (((simp only [hn0, hn1, hn2, hn3, hn4, hn5, List.length_cons, List.length_nil, Nat.reduceAdd, Nat.zero_add]; rfl))); rfl) | ((with_reducible apply n_store); rfl; rfl; rfl; rfl; rfl) | (with_reducible refine condT_split (fun h => ?_) (fun h => ?_)) | ((with_reducible apply fnQ_ret_soft); rfl; rfl) | fail
    all_goals (
      clear hs hn ha
      refine congrArg (PV.int .i64) ?_
      simp only [hN, Bool.not_eq_true', Bool.not_eq_false', decide_eq_true_eq, decide_eq_false_iff_not, beq_iff_eq, beq_eq_false_iff_ne, ne_eq, Bool.or_eq_true, Bool.or_eq_false_iff, List.length_map] at *
      first
        | (exfalso; omega)
        | (unfold cheV
           repeat (first | rw [if_pos (by first | assumption | omega)] | rw [if_neg (by first | assumption | omega | (simp_all; done))])))
theorem p_edTou (p : List Fn) (e : Ed) (hf : few p = true) : Pure Go.Proofs.Tryz.prog glD 45 [pP p, pE e] (.sl (ints (touV p e))) := by
  have hc := p_edCheck p e hf
  unfold touV
  generalize cheV p e = c at *
  refine Pure.fn hmix b45 ?_
  repeat' first | (with_reducible first | refine tr_seq ?_ | refine n_nil ?_ | refine seqQ_normal ?_ | refine seqQ_ret ?_ | refine blkQ_normal ?_ | refine blkQ_ret ?_ | refine tr_block ?_ | refine tr_skip ?_ | refine tr_ret ?_) | ((with_reducible refine tr_region_f ?_ ?_); kernel_rfl) | ((with_reducible apply tr_cond_e); rfl) | ((with_reducible apply n_call (f := 38)); rfl; rfl; exact hc) | ((with_reducible apply n_val); rfl; rfl) | ((with_reducible apply n_new); rfl; (((simp only [hn0, hn1, hn2, hn3, hn4, hn5, List.length_cons, List.length_nil, Nat.reduceAdd, Nat.zero_add]; rfl))); rfl) | ((with_reducible apply n_row); rfl; (((simp only [hn0, hn1, hn2, hn3, hn4, hn5, List.length_cons, List.length_nil, Nat.reduceAdd, Nat.zero_add]; rfl))); rfl) | (with_reducible refine condT_split (fun h => ?_) (fun h => ?_)) | ((with_reducible apply fnQ_ret_soft); rfl; rfl) | fail
  all_goals (simp only [bne_iff_ne, bne_eq_false_iff_eq, beq_iff_eq, beq_eq_false_iff_ne, ne_eq] at *)
  · rw [if_pos (by assumption)]; rfl
  · rw [if_neg (by omega), if_pos (by assumption), List.length_map]; rfl
  · rw [if_neg (by omega), if_neg (by assumption)]; rfl
theorem p_edSame (p : List Fn) (e : Ed) (hf : few p = true) : Pure Go.Proofs.Tryz.prog glD 46 [pP p, pE e] (.bool (samV p e)) := by
  have hc := p_edCheck p e hf
  unfold samV
  generalize cheV p e = c at *
  refine Pure.fn hmix b46 ?_
  repeat' first | (with_reducible first | refine tr_seq ?_ | refine n_nil ?_ | refine seqQ_normal ?_ | refine tr_ret ?_) | ((with_reducible refine tr_region_f ?_ ?_); kernel_rfl) | exact ⟨rfl, rfl⟩ | ((with_reducible apply n_and); rfl; rfl; intro h) | ((with_reducible apply n_call (f := 38)); rfl; rfl; exact hc) | ((with_reducible apply n_val); rfl; rfl) | ((with_reducible apply n_new); rfl; (((simp only [hn0, hn1, hn2, hn3, hn4, hn5, List.length_cons, List.length_nil, Nat.reduceAdd, Nat.zero_add]; rfl))); rfl) | ((with_reducible apply fnQ_ret_soft); rfl; rfl) | fail
  rfl
section
variable {gl : Nat → Option PV}
end
section
variable {gl : Nat → Option PV}
end
def e0 : Ed := ⟨3, 0, 0, 0, 0, 0, i0⟩
end Go.Vm
