/- Laid. -/
import Derived.Test.YtlllcmahmgdppaaGreatDoorVmThree
import Derived.KernelRfl
import Derived.Test.YtlllcmahmgdppaaGreatDoorProg
import Derived.Test.YtlllcmahmgdppaaGreatDoorXprogQ
import Derived.Test.YtlllcmahmgdppaaGreatDoorLAll
section
/- Code. -/
set_option maxRecDepth 100000
set_option linter.unusedSimpArgs false
set_option linter.unusedVariables false
namespace Go.Vm
open Go
def c47 : RFn := ⟨(.seq (rf (.o 2 (.move (.c (.str ⟨#[]⟩))) .nil)) (.seq (.seq (rf (.o 3 (.m 0) (.o 4 (.bin .lss (.t 3) (.i 0)) (.o 5 (.m 4) (.grd 5 false (.o 6 (.m 0) (.o 7 (.bin .geq (.t 6) (.i 8)) .nil)) (.o 8 (.pick (.t 5) (.c (.bool true)) (.t 7)) .nil)))))) (.cond (.t 8) (.seq (rf (.o 2 (.move (.c (.str ⟨#[]⟩))) .nil)) .ret) .skip)) (.seq (rf (.o 9 (.call 76 [(.c (.str ⟨#[97, 100, 100, 102, 117, 110, 32, 97, 100, 100, 98, 108, 111, 99, 107, 32, 100, 101, 108, 98, 108, 111, 99, 107, 32, 97, 100, 100, 101, 100, 103, 101, 32, 100, 101, 108, 101, 100, 103, 101, 32, 114, 101, 119, 105, 114, 101, 32, 105, 110, 115, 101, 114, 116, 32, 100, 101, 108, 101, 116, 101]⟩))]) (.o 10 (.m 0) (.o 11 (.idxAddr 1 (.t 9) (.t 10)) (.o 12 (.load none (.t 11)) (.o 2 (.m 12) .nil)))))) .ret))), [.tmp 2]⟩
theorem b47 : fnOf Go.Proofs.Tryz.prog (owOf []) 47 = some c47 := by kernel_rfl
def c67 : RFn := ⟨(.seq (rf (.o 1 (.box (.t 0)) (.o 2 (.move (.i 0)) .nil))) (.seq (rf (.o 3 (.mkfunc 92 [(.t 1)]) (.o 4 (.build [(.int .i64 0), .nilf] [(0, 1, (.i 9)), (1, 1, (.t 3))]) (.o 5 (.mkfunc 93 [(.t 1)]) (.o 6 (.build [(.int .i64 0), .nilf] [(0, 1, (.i 8)), (1, 1, (.t 5))]) (.o 7 (.bslice false 2 2 (.agg [(.int .i64 0), .nilf]) [(0, (.t 4)), (1, (.t 6))]) (.o 8 (.call 91 [(.t 7)]) (.o 2 (.m 8) .nil)))))))) .ret)), [.tmp 2]⟩
theorem b67 : fnOf Go.Proofs.Tryz.prog (owOf [(1, 4)]) 67 = some c67 := by kernel_rfl
def c91 : RFn := ⟨(.seq (rf (.o 2 (.move (.i 0)) .nil)) (.seq (.seq (rf (.o 5 (.m 0) (.o 6 (.len false (.t 5)) (.o 7 (.move (.i 0)) .nil)))) (.block 0 (.loop (.seq (rf (.o 8 (.bin .lss (.t 7) (.t 6)) .nil)) (.seq (.cond (.t 8) .skip (.exit 0)) (.seq (.block 1 (.seq (rf (.o 9 (.idxAddr 2 (.t 5) (.t 7)) (.o 10 (.load (some 2) (.t 9)) (.o 4 (.alloc (.agg [(.int .i64 0), .nilf])) (.op none (.store 2 (.t 4) (.t 10)) 0 .nil))))) (.seq (rf (.o 11 (.fieldAddr 1 (.t 4)) (.o 12 (.load none (.t 11)) (.o 13 (.callv (.t 12) []) .nil)))) (.cond (.t 13) (.seq (rf (.o 14 (.fieldAddr 0 (.t 4)) (.o 15 (.load none (.t 14)) (.o 2 (.m 15) .nil)))) .ret) .skip)))) (rf (.o 16 (.bin .add (.t 7) (.i 1)) (.o 7 (.m 16) .nil))))))))) (.seq (rf (.o 2 (.move (.i 0)) .nil)) .ret))), [.tmp 2]⟩
theorem b91 : fnOf Go.Proofs.Tryz.prog (owOf []) 91 = some c91 := by kernel_rfl
def c92 : RFn := ⟨(.seq (rf (.o 1 (.move (.c (.bool false))) .nil)) (.seq (rf (.o 2 (.fieldAddr 1 (.t 0)) (.o 3 (.fieldAddr 2 (.t 2)) (.o 4 (.load none (.t 3)) (.o 5 (.bin .lss (.t 4) (.i 0)) (.o 6 (.m 5) (.grd 6 false (.o 7 (.fieldAddr 1 (.t 0)) (.o 8 (.fieldAddr 2 (.t 7)) (.o 9 (.load none (.t 8)) (.o 10 (.bin .gtr (.t 9) (.i 3)) .nil)))) (.o 11 (.pick (.t 6) (.c (.bool true)) (.t 10)) (.o 12 (.m 11) (.grd 12 false (.o 13 (.fieldAddr 1 (.t 0)) (.o 14 (.fieldAddr 3 (.t 13)) (.o 15 (.load none (.t 14)) (.o 16 (.fieldAddr 1 (.t 0)) (.o 17 (.fieldAddr 2 (.t 16)) (.o 18 (.load none (.t 17)) (.o 19 (.bin .lss (.t 15) (.t 18)) .nil))))))) (.o 20 (.pick (.t 12) (.c (.bool true)) (.t 19)) (.o 21 (.m 20) (.grd 21 false (.o 22 (.fieldAddr 1 (.t 0)) (.o 23 (.fieldAddr 3 (.t 22)) (.o 24 (.load none (.t 23)) (.o 25 (.bin .gtr (.t 24) (.i 6)) .nil)))) (.o 26 (.pick (.t 21) (.c (.bool true)) (.t 25)) (.o 1 (.m 26) .nil))))))))))))))) .ret)), [.tmp 1]⟩
theorem b92 : fnOf Go.Proofs.Tryz.prog (owOf []) 92 = some c92 := by kernel_rfl
def c93 : RFn := ⟨(.seq (rf (.o 1 (.move (.c (.bool false))) .nil)) (.seq (rf (.o 2 (.fieldAddr 0 (.t 0)) (.o 3 (.fieldAddr 0 (.t 2)) (.o 4 (.load none (.t 3)) (.o 5 (.len false (.t 4)) (.o 6 (.bin .geq (.t 5) (.i 6)) (.o 1 (.m 6) .nil))))))) .ret)), [.tmp 1]⟩
theorem b93 : fnOf Go.Proofs.Tryz.prog (owOf []) 93 = some c93 := by kernel_rfl
def c95 : RFn := ⟨(.seq (rf (.o 2 (.box (.t 0)) (.o 3 (.box (.t 1)) (.o 4 (.alloc (.agg [(.int .i64 0), .nilf])) .nil)))) (.seq (rf (.o 5 (.mkfunc 129 [(.t 3), (.t 2)]) (.o 6 (.build [(.int .i64 0), .nilf] [(0, 1, (.i 2)), (1, 1, (.t 5))]) (.op none (.store 2 (.t 4) (.t 6)) 0 .nil)))) .ret)), [.cell (some 2) 4]⟩
theorem b95 : fnOf Go.Proofs.Tryz.prog (owOf []) 95 = some c95 := by kernel_rfl
def c98 : RFn := ⟨(.seq (rf (.o 2 (.box (.t 0)) (.o 4 (.move (.c (.bool false))) .nil))) (.seq (rf (.o 8 (.fieldAddr 0 (.t 2)) (.o 9 (.load (some 1) (.t 8)) (.o 10 (.fieldAddr 1 (.t 2)) (.o 11 (.fieldAddr 1 (.t 10)) (.o 12 (.load none (.t 11)) (.o 13 (.fieldAddr 1 (.t 2)) (.o 14 (.fieldAddr 2 (.t 13)) (.o 15 (.load none (.t 14)) (.o 16 (.call 23 [(.t 9), (.t 12), (.t 15)]) (.o 7 (.m 16) (.o 17 (.extract 0 (.t 7)) (.o 18 (.extract 1 (.t 7)) (.o 5 (.alloc (.agg [(.bool false), (.lit []), (.lit [])])) (.op none (.store 3 (.t 5) (.t 17)) 0 (.o 6 (.m 18) .nil)))))))))))))))) (.seq (rf (.o 19 (.fieldAddr 2 (.t 5)) (.o 20 (.load none (.t 19)) (.o 21 (.m 1) (.o 22 (.call 62 [(.t 20), (.t 21)]) (.o 4 (.m 22) .nil)))))) .ret))), [.tmp 4]⟩
theorem b98 : fnOf Go.Proofs.Tryz.prog (owOf []) 98 = some c98 := by kernel_rfl
def c103 : RFn := ⟨(.seq (rf (.o 1 (.box (.t 0)) (.o 2 (.move (.c (.lit []))) .nil))) (.seq (rf (.o 6 (.fieldAddr 0 (.t 1)) (.o 7 (.load (some 1) (.t 6)) (.o 8 (.fieldAddr 1 (.t 1)) (.o 9 (.fieldAddr 1 (.t 8)) (.o 10 (.load none (.t 9)) (.o 11 (.fieldAddr 1 (.t 1)) (.o 12 (.fieldAddr 2 (.t 11)) (.o 13 (.load none (.t 12)) (.o 14 (.call 23 [(.t 7), (.t 10), (.t 13)]) (.o 5 (.m 14) (.o 15 (.extract 0 (.t 5)) (.o 16 (.extract 1 (.t 5)) (.o 3 (.alloc (.agg [(.bool false), (.lit []), (.lit [])])) (.op none (.store 3 (.t 3) (.t 15)) 0 (.o 4 (.m 16) .nil)))))))))))))))) (.seq (rf (.o 17 (.fieldAddr 1 (.t 3)) (.o 18 (.load none (.t 17)) (.o 2 (.m 18) .nil)))) .ret))), [.tmp 2]⟩
theorem b103 : fnOf Go.Proofs.Tryz.prog (owOf []) 103 = some c103 := by kernel_rfl
def c129 : RFn := ⟨(.seq (rf (.o 2 (.move (.c (.bool false))) .nil)) (.seq (rf (.o 3 (.load none (.t 0)) (.o 4 (.mkfunc 131 [(.t 1)]) (.o 5 (.call 130 [(.t 3), (.t 4)]) (.o 2 (.m 5) .nil))))) .ret)), [.tmp 2]⟩
theorem b129 : fnOf Go.Proofs.Tryz.prog (owOf []) 129 = some c129 := by kernel_rfl
def c131 : RFn := ⟨(.seq (rf (.o 3 (.move (.c (.bool false))) .nil)) (.seq (rf (.o 7 (.fieldAddr 0 (.t 1)) (.o 8 (.load (some 1) (.t 7)) (.o 9 (.fieldAddr 1 (.t 1)) (.o 10 (.fieldAddr 1 (.t 9)) (.o 11 (.load none (.t 10)) (.o 12 (.m 0) (.o 13 (.call 23 [(.t 8), (.t 11), (.t 12)]) (.o 6 (.m 13) (.o 14 (.extract 0 (.t 6)) (.o 15 (.extract 1 (.t 6)) (.o 4 (.alloc (.agg [(.bool false), (.lit []), (.lit [])])) (.op none (.store 3 (.t 4) (.t 14)) 0 (.o 5 (.m 15) .nil)))))))))))))) (.seq (rf (.o 16 (.m 5) (.o 17 (.un .not (.t 16)) (.o 3 (.m 17) .nil)))) .ret))), [.tmp 3]⟩
theorem b131 : fnOf Go.Proofs.Tryz.prog (owOf []) 131 = some c131 := by kernel_rfl
end Go.Vm
end
section
/- Walks. -/
set_option maxRecDepth 100000
set_option linter.unusedSimpArgs false
set_option linter.unusedVariables false
namespace Go.Vm
open Go
set_option maxHeartbeats 4000000
theorem p_first {gl : Nat → Option PV} (l : List Rl) (hl : l.length ≤ 1000) (hr : RsOk Go.Proofs.Tryz.prog gl l) : Pure Go.Proofs.Tryz.prog gl 91 [.sl (l.map pR)] (.int .i64 (firstV (rsV l))) := by
  have hg := fun k hk hj => hr.get k hk hj
  refine Pure.fn hmix b91 ?_
  repeat' first | (with_reducible first | refine tr_seq ?_ | refine n_nil ?_ | refine seqQ_normal ?_ | refine seqQ_exit ?_ | refine seqQ_ret ?_ | refine blkQ_normal ?_ | refine blkQ_exit ?_ | refine blkQ_ret ?_ | refine tr_block ?_ | refine tr_skip ?_ | refine tr_exit ?_ | refine tr_ret ?_ | refine condT_t ?_ | refine condT_f ?_ | refine loopV_exit ?_ | refine loopV_ret ?_) | ((with_reducible refine tr_region_f ?_ ?_); kernel_rfl) | ((with_reducible refine blkQ_exit_ne ?_ ?_); rfl) | ((with_reducible apply tr_cond_e); rfl) | ((with_reducible apply n_idx_vals (f := pR) R0); rfl; rfl; exact (fun _ => rfl); (first | omega | decide | (simp only [zz] at *; omega))) | ((with_reducible apply n_callv_p); rfl; rfl; rfl; exact (hg k (by first | omega | decide | (simp only [zz] at *; omega)) hx.2).1; exact (hg k (by first | omega | decide | (simp only [zz] at *; omega)) hx.2).2) | (first | ((with_reducible apply n_bin); rfl; rfl; focus ((with_reducible (first | apply b_add | apply b_sub)) <;> first | omega | decide | (simp only [zz] at *; omega))) | ((with_reducible apply n_max); rfl; rfl) | ((with_reducible apply n_min); rfl; rfl)) | (refine tr_loop_v (α := Nat) 0 (fun | k => [(7, some (.int .i64 (k : Int))), (8, none), (9, none), (10, none), (4, none), (11, none), (12, none), (13, none), (14, none), (15, none), (2, none), (16, none)]) (fun | k => []) (fun | k => k ≤ l.length ∧ ∀ j, j < k → (l.getD j R0).b = false) (fun | k => l.length - k) (0) (ks := [7, 8, 9, 10, 4, 11, 12, 13, 14, 15, 2, 16]) (fun _ => rfl) (fun _ => rfl) rfl (by omega) ?_ ⟨⟨_, rfl, rfl⟩, trivial⟩ trivial ?_; rotate_left; rintro k hx; try dsimp only at hx) | ((first | (refine loopV_normal (k + 1) ?_ ⟨⟨_, rfl, rfl⟩, trivial⟩ trivial ?_ ?_)); repeat (first | exact only_refl | refine only_put rfl ?_ | refine only_less rfl ?_ | refine only_ov rfl ?_)) | ((with_reducible apply n_val); rfl; rfl) | ((with_reducible apply n_new); rfl; (first | (simp only [hn0, hn1, hn2, hn3, hn4, hn5, List.length_cons, List.length_nil, Nat.reduceAdd, Nat.zero_add]; first | done | rfl) | rfl); rfl) | ((with_reducible apply n_store); rfl; rfl; rfl; rfl; rfl) | (with_reducible refine condT_split (fun h => ?_) (fun h => ?_)) | ((with_reducible apply fnQ_told_ret); rfl) | ((with_reducible apply fnQ_ret_soft); rfl; rfl)
  all_goals (try dsimp only at *)
  all_goals (try simp only [decide_eq_true_eq, decide_eq_false_iff_not, List.length_map, ints_length, Int.toNat_natCast] at *)
  · rename _ = true => hb
    rw [first_at (k := k) (by omega) hb hx.2]
  · omega
  · refine ⟨by omega, fun j hj => ?_⟩
    rcases Nat.lt_succ_iff_lt_or_eq.mp hj with hj | rfl
    · exact hx.2 j hj
    · assumption
  · rw [first_no fun j hj => hx.2 j (by omega)]
  · exact ⟨Nat.zero_le _, fun j hj => absurd hj (by omega)⟩
theorem p_fieldsE : Pure Go.Proofs.Tryz.prog glD 76 [.str ⟨#[97, 100, 100, 102, 117, 110, 32, 97, 100, 100, 98, 108, 111, 99, 107, 32, 100, 101, 108, 98, 108, 111, 99, 107, 32, 97, 100, 100, 101, 100, 103, 101, 32, 100, 101, 108, 101, 100, 103, 101, 32, 114, 101, 119, 105, 114, 101, 32, 105, 110, 115, 101, 114, 116, 32, 100, 101, 108, 101, 116, 101]⟩] (.sl (nmE.map .str)) := by
  have hT : TabOk Go.Proofs.Tryz.prog [(76, c76)] := ⟨⟨_, b76⟩, by kernel_rfl, trivial⟩
  exact clc_sound hmix hT (k := 80) (d := 1) (by kernel_rfl)
theorem p_edName (k : Int) : Pure Go.Proofs.Tryz.prog glD 47 [.int .i64 k] (.str (nmO k)) := by
  refine Pure.fn hmix b47 ?_
  repeat' first | (with_reducible first | refine tr_seq ?_ | refine n_nil ?_ | refine seqQ_normal ?_ | refine seqQ_ret ?_ | refine blkQ_ret ?_ | refine tr_skip ?_ | refine tr_ret ?_ | refine condT_t ?_ | refine condT_f ?_) | ((with_reducible refine tr_region_f ?_ ?_); kernel_rfl) | exact ⟨rfl, rfl⟩ | ((with_reducible apply tr_cond_e); rfl) | ((with_reducible apply n_and); rfl; rfl; intro h) | ((with_reducible apply n_or); rfl; rfl; intro h) | ((with_reducible apply n_idx_sl (y := .str (nmE.getD k.toNat bs0))); rfl; rfl; (first | omega | decide | (simp only [zz] at *; omega)); exact nmE_get _ (by first | omega | decide | (simp only [zz] at *; omega)); rfl) | ((with_reducible apply n_val); rfl; rfl) | ((with_reducible apply n_call (f := 76)); rfl; rfl; exact p_fieldsE) | (with_reducible refine condT_split (fun h => ?_) (fun h => ?_)) | ((with_reducible apply fnQ_told_ret); rfl) | ((with_reducible apply fnQ_ret_soft); rfl; rfl)
  all_goals (simp only [Bool.or_eq_true, decide_eq_true_eq, Bool.or_eq_false_iff, decide_eq_false_iff_not] at h)
  · rw [nmO, if_neg (by omega)]; rfl
  · rw [nmO, if_pos (by omega)]
theorem p_blk11 (p : List Fn) (e : Ed) (b : Int) (hp : Fit p) : Pure Go.Proofs.Tryz.prog glD 131 [.int .i64 b, .fptr (cA p e)] (.bool (!(blkV p e.f b).isSome)) := by
  have hB : Pure Go.Proofs.Tryz.prog glD 23 [pP p, .int .i64 e.f, .int .i64 b] (.tup [pB ((blkV p e.f b).getD B0), .bool (blkV p e.f b).isSome]) := p_Block p e.f b hp
  refine Pure.fn hmix b131 ?_
  repeat' first | (with_reducible first | refine tr_seq ?_ | refine n_nil ?_ | refine seqQ_normal ?_ | refine seqQ_ret ?_ | refine blkQ_ret ?_ | refine tr_ret ?_) | ((with_reducible refine tr_region_f ?_ ?_); kernel_rfl) | ((with_reducible apply n_call (f := 23)); rfl; rfl; exact hB) | ((with_reducible apply n_val); rfl; rfl) | ((with_reducible apply n_new); rfl; (first | (simp only [hn0, hn1, hn2, hn3, hn4, hn5, List.length_cons, List.length_nil, Nat.reduceAdd, Nat.zero_add]; first | done | rfl) | rfl); rfl) | ((with_reducible apply n_store); rfl; rfl; rfl; rfl; rfl) | ((with_reducible apply fnQ_told_ret); rfl) | ((with_reducible apply fnQ_ret_soft); rfl; rfl)
  rfl
theorem p_blk1 (p : List Fn) (e : Ed) (l : List Int) (hl : l.length ≤ 1000) (hp : Fit p) : Pure Go.Proofs.Tryz.prog glD 129 [.fptr [.sl (ints l)], .fptr (cA p e)] (.bool (noB p e.f l)) := by
  have hC := p_ctnF (gl := glD) l 131 [.fptr (cA p e)] (fun b => !(blkV p e.f b).isSome) (by omega) rfl (fun j _ => p_blk11 p e _ hp)
  refine Pure.fn hmix b129 ?_
  repeat' first | (with_reducible first | refine tr_seq ?_ | refine n_nil ?_ | refine seqQ_normal ?_ | refine seqQ_ret ?_ | refine blkQ_ret ?_ | refine tr_ret ?_) | ((with_reducible refine tr_region_f ?_ ?_); kernel_rfl) | ((with_reducible apply n_val); rfl; rfl) | ((with_reducible apply n_callb ); rfl; rfl; exact hC; rfl) | ((with_reducible apply fnQ_told_ret); rfl) | ((with_reducible apply fnQ_ret_soft); rfl; rfl)
  rfl
theorem p_blk (p : List Fn) (e : Ed) (l : List Int) : Pure Go.Proofs.Tryz.prog glD 95 [pA p e, .sl (ints l)] (pR ⟨2, 129, [.fptr [.sl (ints l)], .fptr (cA p e)], noB p e.f l⟩) := by
  refine Pure.fn hmix b95 ?_
  repeat' first | (with_reducible first | refine tr_seq ?_ | refine n_nil ?_ | refine seqQ_normal ?_ | refine seqQ_ret ?_ | refine blkQ_ret ?_ | refine tr_ret ?_) | ((with_reducible refine tr_region_f ?_ ?_); kernel_rfl) | ((with_reducible apply n_val); rfl; rfl) | ((with_reducible apply n_new); rfl; (first | (simp only [hn0, hn1, hn2, hn3, hn4, hn5, List.length_cons, List.length_nil, Nat.reduceAdd, Nat.zero_add]; first | done | rfl) | rfl); rfl) | ((with_reducible apply n_store); rfl; rfl; rfl; rfl; rfl) | ((with_reducible apply fnQ_told_ret); rfl) | ((with_reducible apply fnQ_ret_soft); rfl; rfl)
  rfl
theorem p_code (p : List Fn) (e : Ed) (hp : Fit p) : Pure Go.Proofs.Tryz.prog glD 103 [pA p e] (.sl ((codeV p e.f e.b).map pI)) := by
  have hB : Pure Go.Proofs.Tryz.prog glD 23 [pP p, .int .i64 e.f, .int .i64 e.b] (.tup [pB ((blkV p e.f e.b).getD B0), .bool (blkV p e.f e.b).isSome]) := p_Block p e.f e.b hp
  refine Pure.fn hmix b103 ?_
  repeat' first | (with_reducible first | refine tr_seq ?_ | refine n_nil ?_ | refine seqQ_normal ?_ | refine seqQ_ret ?_ | refine blkQ_ret ?_ | refine tr_ret ?_) | ((with_reducible refine tr_region_f ?_ ?_); kernel_rfl) | ((with_reducible apply n_call (f := 23)); rfl; rfl; exact hB) | ((with_reducible apply n_val); rfl; rfl) | ((with_reducible apply n_new); rfl; (first | (simp only [hn0, hn1, hn2, hn3, hn4, hn5, List.length_cons, List.length_nil, Nat.reduceAdd, Nat.zero_add]; first | done | rfl) | rfl); rfl) | ((with_reducible apply n_store); rfl; rfl; rfl; rfl; rfl) | ((with_reducible apply fnQ_told_ret); rfl) | ((with_reducible apply fnQ_ret_soft); rfl; rfl)
  rfl
theorem p_edge (p : List Fn) (e : Ed) (to : Int) (hf : few p = true) : Pure Go.Proofs.Tryz.prog glD 98 [pA p e, .int .i64 to] (.bool (edgV p e.f e.b to)) := by
  have hB : Pure Go.Proofs.Tryz.prog glD 23 [pP p, .int .i64 e.f, .int .i64 e.b] (.tup [pB ((blkV p e.f e.b).getD B0), .bool (blkV p e.f e.b).isSome]) := p_Block p e.f e.b (few_fit hf)
  have hC := p_slContains (gl := glD) ((blkV p e.f e.b).getD B0).succ to (Nat.le_trans (blk_few hf e.f e.b).2 (by omega))
  refine Pure.fn hmix b98 ?_
  repeat' first | (with_reducible first | refine tr_seq ?_ | refine n_nil ?_ | refine seqQ_normal ?_ | refine seqQ_ret ?_ | refine blkQ_ret ?_ | refine tr_ret ?_) | ((with_reducible refine tr_region_f ?_ ?_); kernel_rfl) | ((with_reducible apply n_call (f := 23)); rfl; rfl; exact hB) | ((with_reducible apply n_call (f := 62)); rfl; rfl; exact hC) | ((with_reducible apply n_val); rfl; rfl) | ((with_reducible apply n_new); rfl; (first | (simp only [hn0, hn1, hn2, hn3, hn4, hn5, List.length_cons, List.length_nil, Nat.reduceAdd, Nat.zero_add]; first | done | rfl) | rfl); rfl) | ((with_reducible apply n_store); rfl; rfl; rfl; rfl; rfl) | ((with_reducible apply fnQ_told_ret); rfl) | ((with_reducible apply fnQ_ret_soft); rfl; rfl)
  rfl
theorem p_addF1 {gl : Nat → Option PV} (p : List Fn) (e : Ed) : Pure Go.Proofs.Tryz.prog gl 92 [.fptr (cA p e)] (.bool (decide (e.b < 0) || decide (e.b > 3) || decide (e.to < e.b) || decide (e.to > 6))) := by
  refine Pure.fn hmix b92 ?_
  repeat' first | (with_reducible first | refine tr_seq ?_ | refine n_nil ?_ | refine seqQ_normal ?_ | refine seqQ_ret ?_ | refine blkQ_ret ?_ | refine tr_ret ?_) | ((with_reducible refine tr_region_f ?_ ?_); kernel_rfl) | exact ⟨rfl, rfl⟩ | ((with_reducible apply n_and); rfl; rfl; intro h) | ((with_reducible apply n_or); rfl; rfl; intro h) | ((with_reducible apply n_val); rfl; rfl) | ((with_reducible apply fnQ_told_ret); rfl) | ((with_reducible apply fnQ_ret_soft); rfl; rfl)
  rfl
theorem p_addF2 {gl : Nat → Option PV} (p : List Fn) (e : Ed) : Pure Go.Proofs.Tryz.prog gl 93 [.fptr (cA p e)] (.bool (decide ((p.length : Int) ≥ 6))) := by
  refine Pure.fn hmix b93 ?_
  repeat' first | (with_reducible first | refine tr_seq ?_ | refine n_nil ?_ | refine seqQ_normal ?_ | refine seqQ_ret ?_ | refine blkQ_ret ?_ | refine tr_ret ?_) | ((with_reducible refine tr_region_f ?_ ?_); kernel_rfl) | ((with_reducible apply n_val); rfl; rfl) | ((with_reducible apply fnQ_told_ret); rfl) | ((with_reducible apply fnQ_ret_soft); rfl; rfl)
  rw [List.length_map]
theorem p_addFun {gl : Nat → Option PV} (p : List Fn) (e : Ed) : Pure Go.Proofs.Tryz.prog gl 67 [pA p e] (.int .i64 (addV p e)) := by
  have hr := p_first (gl := gl) [⟨9, 92, [.fptr (cA p e)], decide (e.b < 0) || decide (e.b > 3) || decide (e.to < e.b) || decide (e.to > 6)⟩, ⟨8, 93, [.fptr (cA p e)], decide ((p.length : Int) ≥ 6)⟩] (by simp) ⟨rfl, p_addF1 p e, fun _ => ⟨rfl, p_addF2 p e, fun _ => trivial⟩⟩
  refine Pure.fn hmix b67 ?_
  repeat' first | (with_reducible first | refine tr_seq ?_ | refine n_nil ?_ | refine seqQ_normal ?_ | refine seqQ_ret ?_ | refine blkQ_ret ?_ | refine tr_ret ?_) | ((with_reducible refine tr_region_f ?_ ?_); kernel_rfl) | ((with_reducible apply n_callb (f := 91)); rfl; rfl; exact hr; rfl) | ((with_reducible apply n_val); rfl; rfl) | ((with_reducible apply n_new); rfl; (first | (simp only [hn0, hn1, hn2, hn3, hn4, hn5, List.length_cons, List.length_nil, Nat.reduceAdd, Nat.zero_add]; first | done | rfl) | rfl); rfl) | ((with_reducible apply fnQ_told_ret); rfl) | ((with_reducible apply fnQ_ret_soft); rfl; rfl)
  rfl
end Go.Vm
end
