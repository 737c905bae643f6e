/- Laid. -/
import Derived.Test.YtlllcmahmgdppaaGreatDoorVmThree
import Derived.KernelRfl
import Derived.Test.YtlllcmahmgdppaaGreatDoorProg
import Derived.Test.YtlllcmahmgdppaaGreatDoorXeditB
section
/- Code. -/
set_option maxRecDepth 100000
set_option linter.unusedSimpArgs false
set_option linter.unusedVariables false
namespace Go.Vm
open Go
def c72 : RFn := ⟨(.seq (rf (.o 2 (.box (.t 0)) (.o 3 (.box (.t 1)) (.o 4 (.move (.i 0)) .nil)))) (.seq (.seq (rf (.o 5 (.fieldAddr 2 (.t 3)) (.o 6 (.load none (.t 5)) (.o 7 (.bin .lss (.t 6) (.i 0)) (.o 8 (.m 7) (.grd 8 false (.o 9 (.fieldAddr 2 (.t 3)) (.o 10 (.load none (.t 9)) (.o 11 (.bin .gtr (.t 10) (.i 3)) .nil))) (.o 12 (.pick (.t 8) (.c (.bool true)) (.t 11)) (.o 13 (.m 12) (.grd 13 false (.o 14 (.fieldAddr 3 (.t 3)) (.o 15 (.load none (.t 14)) (.o 16 (.fieldAddr 2 (.t 3)) (.o 17 (.load none (.t 16)) (.o 18 (.bin .lss (.t 15) (.t 17)) .nil))))) (.o 19 (.pick (.t 13) (.c (.bool true)) (.t 18)) (.o 20 (.m 19) (.grd 20 false (.o 21 (.fieldAddr 3 (.t 3)) (.o 22 (.load none (.t 21)) (.o 23 (.bin .gtr (.t 22) (.i 6)) .nil))) (.o 24 (.pick (.t 20) (.c (.bool true)) (.t 23)) .nil))))))))))))) (.cond (.t 24) (.seq (rf (.o 4 (.move (.i 9)) .nil)) .ret) .skip)) (.seq (.seq (rf (.o 25 (.fieldAddr 0 (.t 2)) (.o 26 (.load none (.t 25)) (.o 27 (.len false (.t 26)) (.o 28 (.bin .geq (.t 27) (.i 6)) .nil))))) (.cond (.t 28) (.seq (rf (.o 4 (.move (.i 8)) .nil)) .ret) .skip)) (.seq (rf (.o 4 (.move (.i 0)) .nil)) .ret)))), [.tmp 4]⟩
theorem b72 : fnOf Go.Proofs.Tryz.prog (owOf []) 72 = some c72 := by kernel_rfl
def c73 : RFn := ⟨(.seq (rf (.o 3 (.box (.t 0)) (.o 6 (.move (.c (.bool false))) .nil))) (.seq (rf (.o 10 (.load (some 1) (.t 3)) (.o 11 (.m 1) (.o 12 (.m 2) (.o 13 (.call 24 [(.t 10), (.t 11), (.t 12)]) (.o 9 (.m 13) (.o 14 (.extract 0 (.t 9)) (.o 15 (.extract 1 (.t 9)) (.o 7 (.alloc (.agg [(.bool false), (.lit []), (.lit [])])) (.op none (.store 3 (.t 7) (.t 14)) 0 (.o 8 (.m 15) .nil))))))))))) (.seq (rf (.o 16 (.m 8) (.o 6 (.m 16) .nil))) .ret))), [.tmp 6]⟩
theorem b73 : fnOf Go.Proofs.Tryz.prog (owOf []) 73 = some c73 := by kernel_rfl
def c74 : RFn := ⟨(.seq (rf (.o 2 (.box (.t 0)) (.o 3 (.box (.t 1)) (.o 4 (.move (.i 0)) .nil)))) (.seq (.seq (rf (.o 5 (.load (some 1) (.t 2)) (.o 6 (.fieldAddr 1 (.t 3)) (.o 7 (.load none (.t 6)) (.o 8 (.fieldAddr 2 (.t 3)) (.o 9 (.load none (.t 8)) (.o 10 (.call 73 [(.t 5), (.t 7), (.t 9)]) (.o 11 (.un .not (.t 10)) (.o 12 (.m 11) (.grd 12 false (.o 13 (.load (some 1) (.t 2)) (.o 14 (.fieldAddr 1 (.t 3)) (.o 15 (.load none (.t 14)) (.o 16 (.fieldAddr 3 (.t 3)) (.o 17 (.load none (.t 16)) (.o 18 (.call 73 [(.t 13), (.t 15), (.t 17)]) (.o 19 (.un .not (.t 18)) .nil))))))) (.o 20 (.pick (.t 12) (.c (.bool true)) (.t 19)) (.o 21 (.m 20) (.grd 21 false (.o 22 (.fieldAddr 0 (.t 3)) (.o 23 (.load none (.t 22)) (.o 24 (.bin .eql (.t 23) (.i 5)) (.o 25 (.m 24) (.grd 25 true (.o 26 (.load (some 1) (.t 2)) (.o 27 (.fieldAddr 1 (.t 3)) (.o 28 (.load none (.t 27)) (.o 29 (.fieldAddr 4 (.t 3)) (.o 30 (.load none (.t 29)) (.o 31 (.call 73 [(.t 26), (.t 28), (.t 30)]) (.o 32 (.un .not (.t 31)) .nil))))))) (.o 33 (.pick (.t 25) (.t 32) (.c (.bool false))) .nil)))))) (.o 34 (.pick (.t 21) (.c (.bool true)) (.t 33)) .nil)))))))))))))) (.cond (.t 34) (.seq (rf (.o 4 (.move (.i 2)) .nil)) .ret) .skip)) (.seq (.seq (rt (.o 35 (.load (some 1) (.t 2)) (.o 36 (.fieldAddr 1 (.t 3)) (.op (some 37) (.load none (.t 36)) 2 (.o 38 (.fieldAddr 2 (.t 3)) (.op (some 39) (.load none (.t 38)) 8 (.o 40 (.fieldAddr 3 (.t 3)) (.op (some 41) (.load none (.t 40)) 32 (.op (some 42) (.call 105 [(.t 35), (.t 37), (.t 39), (.t 41)]) 127 (.o 43 (.fieldAddr 0 (.t 3)) (.op (some 44) (.load none (.t 43)) 256 (.op (some 45) (.bin .neq (.t 44) (.i 3)) 768 (.op (some 46) (.binb .neq (.t 42) (.t 45)) 2047 .nil))))))))))))) (.cond (.t 46) (.seq (rf (.o 4 (.move (.i 5)) .nil)) .ret) .skip)) (.seq (.seq (rf (.o 47 (.fieldAddr 0 (.t 3)) (.o 48 (.load none (.t 47)) (.o 49 (.bin .eql (.t 48) (.i 5)) (.o 50 (.m 49) (.grd 50 true (.o 51 (.fieldAddr 4 (.t 3)) (.o 52 (.load none (.t 51)) (.o 53 (.fieldAddr 3 (.t 3)) (.o 54 (.load none (.t 53)) (.o 55 (.bin .neq (.t 52) (.t 54)) .nil))))) (.o 56 (.pick (.t 50) (.t 55) (.c (.bool false))) (.o 57 (.m 56) (.grd 57 true (.o 58 (.load (some 1) (.t 2)) (.o 59 (.fieldAddr 1 (.t 3)) (.o 60 (.load none (.t 59)) (.o 61 (.fieldAddr 2 (.t 3)) (.o 62 (.load none (.t 61)) (.o 63 (.fieldAddr 4 (.t 3)) (.o 64 (.load none (.t 63)) (.o 65 (.call 105 [(.t 58), (.t 60), (.t 62), (.t 64)]) .nil)))))))) (.o 66 (.pick (.t 57) (.t 65) (.c (.bool false))) .nil)))))))))) (.cond (.t 66) (.seq (rf (.o 4 (.move (.i 5)) .nil)) .ret) .skip)) (.seq (rf (.o 4 (.move (.i 0)) .nil)) .ret))))), [.tmp 4]⟩
theorem b74 : fnOf Go.Proofs.Tryz.prog (owOf []) 74 = some c74 := by kernel_rfl
def c105 : RFn := ⟨(.seq (rf (.o 4 (.box (.t 0)) (.o 8 (.move (.c (.bool false))) .nil))) (.seq (rf (.o 13 (.load (some 1) (.t 4)) (.o 14 (.m 1) (.o 15 (.m 2) (.o 16 (.call 24 [(.t 13), (.t 14), (.t 15)]) (.o 12 (.m 16) (.o 17 (.extract 0 (.t 12)) (.o 18 (.extract 1 (.t 12)) (.o 9 (.alloc (.agg [(.bool false), (.lit []), (.lit [])])) (.op none (.store 3 (.t 9) (.t 17)) 0 (.o 10 (.m 18) .nil))))))))))) (.seq (.seq (rf (.o 11 (.move (.i 0)) .nil)) (.block 0 (.loop (.seq (.seq (rf (.o 19 (.m 11) (.o 20 (.fieldAddr 2 (.t 9)) (.o 21 (.load none (.t 20)) (.o 22 (.len false (.t 21)) (.o 23 (.bin .lss (.t 19) (.t 22)) .nil)))))) (.cond (.t 23) .skip (.exit 0))) (.seq (.block 1 (.seq (rf (.o 26 (.fieldAddr 2 (.t 9)) (.o 27 (.load none (.t 26)) (.o 28 (.m 11) (.o 29 (.idxAddr 1 (.t 27) (.t 28)) (.o 30 (.load none (.t 29)) (.o 31 (.m 3) (.o 32 (.bin .eql (.t 30) (.t 31)) .nil)))))))) (.cond (.t 32) (.seq (rf (.o 8 (.move (.c (.bool true))) .nil)) .ret) .skip))) (rf (.o 24 (.m 11) (.o 25 (.bin .add (.t 24) (.i 1)) (.o 11 (.m 25) .nil))))))))) (.seq (rf (.o 8 (.move (.c (.bool false))) .nil)) .ret)))), [.tmp 8]⟩
theorem b105 : fnOf Go.Proofs.Tryz.prog (owOf []) 105 = some c105 := by kernel_rfl
def c106 : RFn := ⟨(.seq (rf (.o 3 (.box (.t 0)) (.o 4 (.box (.t 1)) (.o 6 (.move (.i 0)) .nil)))) (.seq (.seq (rf (.o 9 (.fieldAddr 6 (.t 4)) (.o 10 (.fieldAddr 0 (.t 9)) (.o 11 (.load none (.t 10)) (.o 12 (.bin .neq (.t 11) (.i 0)) (.o 13 (.m 12) (.grd 13 false (.o 14 (.fieldAddr 6 (.t 4)) (.o 15 (.load (some 11) (.t 14)) (.o 16 (.call 89 [(.t 15)]) (.o 17 (.un .not (.t 16)) .nil)))) (.o 18 (.pick (.t 13) (.c (.bool true)) (.t 17)) .nil)))))))) (.cond (.t 18) (.seq (rf (.o 6 (.move (.i 9)) .nil)) .ret) .skip)) (.seq (rf (.o 19 (.fieldAddr 6 (.t 4)) (.o 20 (.load (some 11) (.t 19)) (.o 21 (.call 125 [(.t 20)]) (.o 7 (.m 21) .nil))))) (.seq (.seq (rf (.o 8 (.move (.i 0)) .nil)) (.block 0 (.loop (.seq (.seq (rf (.o 22 (.m 8) (.o 23 (.m 7) (.o 24 (.len false (.t 23)) (.o 25 (.bin .lss (.t 22) (.t 24)) .nil))))) (.cond (.t 25) .skip (.exit 0))) (.seq (.block 1 (.seq (rt (.o 28 (.m 7) (.o 29 (.m 8) (.op (some 30) (.idxAddr 1 (.t 28) (.t 29)) 3 (.op (some 31) (.load none (.t 30)) 7 (.o 32 (.fieldAddr 0 (.t 3)) (.op (some 33) (.load none (.t 32)) 16 (.o 34 (.fieldAddr 1 (.t 4)) (.op (some 35) (.load none (.t 34)) 64 (.op (some 36) (.idxAddr 3 (.t 33) (.t 35)) 240 (.op (some 37) (.fieldAddr 1 (.t 36)) 496 (.op (some 38) (.load none (.t 37)) 1008 (.op (some 39) (.bin .geq (.t 31) (.t 38)) 2047 .nil))))))))))))) (.cond (.t 39) (.seq (rf (.o 6 (.move (.i 4)) .nil)) .ret) .skip))) (rf (.o 26 (.m 8) (.o 27 (.bin .add (.t 26) (.i 1)) (.o 8 (.m 27) .nil))))))))) (.seq (.seq (rf (.o 40 (.fieldAddr 6 (.t 4)) (.o 41 (.fieldAddr 1 (.t 40)) (.o 42 (.load none (.t 41)) (.o 43 (.bin .eql (.t 42) (.i 7)) (.o 44 (.m 43) (.grd 44 true (.o 45 (.fieldAddr 6 (.t 4)) (.o 46 (.fieldAddr 6 (.t 45)) (.o 47 (.load none (.t 46)) (.o 48 (.fieldAddr 0 (.t 3)) (.o 49 (.load none (.t 48)) (.o 50 (.len false (.t 49)) (.o 51 (.bin .geq (.t 47) (.t 50)) .nil))))))) (.o 52 (.pick (.t 44) (.t 51) (.c (.bool false))) .nil)))))))) (.cond (.t 52) (.seq (rf (.o 6 (.move (.i 1)) .nil)) .ret) .skip)) (.seq (.seq (rt (.o 53 (.fieldAddr 6 (.t 4)) (.op (some 54) (.fieldAddr 1 (.t 53)) 1 (.op (some 55) (.load none (.t 54)) 3 (.op (some 56) (.bin .eql (.t 55) (.i 7)) 7 (.op (some 57) (.m 56) 15 (.grd 57 true (.op (some 58) (.fieldAddr 0 (.t 3)) 31 (.op (some 59) (.load none (.t 58)) 63 (.op (some 60) (.fieldAddr 6 (.t 4)) 31 (.op (some 61) (.fieldAddr 6 (.t 60)) 159 (.op (some 62) (.load none (.t 61)) 415 (.op (some 63) (.idxAddr 3 (.t 59) (.t 62)) 1023 (.op (some 64) (.fieldAddr 0 (.t 63)) 2047 (.op (some 65) (.load none (.t 64)) 4095 (.op (some 66) (.fieldAddr 6 (.t 4)) 31 (.op (some 67) (.fieldAddr 7 (.t 66)) 8223 (.op (some 68) (.load none (.t 67)) 24607 (.op (some 69) (.bin .neq (.t 65) (.t 68)) 65535 .nil)))))))))))) (.op (some 70) (.pick (.t 57) (.t 69) (.c (.bool false))) 131071 .nil)))))))) (.cond (.t 70) (.seq (rf (.o 6 (.move (.i 7)) .nil)) .ret) .skip)) (.seq (.seq (rf (.o 71 (.m 2) (.o 72 (.bin .geq (.t 71) (.i 16)) (.o 73 (.m 72) (.grd 73 false (.o 74 (.load (some 1) (.t 3)) (.o 75 (.call 36 [(.t 74)]) (.o 76 (.bin .lss (.t 75) (.i 0)) .nil))) (.o 77 (.pick (.t 73) (.c (.bool true)) (.t 76)) .nil)))))) (.cond (.t 77) (.seq (rf (.o 6 (.move (.i 8)) .nil)) .ret) .skip)) (.seq (rf (.o 6 (.move (.i 0)) .nil)) .ret)))))))), [.tmp 6]⟩
theorem b106 : fnOf Go.Proofs.Tryz.prog (owOf []) 106 = some c106 := by kernel_rfl
end Go.Vm
end
section
/- Walks. -/
set_option maxRecDepth 100000
set_option linter.unusedSimpArgs false
set_option linter.unusedVariables false
namespace Go.Vm
open Go
set_option maxHeartbeats 4000000
section
variable {gl : Nat → Option PV}
theorem p_r7_block (p : List Fn) (f b : Int) (hf : few p = true) : Pure Go.Proofs.Tryz.prog gl 73 [pP p, .int .i64 f, .int .i64 b] (.bool (blkV p f b).isSome) := by
  have hB : Pure Go.Proofs.Tryz.prog gl 24 [pP p, .int .i64 f, .int .i64 b] (.tup [pB ((blkV p f b).getD B0), .bool (blkV p f b).isSome]) := p_r_Block p f b hf
  refine Pure.fn hmix b73 ?_
  repeat' first | (with_reducible first | refine tr_seq ?_ | refine n_nil ?_ | refine seqQ_normal ?_ | refine seqQ_ret ?_ | refine blkQ_ret ?_ | refine tr_ret ?_) | ((with_reducible refine tr_region_f ?_ ?_); kernel_rfl) | ((with_reducible apply n_call (f := 24)); rfl; rfl; exact hB) | ((with_reducible apply n_val); rfl; rfl) | ((with_reducible apply n_new); rfl; (first | (simp only [hn0, hn1, hn2, hn3, hn4, hn5, List.length_cons, List.length_nil, Nat.reduceAdd, Nat.zero_add]; first | done | rfl) | rfl); rfl) | ((with_reducible apply n_store); rfl; rfl; rfl; rfl; rfl) | ((with_reducible apply fnQ_told_ret); rfl) | ((with_reducible apply fnQ_ret_soft); rfl; rfl)
  rfl
theorem p_r7_Edge (p : List Fn) (f b to : Int) (hf : few p = true) : Pure Go.Proofs.Tryz.prog gl 105 [pP p, .int .i64 f, .int .i64 b, .int .i64 to] (.bool (edgV p f b to)) := by
  have hB : Pure Go.Proofs.Tryz.prog gl 24 [pP p, .int .i64 f, .int .i64 b] (.tup [pB ((blkV p f b).getD B0), .bool (blkV p f b).isSome]) := p_r_Block p f b hf
  have hl := (blk_few hf f b).2
  unfold edgV
  generalize (blkV p f b).getD B0 = x at *
  refine Pure.fn hmix b105 ?_
  repeat' first | (with_reducible first | refine tr_seq ?_ | refine n_nil ?_ | refine seqQ_normal ?_ | refine seqQ_exit ?_ | refine seqQ_ret ?_ | refine blkQ_normal ?_ | refine blkQ_exit ?_ | refine blkQ_ret ?_ | refine tr_block ?_ | refine tr_skip ?_ | refine tr_exit ?_ | refine tr_ret ?_ | refine condT_t ?_ | refine condT_f ?_ | refine loopV_exit ?_ | refine loopV_ret ?_) | ((with_reducible refine tr_region_f ?_ ?_); kernel_rfl) | ((with_reducible refine blkQ_exit_ne ?_ ?_); rfl) | ((with_reducible apply tr_cond_e); rfl) | ((with_reducible apply n_call (f := 24)); rfl; rfl; exact hB) | ((with_reducible apply n_idx_ints); rfl; rfl; (first | omega | decide | (simp only [zz] at *; omega))) | (first | ((with_reducible apply n_bin); rfl; rfl; focus ((with_reducible (first | apply b_add | apply b_sub)) <;> first | omega | decide | (simp only [zz] at *; omega))) | ((with_reducible apply n_max); rfl; rfl) | ((with_reducible apply n_min); rfl; rfl)) | (refine tr_loop_v (α := Nat) 2 (fun | k => [(11, some (.int .i64 (k : Int))), (19, none), (20, none), (21, none), (22, none), (23, none), (26, none), (27, none), (28, none), (29, none), (30, none), (31, none), (32, none), (8, none), (24, none), (25, none)]) (fun | k => [some ⟨0, 1, [pP p]⟩, some ⟨0, 3, [pB x]⟩]) (fun | k => k ≤ x.succ.length ∧ ∀ j, j < k → (x.succ.getD j 0 == to) = false) (fun | k => x.succ.length - k) (0) (ks := [11, 19, 20, 21, 22, 23, 26, 27, 28, 29, 30, 31, 32, 8, 24, 25]) (fun _ => rfl) (fun _ => rfl) rfl (by omega) ?_ ⟨⟨_, rfl, rfl⟩, trivial⟩ ⟨⟨_, rfl, rfl, rfl, rfl⟩, ⟨_, rfl, rfl, rfl, rfl⟩, trivial⟩ ?_; rotate_left; rintro k hx; try dsimp only at hx) | ((first | (refine loopV_normal (k + 1) ?_ ⟨⟨_, rfl, rfl⟩, trivial⟩ ⟨⟨_, rfl, rfl, rfl, rfl⟩, ⟨_, rfl, rfl, rfl, rfl⟩, trivial⟩ ?_ ?_)); repeat (first | exact only_refl | refine only_put rfl ?_ | refine only_less rfl ?_ | refine only_ov rfl ?_)) | ((with_reducible apply n_val); rfl; rfl) | ((with_reducible apply n_new); rfl; (first | (simp only [hn0, hn1, hn2, hn3, hn4, hn5, List.length_cons, List.length_nil, Nat.reduceAdd, Nat.zero_add]; first | done | rfl) | rfl); rfl) | ((with_reducible apply n_store); rfl; rfl; rfl; rfl; rfl) | (with_reducible refine condT_split (fun h => ?_) (fun h => ?_)) | ((with_reducible apply fnQ_told_ret); rfl) | ((with_reducible apply fnQ_ret_soft); rfl; rfl)
  all_goals (try dsimp only at *)
  all_goals (try simp only [decide_eq_true_eq, decide_eq_false_iff_not, List.length_map, ints_length, Int.toNat_natCast] at *)
  · rename (_ == _) = true => hb
    rw [w_ctn (k := k) (by omega) (by simpa using hb)]
  · omega
  · refine ⟨by omega, fun j hj => ?_⟩
    rcases Nat.lt_succ_iff_lt_or_eq.mp hj with hj | rfl
    · exact hx.2 j hj
    · assumption
  · rw [ctn_no fun j hj => hx.2 j (by omega)]
  · exact ⟨Nat.zero_le _, fun j hj => absurd hj (by omega)⟩
theorem p_r7_addFun (p : List Fn) (e : Ed) : Pure Go.Proofs.Tryz.prog gl 72 [pP p, pE e] (.int .i64 (addV p e)) := by
  refine Pure.fn hmix b72 ?_
  repeat' first | (with_reducible first | refine tr_seq ?_ | refine n_nil ?_ | refine seqQ_normal ?_ | refine seqQ_ret ?_ | refine blkQ_ret ?_ | refine tr_skip ?_ | refine tr_ret ?_ | refine condT_t ?_ | refine condT_f ?_) | ((with_reducible refine tr_region_f ?_ ?_); kernel_rfl) | exact ⟨rfl, rfl⟩ | ((with_reducible apply tr_cond_e); rfl) | ((with_reducible apply n_and); rfl; rfl; intro h) | ((with_reducible apply n_or); rfl; rfl; intro h) | ((with_reducible apply n_val); rfl; rfl) | ((with_reducible apply n_new); rfl; (first | (simp only [hn0, hn1, hn2, hn3, hn4, hn5, List.length_cons, List.length_nil, Nat.reduceAdd, Nat.zero_add]; first | done | rfl) | rfl); rfl) | (with_reducible refine condT_split (fun h => ?_) (fun h => ?_)) | ((with_reducible apply fnQ_told_ret); rfl) | ((with_reducible apply fnQ_ret_soft); rfl; rfl)
  all_goals (try simp only [List.length_map] at *)
  · rw [addV, firstV, if_pos (by assumption)]
  · rw [addV, firstV, if_neg (by rw [Bool.not_eq_true]; assumption), firstV, if_pos (by assumption)]
  · rw [addV, firstV, if_neg (by rw [Bool.not_eq_true]; assumption), firstV, if_neg (by rw [Bool.not_eq_true]; assumption)]; rfl
theorem p_r7_edges (p : List Fn) (e : Ed) (hf : few p = true) (ho : e.op = 3 ∨ e.op = 4 ∨ e.op = 5) : Pure Go.Proofs.Tryz.prog gl 74 [pP p, pE e] (.int .i64 (othV p e)) := by
  obtain ⟨op, f, b, to, ot, pos, i⟩ := e
  have h1 := p_r7_block (gl := gl) p f b hf
  have h2 := p_r7_block (gl := gl) p f to hf
  have h3 := p_r7_block (gl := gl) p f ot hf
  have h4 := p_r7_Edge (gl := gl) p f b to hf
  have h5 := p_r7_Edge (gl := gl) p f b ot hf
  simp only at ho
  have hv : othV p ⟨op, f, b, to, ot, pos, i⟩ = if (!(blkV p f b).isSome || !(blkV p f to).isSome || (op == 5 && !(blkV p f ot).isSome)) = true then 2 else if (edgV p f b to != (op != 3)) = true then 5 else if (op == 5 && ot != to && edgV p f b ot) = true then 5 else 0 := by
    rcases ho with rfl | rfl | rfl
    · have e : othV p ⟨3, f, b, to, ot, pos, i⟩ = if (!(blkV p f b).isSome || (!(blkV p f to).isSome || false)) = true then 2 else if edgV p f b to = true then 5 else 0 := rfl
      rw [e]
      cases (blkV p f b).isSome <;> cases (blkV p f to).isSome <;> cases edgV p f b to <;> rfl
    · have e : othV p ⟨4, f, b, to, ot, pos, i⟩ = if (!(blkV p f b).isSome || (!(blkV p f to).isSome || false)) = true then 2 else if (!edgV p f b to) = true then 5 else 0 := rfl
      rw [e]
      cases (blkV p f b).isSome <;> cases (blkV p f to).isSome <;> cases edgV p f b to <;> rfl
    · have e : othV p ⟨5, f, b, to, ot, pos, i⟩ = if (!(blkV p f b).isSome || (!(blkV p f to).isSome || (!(blkV p f ot).isSome || false))) = true then 2 else if (!edgV p f b to || (ot != to && edgV p f b ot)) = true then 5 else 0 := rfl
      rw [e]
      cases (blkV p f b).isSome <;> cases (blkV p f to).isSome <;> cases edgV p f b to <;> cases (blkV p f ot).isSome <;> cases edgV p f b ot <;> cases (ot != to) <;> rfl
  rw [hv]
  refine Pure.fn hmix b74 ?_
  repeat' first | (with_reducible first | refine tr_seq ?_ | refine n_nil ?_ | refine seqQ_normal ?_ | refine seqQ_ret ?_ | refine blkQ_ret ?_ | refine tr_skip ?_ | refine tr_ret ?_ | refine condT_t ?_ | refine condT_f ?_) | ((with_reducible refine tr_region_f ?_ ?_); kernel_rfl) | ((with_reducible refine tr_region_t ?_ ?_ ?_); kernel_rfl; kernel_rfl) | exact ⟨rfl, rfl⟩ | ((with_reducible apply tr_cond_e); rfl) | ((with_reducible apply n_and); rfl; rfl; intro h) | ((with_reducible apply n_or); rfl; rfl; intro h) | ((with_reducible apply n_call (f := 73)); rfl; rfl; (first | exact h1 | exact h2 | exact h3)) | ((with_reducible apply n_call (f := 105)); rfl; rfl; (first | exact h4 | exact h5)) | ((with_reducible apply n_val); rfl; rfl) | ((with_reducible apply n_new); rfl; (first | (simp only [hn0, hn1, hn2, hn3, hn4, hn5, List.length_cons, List.length_nil, Nat.reduceAdd, Nat.zero_add]; first | done | rfl) | rfl); rfl) | (with_reducible refine condT_split (fun h => ?_) (fun h => ?_)) | ((with_reducible apply fnQ_told_ret); rfl) | ((with_reducible apply fnQ_ret_soft); rfl; rfl)
  · rw [if_pos (by assumption)]
  · rw [if_neg (by rw [Bool.not_eq_true]; assumption), if_pos (by assumption)]
  · rw [if_neg (by rw [Bool.not_eq_true]; assumption), if_neg (by rw [Bool.not_eq_true]; assumption), if_pos (by assumption)]
  · rw [if_neg (by rw [Bool.not_eq_true]; assumption), if_neg (by rw [Bool.not_eq_true]; assumption), if_neg (by rw [Bool.not_eq_true]; assumption)]
def insW (p : List Fn) (e : Ed) : Int := firstV [(9, e.i.id != 0 || !form e.i), (4, (varsI e.i).any fun v => decide (v ≥ (p.getD e.f.toNat F0).vs)), (1, e.i.kind == 7 && decide (e.i.f ≥ (p.length : Nat))), (7, e.i.kind == 7 && (p.getD e.i.f.toNat F0).ar != e.i.n), (8, decide (((codeV p e.f e.b).length : Int) ≥ 16) || decide (newIdV p < 0))]
theorem any_at {l : List Int} {q : Int → Bool} {k : Nat} (h : k < l.length) (hq : q (l.getD k 0) = true) : l.any q = true := List.any_eq_true.2 ⟨_, getD_mem 0 h, hq⟩
theorem any_no {l : List Int} {q : Int → Bool} (h : ∀ j, j < l.length → q (l.getD j 0) = false) : l.any q = false := by
  rw [List.any_eq_false]
  intro b hb
  obtain ⟨j, hj, rfl⟩ := List.mem_iff_getElem.1 hb
  have := h j hj
  rw [List.getD_eq_getElem?_getD, List.getElem?_eq_getElem hj, Option.getD_some] at this
  rw [this]; simp
theorem p_r7_insert (p : List Fn) (e : Ed) (hf : few p = true) (hr : 0 ≤ e.f ∧ e.f < (p.length : Nat)) : Pure Go.Proofs.Tryz.prog gl 106 [pP p, pE e, .int .i64 ((codeV p e.f e.b).length : Nat)] (.int .i64 (insW p e)) := by
  have h1 := p_r5_Form (gl := gl) e.i
  have h2 := p_r5_VarsX (gl := gl) e.i
  have h3 := p_r_NewId (gl := gl) p hf
  have h4 : form e.i = true → (e.i.kind == 7) = true → 0 ≤ e.i.f := fun h1 h2 => form_call h1 (by simpa using h2)
  have h5 := vars_len5 e.i
  refine Pure.fn hmix b106 ?_
  repeat' first | (with_reducible first | refine tr_seq ?_ | refine n_nil ?_ | refine seqQ_normal ?_ | refine seqQ_exit ?_ | refine seqQ_ret ?_ | refine blkQ_normal ?_ | refine blkQ_exit ?_ | refine blkQ_ret ?_ | refine tr_block ?_ | refine tr_skip ?_ | refine tr_exit ?_ | refine tr_ret ?_ | refine condT_t ?_ | refine condT_f ?_ | refine loopV_exit ?_ | refine loopV_ret ?_) | ((with_reducible refine tr_region_f ?_ ?_); kernel_rfl) | ((with_reducible refine tr_region_t ?_ ?_ ?_); kernel_rfl; kernel_rfl) | exact ⟨rfl, rfl⟩ | ((with_reducible refine blkQ_exit_ne ?_ ?_); rfl) | ((with_reducible apply tr_cond_e); rfl) | ((with_reducible apply n_and); rfl; rfl; intro h) | ((with_reducible apply n_or); rfl; rfl; intro h) | ((with_reducible apply n_call (f := 89)); rfl; rfl; exact h1) | ((with_reducible apply n_call (f := 125)); rfl; rfl; exact h2) | ((with_reducible apply n_call (f := 36)); rfl; rfl; exact h3) | ((with_reducible apply n_idx_vals F0); rfl; rfl; exact (fun _ => rfl); (first | exact hr | (rename (_ != _ || !_) = false => q1; rename (_ && decide _) = false => q2; simp only [Bool.or_eq_false_iff, Bool.not_eq_false'] at q1; simp only [h, Bool.true_and, decide_eq_false_iff_not, List.length_map] at q2; exact ⟨h4 q1.2 h, by omega⟩))) | ((with_reducible apply n_idx_ints); rfl; rfl; (first | omega | decide | (simp only [zz] at *; omega))) | (first | ((with_reducible apply n_bin); rfl; rfl; focus ((with_reducible (first | apply b_add | apply b_sub)) <;> first | omega | decide | (simp only [zz] at *; omega))) | ((with_reducible apply n_max); rfl; rfl) | ((with_reducible apply n_min); rfl; rfl)) | (refine tr_loop_v (α := Nat) 2 (fun | k => [(8, some (.int .i64 (k : Int))), (22, none), (23, none), (24, none), (25, none), (28, none), (29, none), (30, none), (31, none), (32, none), (33, none), (34, none), (35, none), (36, none), (37, none), (38, none), (39, none), (6, none), (26, none), (27, none)]) (fun | k => [some ⟨0, 1, [pP p]⟩, some ⟨0, 17, [pE e]⟩]) (fun | k => k ≤ (varsI e.i).length ∧ (∀ j, j < k → decide ((varsI e.i).getD j 0 ≥ (p.getD e.f.toNat F0).vs) = false) ∧ (varsI e.i).length ≤ 100000) (fun | k => (varsI e.i).length - k) (0) (ks := [8, 22, 23, 24, 25, 28, 29, 30, 31, 32, 33, 34, 35, 36, 37, 38, 39, 6, 26, 27]) (fun _ => rfl) (fun _ => rfl) rfl (by omega) ?_ ⟨⟨_, rfl, rfl⟩, trivial⟩ ⟨⟨_, rfl, rfl, rfl, rfl⟩, ⟨_, rfl, rfl, rfl, rfl⟩, trivial⟩ ?_; rotate_left; rintro k hx; try dsimp only at hx) | ((first | (refine loopV_normal (k + 1) ?_ ⟨⟨_, rfl, rfl⟩, trivial⟩ ⟨⟨_, rfl, rfl, rfl, rfl⟩, ⟨_, rfl, rfl, rfl, rfl⟩, trivial⟩ ?_ ?_)); repeat (first | exact only_refl | refine only_put rfl ?_ | refine only_less rfl ?_ | refine only_ov rfl ?_)) | ((with_reducible apply n_val); rfl; rfl) | ((with_reducible apply n_new); rfl; (first | (simp only [hn0, hn1, hn2, hn3, hn4, hn5, List.length_cons, List.length_nil, Nat.reduceAdd, Nat.zero_add]; first | done | rfl) | rfl); rfl) | (with_reducible refine condT_split (fun h => ?_) (fun h => ?_)) | ((with_reducible apply fnQ_told_ret); rfl) | ((with_reducible apply fnQ_ret_soft); rfl; rfl)
  all_goals (try dsimp only at *)
  all_goals (clear h1 h2 h3)
  all_goals (try simp only [List.length_map, Int.toNat_natCast] at *)
  all_goals (try simp only [ints_length, decide_eq_true_eq (p := (_ : Int) < _), decide_eq_false_iff_not (p := (_ : Int) < _)] at *)
  · rw [insW, firstV, if_pos (by assumption)]
  · rw [insW, firstV, if_neg (by rw [Bool.not_eq_true]; assumption), firstV, if_pos (any_at (k := k) (by simp at *; omega) (by assumption))]
  · first | omega | (simp only [decide_eq_true_eq] at *; omega)
  · refine ⟨by first | omega | (simp only [decide_eq_true_eq] at *; omega), fun j hj => ?_, hx.2.2⟩
    rcases Nat.lt_succ_iff_lt_or_eq.mp hj with hj | rfl
    · exact hx.2.1 j hj
    · assumption
  · rw [insW, firstV, if_neg (by rw [Bool.not_eq_true]; assumption), firstV, if_neg (by rw [Bool.not_eq_true]; exact any_no fun j hj => hx.2.1 j (by first | omega | (simp only [decide_eq_false_iff_not] at *; omega))), firstV, if_pos (by assumption)]
  · rw [insW, firstV, if_neg (by rw [Bool.not_eq_true]; assumption), firstV, if_neg (by rw [Bool.not_eq_true]; exact any_no fun j hj => hx.2.1 j (by first | omega | (simp only [decide_eq_false_iff_not] at *; omega))), firstV, if_neg (by rw [Bool.not_eq_true]; assumption), firstV, if_pos (by assumption)]
  · rw [insW, firstV, if_neg (by rw [Bool.not_eq_true]; assumption), firstV, if_neg (by rw [Bool.not_eq_true]; exact any_no fun j hj => hx.2.1 j (by first | omega | (simp only [decide_eq_false_iff_not] at *; omega))), firstV, if_neg (by rw [Bool.not_eq_true]; assumption), firstV, if_neg (by rw [Bool.not_eq_true]; assumption), firstV, if_pos (by assumption)]
  · rw [insW, firstV, if_neg (by rw [Bool.not_eq_true]; assumption), firstV, if_neg (by rw [Bool.not_eq_true]; exact any_no fun j hj => hx.2.1 j (by first | omega | (simp only [decide_eq_false_iff_not] at *; omega))), firstV, if_neg (by rw [Bool.not_eq_true]; assumption), firstV, if_neg (by rw [Bool.not_eq_true]; assumption), firstV, if_neg (by rw [Bool.not_eq_true]; assumption)]; rfl
  · exact ⟨Nat.zero_le _, fun j hj => absurd hj (by omega), h5⟩
end
end Go.Vm
end
