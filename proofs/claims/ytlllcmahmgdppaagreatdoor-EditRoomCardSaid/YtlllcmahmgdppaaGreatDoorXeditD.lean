/- Laid. -/
import Derived.Test.YtlllcmahmgdppaaGreatDoorVmThree
import Derived.KernelRfl
import Derived.Test.YtlllcmahmgdppaaGreatDoorProg
import Derived.Test.YtlllcmahmgdppaaGreatDoorXeditC
section
/- Code. -/
set_option maxRecDepth 100000
set_option linter.unusedSimpArgs false
set_option linter.unusedVariables false
namespace Go.Vm
open Go
def c42 : RFn := ⟨(.seq (rf (.o 2 (.box (.t 0)) (.o 3 (.box (.t 1)) (.o 4 (.move (.i 0)) .nil)))) (.seq (.seq (rf (.o 5 (.load (some 1) (.t 2)) (.o 6 (.call 27 [(.t 5)]) (.o 7 (.un .not (.t 6)) .nil)))) (.cond (.t 7) (.seq (rf (.o 4 (.move (.i 11)) .nil)) .ret) .skip)) (.seq (.seq (rf (.o 8 (.fieldAddr 0 (.t 3)) (.o 9 (.load none (.t 8)) (.o 10 (.bin .lss (.t 9) (.i 0)) (.o 11 (.m 10) (.grd 11 false (.o 12 (.fieldAddr 0 (.t 3)) (.o 13 (.load none (.t 12)) (.o 14 (.bin .gtr (.t 13) (.i 7)) .nil))) (.o 15 (.pick (.t 11) (.c (.bool true)) (.t 14)) .nil))))))) (.cond (.t 15) (.seq (rf (.o 4 (.move (.i 9)) .nil)) .ret) .skip)) (.seq (.seq (rf (.o 16 (.fieldAddr 0 (.t 3)) (.o 17 (.load none (.t 16)) (.o 18 (.bin .eql (.t 17) (.i 0)) .nil)))) (.cond (.t 18) (.seq (rf (.o 19 (.load (some 1) (.t 2)) (.o 20 (.load (some 17) (.t 3)) (.o 21 (.call 72 [(.t 19), (.t 20)]) (.o 4 (.m 21) .nil))))) .ret) .skip)) (.seq (.seq (rf (.o 22 (.fieldAddr 1 (.t 3)) (.o 23 (.load none (.t 22)) (.o 24 (.bin .lss (.t 23) (.i 0)) (.o 25 (.m 24) (.grd 25 false (.o 26 (.fieldAddr 1 (.t 3)) (.o 27 (.load none (.t 26)) (.o 28 (.fieldAddr 0 (.t 2)) (.o 29 (.load none (.t 28)) (.o 30 (.len false (.t 29)) (.o 31 (.bin .geq (.t 27) (.t 30)) .nil)))))) (.o 32 (.pick (.t 25) (.c (.bool true)) (.t 31)) .nil))))))) (.cond (.t 32) (.seq (rf (.o 4 (.move (.i 1)) .nil)) .ret) .skip)) (.seq (.seq (rf (.o 33 (.fieldAddr 0 (.t 3)) (.o 34 (.load none (.t 33)) .nil))) (.block 0 (.seq (rf (.o 36 (.bin .eql (.t 34) (.i 1)) (.o 35 (.m 36) .nil))) (.cond (.t 35) (.seq (.seq (rf (.o 37 (.load (some 1) (.t 2)) (.o 38 (.fieldAddr 1 (.t 3)) (.o 39 (.load none (.t 38)) (.o 40 (.call 38 [(.t 37), (.t 39)]) (.o 41 (.bin .lss (.t 40) (.i 0)) .nil)))))) (.cond (.t 41) (.seq (rf (.o 4 (.move (.i 8)) .nil)) .ret) .skip)) (.seq (rf (.o 4 (.move (.i 0)) .nil)) .ret)) (.seq (rf (.o 43 (.bin .eql (.t 34) (.i 2)) (.o 42 (.m 43) .nil))) (.cond (.t 42) (.seq (.seq (rf (.o 44 (.load (some 1) (.t 2)) (.o 45 (.fieldAddr 1 (.t 3)) (.o 46 (.load none (.t 45)) (.o 47 (.fieldAddr 2 (.t 3)) (.o 48 (.load none (.t 47)) (.o 49 (.call 73 [(.t 44), (.t 46), (.t 48)]) (.o 50 (.un .not (.t 49)) .nil)))))))) (.cond (.t 50) (.seq (rf (.o 4 (.move (.i 2)) .nil)) .ret) .skip)) (.seq (.seq (rf (.o 51 (.fieldAddr 2 (.t 3)) (.o 52 (.load none (.t 51)) (.o 53 (.bin .eql (.t 52) (.i 0)) .nil)))) (.cond (.t 53) (.seq (rf (.o 4 (.move (.i 6)) .nil)) .ret) .skip)) (.seq (rf (.o 4 (.move (.i 0)) .nil)) .ret))) (.seq (.seq (rf (.o 55 (.bin .eql (.t 34) (.i 3)) (.o 54 (.m 55) .nil))) (.cond (.t 54) .skip (.seq (rf (.o 56 (.bin .eql (.t 34) (.i 4)) (.o 54 (.m 56) .nil))) (.cond (.t 54) .skip (rf (.o 57 (.bin .eql (.t 34) (.i 5)) (.o 54 (.m 57) .nil))))))) (.cond (.t 54) (.seq (rf (.o 58 (.load (some 1) (.t 2)) (.o 59 (.load (some 17) (.t 3)) (.o 60 (.call 74 [(.t 58), (.t 59)]) (.o 4 (.m 60) .nil))))) .ret) .skip)))))))) (.seq (rf (.o 61 (.load (some 1) (.t 2)) (.o 62 (.load (some 17) (.t 3)) (.o 63 (.call 75 [(.t 61), (.t 62)]) (.o 4 (.m 63) .nil))))) .ret))))))), [.tmp 4]⟩
theorem b42 : fnOf Go.Proofs.Tryz.prog (owOf []) 42 = some c42 := by kernel_rfl
def c44 : RFn := ⟨(.seq (rf (.o 2 (.box (.t 0)) (.o 3 (.box (.t 1)) (.o 4 (.move (.c (.lit []))) .nil)))) (.seq (.seq (rf (.o 5 (.load (some 1) (.t 2)) (.o 6 (.load (some 17) (.t 3)) (.o 7 (.call 42 [(.t 5), (.t 6)]) (.o 8 (.bin .neq (.t 7) (.i 0)) .nil))))) (.cond (.t 8) (.seq (rf (.o 4 (.move (.c (.lit []))) .nil)) .ret) .skip)) (.seq (.seq (rf (.o 9 (.fieldAddr 0 (.t 3)) (.o 10 (.load none (.t 9)) (.o 11 (.bin .eql (.t 10) (.i 0)) .nil)))) (.cond (.t 11) (.seq (rf (.o 12 (.fieldAddr 0 (.t 2)) (.o 13 (.load none (.t 12)) (.o 14 (.len false (.t 13)) (.o 15 (.bslice true 1 1 (.int .i64 0) [(0, (.t 14))]) (.o 4 (.m 15) .nil)))))) .ret) .skip)) (.seq (rf (.o 16 (.fieldAddr 1 (.t 3)) (.o 17 (.load none (.t 16)) (.o 18 (.bslice true 1 1 (.int .i64 0) [(0, (.t 17))]) (.o 4 (.m 18) .nil))))) .ret)))), [.tmp 4]⟩
theorem b44 : fnOf Go.Proofs.Tryz.prog (owOf []) 44 = some c44 := by kernel_rfl
def c46 : RFn := ⟨(.seq (rf (.o 2 (.box (.t 0)) (.o 3 (.box (.t 1)) (.o 4 (.move (.c (.bool false))) .nil)))) (.seq (rf (.o 5 (.load (some 1) (.t 2)) (.o 6 (.load (some 17) (.t 3)) (.o 7 (.call 42 [(.t 5), (.t 6)]) (.o 8 (.bin .eql (.t 7) (.i 0)) (.o 9 (.m 8) (.grd 9 true (.o 10 (.fieldAddr 0 (.t 3)) (.o 11 (.load none (.t 10)) (.o 12 (.bin .eql (.t 11) (.i 5)) .nil))) (.o 13 (.pick (.t 9) (.t 12) (.c (.bool false))) (.o 14 (.m 13) (.grd 14 true (.o 15 (.fieldAddr 4 (.t 3)) (.o 16 (.load none (.t 15)) (.o 17 (.fieldAddr 3 (.t 3)) (.o 18 (.load none (.t 17)) (.o 19 (.bin .eql (.t 16) (.t 18)) .nil))))) (.o 20 (.pick (.t 14) (.t 19) (.c (.bool false))) (.o 4 (.m 20) .nil)))))))))))) .ret)), [.tmp 4]⟩
theorem b46 : fnOf Go.Proofs.Tryz.prog (owOf []) 46 = some c46 := by kernel_rfl
def c48 : RFn := ⟨(.seq (rf (.o 2 (.move (.c (.str ⟨#[]⟩))) .nil)) (.seq (rf (.o 4 (.bslice true 1 8 (.str ⟨#[]⟩) [(0, (.c (.str ⟨#[97, 100, 100, 102, 117, 110]⟩))), (1, (.c (.str ⟨#[97, 100, 100, 98, 108, 111, 99, 107]⟩))), (2, (.c (.str ⟨#[100, 101, 108, 98, 108, 111, 99, 107]⟩))), (3, (.c (.str ⟨#[97, 100, 100, 101, 100, 103, 101]⟩))), (4, (.c (.str ⟨#[100, 101, 108, 101, 100, 103, 101]⟩))), (5, (.c (.str ⟨#[114, 101, 119, 105, 114, 101]⟩))), (6, (.c (.str ⟨#[105, 110, 115, 101, 114, 116]⟩))), (7, (.c (.str ⟨#[100, 101, 108, 101, 116, 101]⟩)))]) (.o 3 (.m 4) .nil))) (.seq (.seq (rf (.o 5 (.m 0) (.o 6 (.bin .lss (.t 5) (.i 0)) (.o 7 (.m 6) (.grd 7 false (.o 8 (.m 0) (.o 9 (.bin .gtr (.t 8) (.i 7)) .nil)) (.o 10 (.pick (.t 7) (.c (.bool true)) (.t 9)) .nil)))))) (.cond (.t 10) (.seq (rf (.o 2 (.move (.c (.str ⟨#[]⟩))) .nil)) .ret) .skip)) (.seq (rf (.o 11 (.m 3) (.o 12 (.m 0) (.o 13 (.idxAddr 1 (.t 11) (.t 12)) (.o 14 (.load none (.t 13)) (.o 2 (.m 14) .nil)))))) .ret)))), [.tmp 2]⟩
theorem b48 : fnOf Go.Proofs.Tryz.prog (owOf []) 48 = some c48 := by kernel_rfl
def c75 : RFn := ⟨(.seq (rf (.o 2 (.box (.t 0)) (.o 3 (.box (.t 1)) (.o 4 (.move (.i 0)) .nil)))) (.seq (rf (.o 8 (.load (some 1) (.t 2)) (.o 9 (.fieldAddr 1 (.t 3)) (.o 10 (.load none (.t 9)) (.o 11 (.fieldAddr 2 (.t 3)) (.o 12 (.load none (.t 11)) (.o 13 (.call 24 [(.t 8), (.t 10), (.t 12)]) (.o 7 (.m 13) (.o 14 (.extract 0 (.t 7)) (.o 15 (.extract 1 (.t 7)) (.o 5 (.alloc (.agg [(.bool false), (.lit []), (.lit [])])) (.op none (.store 3 (.t 5) (.t 14)) 0 (.o 6 (.m 15) .nil))))))))))))) (.seq (.seq (rf (.o 16 (.m 6) (.o 17 (.un .not (.t 16)) .nil))) (.cond (.t 17) (.seq (rf (.o 4 (.move (.i 2)) .nil)) .ret) .skip)) (.seq (.seq (rf (.o 18 (.fieldAddr 5 (.t 3)) (.o 19 (.load none (.t 18)) (.o 20 (.bin .lss (.t 19) (.i 0)) (.o 21 (.m 20) (.grd 21 false (.o 22 (.fieldAddr 5 (.t 3)) (.o 23 (.load none (.t 22)) (.o 24 (.fieldAddr 1 (.t 5)) (.o 25 (.load none (.t 24)) (.o 26 (.len false (.t 25)) (.o 27 (.bin .gtr (.t 23) (.t 26)) .nil)))))) (.o 28 (.pick (.t 21) (.c (.bool true)) (.t 27)) (.o 29 (.m 28) (.grd 29 false (.o 30 (.fieldAddr 0 (.t 3)) (.o 31 (.load none (.t 30)) (.o 32 (.bin .eql (.t 31) (.i 7)) (.o 33 (.m 32) (.grd 33 true (.o 34 (.fieldAddr 5 (.t 3)) (.o 35 (.load none (.t 34)) (.o 36 (.fieldAddr 1 (.t 5)) (.o 37 (.load none (.t 36)) (.o 38 (.len false (.t 37)) (.o 39 (.bin .eql (.t 35) (.t 38)) .nil)))))) (.o 40 (.pick (.t 33) (.t 39) (.c (.bool false))) .nil)))))) (.o 41 (.pick (.t 29) (.c (.bool true)) (.t 40)) .nil)))))))))) (.cond (.t 41) (.seq (rf (.o 4 (.move (.i 3)) .nil)) .ret) .skip)) (.seq (.seq (rf (.o 42 (.fieldAddr 0 (.t 3)) (.o 43 (.load none (.t 42)) (.o 44 (.bin .eql (.t 43) (.i 7)) .nil)))) (.cond (.t 44) (.seq (rf (.o 4 (.move (.i 0)) .nil)) .ret) .skip)) (.seq (rf (.o 45 (.load (some 1) (.t 2)) (.o 46 (.load (some 17) (.t 3)) (.o 47 (.fieldAddr 1 (.t 5)) (.o 48 (.load none (.t 47)) (.o 49 (.len false (.t 48)) (.o 50 (.call 106 [(.t 45), (.t 46), (.t 49)]) (.o 4 (.m 50) .nil)))))))) .ret)))))), [.tmp 4]⟩
theorem b75 : fnOf Go.Proofs.Tryz.prog (owOf []) 75 = some c75 := by kernel_rfl
end Go.Vm
end
section
/- Walks. -/
set_option maxRecDepth 100000
set_option linter.unusedSimpArgs false
set_option linter.unusedVariables false
namespace Go.Vm
open Go
set_option maxHeartbeats 4000000
section
variable {gl : Nat → Option PV}
theorem firstV_cons (e : Int) (b : Bool) (r : List (Int × Bool)) : firstV ((e, b) :: r) = if b then e else firstV r := rfl
theorem p_r7_places (p : List Fn) (e : Ed) (hf : few p = true) (hr : 0 ≤ e.f ∧ e.f < (p.length : Nat)) (ho : e.op = 6 ∨ e.op = 7) : Pure Go.Proofs.Tryz.prog gl 75 [pP p, pE e] (.int .i64 (othV p e)) := by
  have hB : Pure Go.Proofs.Tryz.prog gl 24 [pP p, .int .i64 e.f, .int .i64 e.b] (.tup [pB ((blkV p e.f e.b).getD B0), .bool (blkV p e.f e.b).isSome]) := p_r_Block p e.f e.b hf
  have hi := p_r7_insert (gl := gl) p e hf hr
  have hv : othV p e = if (!(blkV p e.f e.b).isSome) = true then 2 else if (decide (e.pos < 0) || decide (e.pos > ((codeV p e.f e.b).length : Nat)) || (e.op == 7 && e.pos == ((codeV p e.f e.b).length : Nat))) = true then 3 else if (e.op == 7) = true then 0 else insW p e := by
    rcases ho with ho | ho
    · have e1 : othV p e = insV p e := by unfold othV; rw [ho]; rfl
      have e2 : insV p e = if (!(blkV p e.f e.b).isSome || false) = true then 2 else if (decide (e.pos < 0) || decide (e.pos > ((codeV p e.f e.b).length : Nat))) = true then 3 else insW p e := rfl
      rw [e1, e2, Bool.or_false, ho]
      simp
    · have e1 : othV p e = if (!(blkV p e.f e.b).isSome || false) = true then 2 else if (decide (e.pos < 0) || decide (e.pos ≥ ((codeV p e.f e.b).length : Nat))) = true then 3 else 0 := by unfold othV; rw [ho]; rfl
      have e2 : (decide (e.pos < 0) || decide (e.pos > ((codeV p e.f e.b).length : Nat)) || (e.op == 7 && e.pos == ((codeV p e.f e.b).length : Nat))) = (decide (e.pos < 0) || decide (e.pos ≥ ((codeV p e.f e.b).length : Nat))) := by
        rw [ho, beq_self_eq_true, Bool.true_and, Bool.eq_iff_iff]
        simp only [Bool.or_eq_true, decide_eq_true_eq, beq_iff_eq]
        omega
      rw [e1, e2, Bool.or_false, ho]
      simp
  rw [hv]
  refine Pure.fn hmix b75 ?_
  unfold codeV at *
  generalize (blkV p e.f e.b).getD B0 = x at *
  generalize (blkV p e.f e.b).isSome = o at *
  have hi2 : Pure Go.Proofs.Tryz.prog gl 106 [pP p, pE e, .int .i64 ((x.code.map pI).length : Nat)] (.int .i64 (insW p e)) := by rw [List.length_map]; exact hi
  repeat' first | (with_reducible first | refine tr_seq ?_ | refine n_nil ?_ | refine seqQ_normal ?_ | refine seqQ_ret ?_ | refine blkQ_ret ?_ | refine tr_skip ?_ | refine tr_ret ?_ | refine condT_t ?_ | refine condT_f ?_) | ((with_reducible refine tr_region_f ?_ ?_); kernel_rfl) | exact ⟨rfl, rfl⟩ | ((with_reducible apply tr_cond_e); rfl) | ((with_reducible apply n_and); rfl; rfl; intro h) | ((with_reducible apply n_or); rfl; rfl; intro h) | ((with_reducible apply n_call (f := 24)); rfl; rfl; exact hB) | ((with_reducible apply n_call (f := 106)); rfl; rfl; exact hi2) | ((with_reducible apply n_val); rfl; rfl) | ((with_reducible apply n_new); rfl; (first | (simp only [hn0, hn1, hn2, hn3, hn4, hn5, List.length_cons, List.length_nil, Nat.reduceAdd, Nat.zero_add]; first | done | rfl) | rfl); rfl) | ((with_reducible apply n_store); rfl; rfl; rfl; rfl; rfl) | (with_reducible refine condT_split (fun h => ?_) (fun h => ?_)) | ((with_reducible apply fnQ_told_ret); rfl) | ((with_reducible apply fnQ_ret_soft); rfl; rfl)
  all_goals (try simp only [List.length_map] at *)
  · rw [if_pos (by assumption)]
  · rw [if_neg (by rw [Bool.not_eq_true]; assumption), if_pos (by assumption)]
  · rw [if_neg (by rw [Bool.not_eq_true]; assumption), if_neg (by rw [Bool.not_eq_true]; assumption), if_pos (by assumption)]
  · rw [if_neg (by rw [Bool.not_eq_true]; assumption), if_neg (by rw [Bool.not_eq_true]; assumption), if_neg (by rw [Bool.not_eq_true]; assumption)]
theorem p_r7_Check (p : List Fn) (e : Ed) (hf : few p = true) : Pure Go.Proofs.Tryz.prog gl 42 [pP p, pE e] (.int .i64 (cheV p e)) := by
  have hs := p_r_Sane (gl := gl) p hf
  have ha := p_r7_addFun (gl := gl) p e
  have hb := p_r7_block (gl := gl) p e.f e.b hf
  have hn := p_r_NewBlock (gl := gl) p e.f hf
  have hE := fun ho => p_r7_edges (gl := gl) p e hf ho
  have hP := fun hr ho => p_r7_places (gl := gl) p e hf hr ho
  refine Pure.fn hmix b42 ?_
  repeat' first | (with_reducible first | refine tr_seq ?_ | refine n_nil ?_ | refine seqQ_normal ?_ | refine seqQ_ret ?_ | refine blkQ_normal ?_ | refine blkQ_ret ?_ | refine tr_block ?_ | refine tr_skip ?_ | refine tr_ret ?_ | refine condT_t ?_ | refine condT_f ?_) | ((with_reducible refine tr_region_f ?_ ?_); kernel_rfl) | exact ⟨rfl, rfl⟩ | ((with_reducible apply tr_cond_e); rfl) | ((with_reducible apply n_and); rfl; rfl; intro h) | ((with_reducible apply n_or); rfl; rfl; intro h) | ((with_reducible apply n_call (f := 27)); rfl; rfl; exact hs) | ((with_reducible apply n_call (f := 72)); rfl; rfl; exact ha) | ((with_reducible apply n_call (f := 73)); rfl; rfl; exact hb) | ((with_reducible apply n_call (f := 38)); rfl; rfl; exact hn) | ((with_reducible apply n_call (f := 74)); rfl; rfl; exact hE (by simp only [beq_iff_eq, beq_eq_false_iff_ne, ne_eq] at *; omega)) | ((with_reducible apply n_call (f := 75)); rfl; rfl; exact hP (by simp only [Bool.or_eq_false_iff, decide_eq_false_iff_not, List.length_map] at *; omega) (by simp only [beq_iff_eq, beq_eq_false_iff_ne, ne_eq, Bool.or_eq_false_iff, decide_eq_false_iff_not] at *; omega)) | ((with_reducible apply n_val); rfl; rfl) | ((with_reducible apply n_new); rfl; (first | (simp only [hn0, hn1, hn2, hn3, hn4, hn5, List.length_cons, List.length_nil, Nat.reduceAdd, Nat.zero_add]; first | done | rfl) | rfl); rfl) | (with_reducible refine condT_split (fun h => ?_) (fun h => ?_)) | ((with_reducible apply fnQ_told_ret); rfl) | ((with_reducible apply fnQ_ret_soft); rfl; rfl)
  all_goals (
    clear hs ha hb hn hE hP
    refine congrArg (PV.int .i64) ?_
    simp only [Bool.not_eq_true', Bool.not_eq_false', decide_eq_true_eq, decide_eq_false_iff_not, beq_iff_eq, beq_eq_false_iff_ne, ne_eq, Bool.or_eq_true, Bool.or_eq_false_iff, List.length_map] at *
    first
      | (exfalso; omega)
      | (unfold cheV
         repeat (first | rw [if_pos (by first | assumption | omega)] | rw [if_neg (by first | assumption | omega | (simp_all; done))])
         done)
      | (unfold cheV
         repeat (first | rw [if_pos (by first | assumption | omega)] | rw [if_neg (by first | assumption | omega | (simp_all; done))])
         unfold othV
         repeat (first | rw [if_pos (by first | assumption | omega)] | rw [if_neg (by first | assumption | omega)])
         simp only [firstV, noB, List.any_cons, List.any_nil, Bool.or_false]
         first
           | (simp only [‹Option.isSome _ = true›]; simp [‹e.b = 0›]; done)
           | (simp [*]; done)))
theorem p_r7_Name (k : Int) : Pure Go.Proofs.Tryz.prog gl 48 [.int .i64 k] (.str (nmO k)) := by
  refine Pure.fn hmix b48 ?_
  repeat' first | (with_reducible first | refine tr_seq ?_ | refine n_nil ?_ | refine seqQ_normal ?_ | refine seqQ_ret ?_ | refine blkQ_ret ?_ | refine tr_skip ?_ | refine tr_ret ?_ | refine condT_t ?_ | refine condT_f ?_) | ((with_reducible refine tr_region_f ?_ ?_); kernel_rfl) | exact ⟨rfl, rfl⟩ | ((with_reducible apply tr_cond_e); rfl) | ((with_reducible apply n_and); rfl; rfl; intro h) | ((with_reducible apply n_or); rfl; rfl; intro h) | ((with_reducible apply n_idx_own); rfl; rfl; rfl; (first | omega | decide | (simp only [zz] at *; omega))) | ((with_reducible apply n_load_vals (f := PV.str) (xs := nmE) bs0); rfl; rfl; rfl; (show _ < 8; first | omega | decide | (simp only [zz] at *; omega))) | ((with_reducible apply n_val); rfl; rfl) | ((with_reducible apply n_row); rfl; (first | (simp only [hn0, hn1, hn2, hn3, hn4, hn5, List.length_cons, List.length_nil, Nat.reduceAdd, Nat.zero_add]; first | done | rfl) | rfl); rfl) | (with_reducible refine condT_split (fun h => ?_) (fun h => ?_)) | ((with_reducible apply fnQ_told_ret); rfl) | ((with_reducible apply fnQ_ret_soft); rfl; rfl)
  all_goals (simp only [Bool.or_eq_true, decide_eq_true_eq, Bool.or_eq_false_iff, decide_eq_false_iff_not] at h)
  · rw [nmO, if_neg (by omega)]; rfl
  · rw [nmO, if_pos (by omega)]
theorem p_r7_Tou (p : List Fn) (e : Ed) (hf : few p = true) : Pure Go.Proofs.Tryz.prog gl 44 [pP p, pE e] (.sl (ints (touV p e))) := by
  have hc := p_r7_Check (gl := gl) p e hf
  unfold touV
  generalize cheV p e = c at *
  refine Pure.fn hmix b44 ?_
  repeat' first | (with_reducible first | refine tr_seq ?_ | refine n_nil ?_ | refine seqQ_normal ?_ | refine seqQ_ret ?_ | refine blkQ_ret ?_ | refine tr_skip ?_ | refine tr_ret ?_ | refine condT_t ?_ | refine condT_f ?_) | ((with_reducible refine tr_region_f ?_ ?_); kernel_rfl) | ((with_reducible apply tr_cond_e); rfl) | ((with_reducible apply n_call (f := 42)); rfl; rfl; exact hc) | ((with_reducible apply n_val); rfl; rfl) | ((with_reducible apply n_new); rfl; (first | (simp only [hn0, hn1, hn2, hn3, hn4, hn5, List.length_cons, List.length_nil, Nat.reduceAdd, Nat.zero_add]; first | done | rfl) | rfl); rfl) | ((with_reducible apply n_row); rfl; (first | (simp only [hn0, hn1, hn2, hn3, hn4, hn5, List.length_cons, List.length_nil, Nat.reduceAdd, Nat.zero_add]; first | done | rfl) | rfl); rfl) | (with_reducible refine condT_split (fun h => ?_) (fun h => ?_)) | ((with_reducible apply fnQ_told_ret); rfl) | ((with_reducible apply fnQ_ret_soft); rfl; rfl)
  all_goals (simp only [bne_iff_ne, bne_eq_false_iff_eq, beq_iff_eq, beq_eq_false_iff_ne, ne_eq] at *)
  · rw [if_pos (by assumption)]; rfl
  · rw [if_neg (by omega), if_pos (by assumption), List.length_map]; rfl
  · rw [if_neg (by omega), if_neg (by assumption)]; rfl
theorem p_r7_Same (p : List Fn) (e : Ed) (hf : few p = true) : Pure Go.Proofs.Tryz.prog gl 46 [pP p, pE e] (.bool (samV p e)) := by
  have hc := p_r7_Check (gl := gl) p e hf
  unfold samV
  generalize cheV p e = c at *
  refine Pure.fn hmix b46 ?_
  repeat' first | (with_reducible first | refine tr_seq ?_ | refine n_nil ?_ | refine seqQ_normal ?_ | refine seqQ_ret ?_ | refine blkQ_ret ?_ | refine tr_ret ?_) | ((with_reducible refine tr_region_f ?_ ?_); kernel_rfl) | exact ⟨rfl, rfl⟩ | ((with_reducible apply n_and); rfl; rfl; intro h) | ((with_reducible apply n_or); rfl; rfl; intro h) | ((with_reducible apply n_call (f := 42)); rfl; rfl; exact hc) | ((with_reducible apply n_val); rfl; rfl) | ((with_reducible apply n_new); rfl; (first | (simp only [hn0, hn1, hn2, hn3, hn4, hn5, List.length_cons, List.length_nil, Nat.reduceAdd, Nat.zero_add]; first | done | rfl) | rfl); rfl) | ((with_reducible apply fnQ_told_ret); rfl) | ((with_reducible apply fnQ_ret_soft); rfl; rfl)
  refine congrArg PV.bool ?_
  rw [Bool.eq_iff_iff]
  simp only [Bool.and_eq_true, beq_iff_eq]
  constructor
  · rintro ⟨⟨h1, h2⟩, h3⟩; exact ⟨⟨h2, h3.symm⟩, h1⟩
  · rintro ⟨⟨h1, h2⟩, h3⟩; exact ⟨⟨h3, h1⟩, h2.symm⟩
end
end Go.Vm
end
