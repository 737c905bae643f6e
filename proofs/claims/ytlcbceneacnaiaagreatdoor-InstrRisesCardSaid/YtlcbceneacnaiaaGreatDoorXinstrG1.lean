/- Laid. -/
import Derived.Test.YtlcbceneacnaiaaGreatDoorVmThree
import Derived.KernelRfl
import Derived.Test.YtlcbceneacnaiaaGreatDoorProg
import Derived.Test.YtlcbceneacnaiaaGreatDoorXbitsF
import Derived.Test.YtlcbceneacnaiaaGreatDoorLAll
section
/- Code. -/
set_option maxRecDepth 100000
set_option linter.unusedSimpArgs false
set_option linter.unusedVariables false
namespace Go.Vm
open Go
def c5 : RFn := ⟨(.seq (.region (Nodes.flat none (.op (some 0) (.move (.c (.bool false))) 0
  .nil)) false)
 (.seq (.region (Nodes.flat none (.op (some 2) (.build [(.int .i64 0), (.int .i64 0), (.int .i64 0), (.int .i64 0), (.int .i64 0), (.int .i64 0), (.int .i64 0), (.int .i64 0), (.int .i64 0), (.int .i64 0), (.int .i64 0)] [(1, 1, (.c (.int .i64 3))), (3, 1, (.c (.int .i64 1))), (4, 1, (.c (.int .i64 1)))]) 0
  (.op (some 1) (.alloc (.agg [(.int .i64 0), (.int .i64 0), (.int .i64 0), (.int .i64 0), (.int .i64 0), (.int .i64 0), (.int .i64 0), (.int .i64 0), (.int .i64 0), (.int .i64 0), (.int .i64 0)])) 0
  (.op none (.store 11 (.t 1) (.t 2)) 0
  .nil)))) false)
 (.seq (.region (Nodes.flat none (.op (some 3) (.load (some 11) (.t 1)) 0
  (.op (some 4) (.call 26 [(.t 3)]) 0
  (.op (some 5) (.move (.t 4)) 0
  (.grd 5 true
  (.op (some 6) (.load (some 11) (.t 1)) 0
  (.op (some 7) (.call 27 [(.t 6)]) 0
  (.op (some 8) (.bin .eql (.t 7) (.c (.int .i64 0))) 0
  .nil)))
  (.op (some 9) (.pick (.t 5) (.t 8) (.c (.bool false))) 0
  (.op (some 10) (.move (.t 9)) 0
  (.grd 10 true
  (.op (some 11) (.load (some 11) (.t 1)) 0
  (.op (some 12) (.call 29 [(.t 11)]) 0
  (.op (some 13) (.bslice false 1 1 (.int .i64 0) [(0, (.c (.int .i64 1)))]) 0
  (.op (some 14) (.call 28 [(.t 12), (.t 13)]) 0
  .nil))))
  (.op (some 15) (.pick (.t 10) (.t 14) (.c (.bool false))) 0
  (.op (some 16) (.move (.t 15)) 0
  (.grd 16 true
  (.op (some 17) (.call 30 [(.c (.int .i64 3))]) 0
  (.op (some 18) (.bin .eql (.t 17) (.c (.str ⟨#[97, 100, 100]⟩))) 0
  .nil))
  (.op (some 19) (.pick (.t 16) (.t 18) (.c (.bool false))) 0
  (.op (some 0) (.move (.t 19)) 0
  .nil))))))))))))) false)
 .ret))),
 [.tmp 0]⟩
theorem b5 : fnOf Go.Proofs.Tryz.prog (owOf [(2, 10)]) 5 = some c5 := by kernel_rfl
def c17 : RFn := ⟨(.seq (.region (Nodes.flat none (.op (some 1) (.box (.t 0)) 0
  (.op (some 2) (.alloc (.agg [(.int .i64 0), (.lit [])])) 0
  .nil))) false)
 (.seq (.region (Nodes.flat none (.op (some 3) (.fieldAddr 0 (.t 1)) 0
  (.op (some 4) (.load none (.t 3)) 0
  (.op (some 5) (.fieldAddr 1 (.t 1)) 0
  (.op (some 6) (.load none (.t 5)) 0
  (.op (some 7) (.build [(.int .i64 0), (.lit [])] [(0, 1, (.t 4)), (1, 1, (.t 6))]) 0
  (.op none (.store 2 (.t 2) (.t 7)) 0
  .nil))))))) false)
 .ret)),
 [.cell (some 2) 2]⟩
theorem b17 : fnOf Go.Proofs.Tryz.prog (owOf []) 17 = some c17 := by kernel_rfl
def c22 : RFn := ⟨(.seq (.region (Nodes.flat none (.op (some 3) (.box (.t 0)) 0
  (.op (some 4) (.box (.t 1)) 0
  (.op (some 6) (.alloc (.agg [(.int .i64 0), (.lit [])])) 0
  .nil)))) false)
 (.seq (.region (Nodes.flat none (.op (some 7) (.load (some 2) (.t 3)) 0
  (.op (some 8) (.call 18 [(.c (.int .i64 0))]) 0
  (.op (some 9) (.call 16 [(.t 7), (.t 8)]) 3
  (.op none (.store 2 (.t 3) (.t 9)) 7
  .nil))))) true)
 (.seq (.seq (.region (Nodes.flat none (.op (some 10) (.load (some 11) (.t 4)) 0
  (.op (some 11) (.call 27 [(.t 10)]) 0
  (.op (some 12) (.bin .eql (.t 11) (.c (.int .i64 (-1)))) 0
  .nil)))) false)
 (.cond (.t 12)
 (.seq (.region (Nodes.flat none (.op (some 13) (.load (some 2) (.t 3)) 0
  (.op none (.store 2 (.t 6) (.t 13)) 0
  .nil))) false)
 .ret)
 .skip))
 (.seq (.region (Nodes.flat none (.op (some 14) (.load (some 2) (.t 3)) 0
  (.op (some 15) (.fieldAddr 0 (.t 3)) 0
  (.op (some 16) (.load none (.t 15)) 2
  (.op (some 17) (.move (.t 2)) 0
  (.op (some 18) (.call 51 [(.t 16), (.t 17)]) 14
  (.op (some 19) (.call 49 [(.t 14), (.t 18)]) 31
  (.op (some 20) (.fieldAddr 0 (.t 4)) 0
  (.op (some 21) (.load none (.t 20)) 64
  (.op (some 22) (.call 50 [(.t 19), (.t 21)]) 255
  (.op none (.store 2 (.t 6) (.t 22)) 511
  .nil))))))))))) true)
 .ret)))),
 [.cell (some 2) 6]⟩
theorem b22 : fnOf Go.Proofs.Tryz.prog (owOf []) 22 = some c22 := by kernel_rfl
def c23 : RFn := ⟨(.seq (.region (Nodes.flat none (.op (some 2) (.box (.t 0)) 0
  (.op (some 3) (.box (.t 1)) 0
  (.op (some 4) (.alloc (.agg [(.int .i64 0), (.lit [])])) 0
  .nil)))) false)
 (.seq (.region (Nodes.flat none (.op (some 5) (.load (some 2) (.t 2)) 0
  (.op (some 6) (.load (some 11) (.t 3)) 0
  (.op (some 7) (.call 27 [(.t 6)]) 2
  (.op (some 8) (.call 52 [(.t 5), (.t 7)]) 7
  (.op none (.store 2 (.t 2) (.t 8)) 15
  .nil)))))) true)
 (.seq (.region (Nodes.flat none (.op (some 9) (.load (some 2) (.t 2)) 0
  (.op (some 10) (.fieldAddr 0 (.t 2)) 0
  (.op (some 11) (.load none (.t 10)) 2
  (.op (some 12) (.load (some 11) (.t 3)) 0
  (.op (some 13) (.call 29 [(.t 12)]) 8
  (.op (some 14) (.call 51 [(.t 11), (.t 13)]) 30
  (.op (some 15) (.call 16 [(.t 9), (.t 14)]) 63
  (.op none (.store 2 (.t 4) (.t 15)) 127
  .nil))))))))) true)
 .ret))),
 [.cell (some 2) 4]⟩
theorem b23 : fnOf Go.Proofs.Tryz.prog (owOf []) 23 = some c23 := by kernel_rfl
end Go.Vm
end
section
/- Walks. -/
set_option maxRecDepth 100000
set_option linter.unusedSimpArgs false
set_option linter.unusedVariables false
namespace Go.Vm
open Go
set_option maxHeartbeats 4000000
section
variable {gl : Nat → Option PV}
theorem p_Ints (l m : List Int) (hl : l.length ≤ 1000000000) : Pure Go.Proofs.Tryz.prog gl 28 [.sl (ints l), .sl (ints m)] (.bool (l == m)) := p_ref01_Ints l m hl
end
theorem usesI_len (i : In) : (usesI i).length ≤ 5 := by
  unfold usesI
  split
  · exact Nat.le_trans (dedup_len _) (rawUses_len i)
  · simp
theorem p_law05_ours (n : Int) (ws : List Nat) : Pure Go.Proofs.Tryz.prog glD 17 [sv n ws] (sv n ws) := by
  refine Pure.fn hmix b17 ?_
  repeat' first
    | with_reducible refine tr_seq ?_
    | ((with_reducible refine tr_region_f ?_ ?_); kernel_rfl)
    | with_reducible refine n_nil ?_
    | with_reducible refine seqQ_normal ?_
    | with_reducible refine seqQ_ret ?_
    | with_reducible refine blkQ_ret ?_
    | with_reducible refine tr_ret ?_
    | ((with_reducible apply n_val); rfl; rfl)
    | ((with_reducible apply n_new); rfl; (first | (simp only [hn0, hn1, hn2, hn3, hn4, hn5, List.length_cons, List.length_nil, Nat.reduceAdd, Nat.zero_add]; done) | (simp only [hn0, hn1, hn2, hn3, hn4, hn5, List.length_cons, List.length_nil, Nat.reduceAdd, Nat.zero_add]; rfl) | rfl); rfl)
    | ((with_reducible apply n_store); rfl; rfl; rfl; rfl; rfl)
    | ((with_reducible apply fnQ_told_ret); rfl)
    | ((with_reducible apply fnQ_ret_soft); rfl; rfl)
  rfl
theorem p_law05_awake : Pure Go.Proofs.Tryz.prog glD 5 [] (.bool true) := by
  have h1 := p_Form ⟨0, 3, 0, 1, 1, 0, 0, 0, 0, 0, 0⟩
  have h2 := p_Def ⟨0, 3, 0, 1, 1, 0, 0, 0, 0, 0, 0⟩
  have h3 := p_Uses ⟨0, 3, 0, 1, 1, 0, 0, 0, 0, 0, 0⟩
  have h4 := p_instr_Name 3
  refine Pure.fn hmix b5 ?_
  repeat' first
    | with_reducible refine tr_seq ?_
    | ((with_reducible refine tr_region_f ?_ ?_); kernel_rfl)
    | with_reducible refine n_nil ?_
    | exact ⟨rfl, rfl⟩
    | with_reducible refine seqQ_normal ?_
    | with_reducible refine seqQ_ret ?_
    | with_reducible refine blkQ_ret ?_
    | with_reducible refine tr_ret ?_
    | ((with_reducible apply n_and); rfl; rfl; intro h)
    | ((with_reducible apply n_or); rfl; rfl; intro h)
    | ((with_reducible apply n_call (f := 26)); rfl; rfl; exact h1)
    | ((with_reducible apply n_call (f := 27)); rfl; rfl; exact h2)
    | ((with_reducible apply n_call (f := 29)); rfl; rfl; exact h3)
    | ((with_reducible apply n_call (f := 30)); rfl; rfl; exact h4)
    | ((with_reducible apply n_val); rfl; rfl)
    | ((with_reducible apply n_new); rfl; (first | (simp only [hn0, hn1, hn2, hn3, hn4, hn5, List.length_cons, List.length_nil, Nat.reduceAdd, Nat.zero_add]; done) | (simp only [hn0, hn1, hn2, hn3, hn4, hn5, List.length_cons, List.length_nil, Nat.reduceAdd, Nat.zero_add]; rfl) | rfl); rfl)
    | ((with_reducible apply n_store); rfl; rfl; rfl; rfl; rfl)
    | ((with_reducible apply n_call (f := 28)); rfl; rfl; exact p_Ints _ [1] (by decide +kernel))
    | ((with_reducible apply fnQ_told_ret); rfl)
    | ((with_reducible apply fnQ_ret_soft); rfl; rfl)
  refine congrArg PV.bool ?_
  decide +kernel
theorem p_Live (m : Int) (ws : List Nat) (i : In) (hw : W64 ws) : Pure Go.Proofs.Tryz.prog glD 23 [sv m ws, pI i] (mk (nN m ws) (vWout (nN m ws) (vN m ws) (defI i) ||| ofV (nN m ws) (usesI i))) := by
  have hr := nN_r m ws
  have hx := rep_sv m ws hw
  have hO := p_bits_Of (gl := glD) (nN m ws) (usesI i) (by have := usesI_len i; omega)
  rw [show clN (nN m ws) = nN m ws by unfold clN; omega] at hO
  have hU : Rep (mk (nN m ws) (vWout (nN m ws) (vN m ws) (defI i))) (nN m ws) (vWout (nN m ws) (vN m ws) (defI i)) := rep_mk (ok_wout hx.ok)
  have hV : Rep (mk (nN m ws) (ofV (nN m ws) (usesI i))) (nN m ws) (ofV (nN m ws) (usesI i)) := rep_mk (ok_ofV _ _ hr)
  have hW := r_bits_Union (gl := glD) hU hV
  rw [show max (nN m ws) (nN m ws) = nN m ws by omega] at hW
  refine Pure.fn hmix b23 ?_
  repeat' first
    | with_reducible refine tr_seq ?_
    | ((with_reducible refine tr_region_f ?_ ?_); kernel_rfl)
    | ((with_reducible refine tr_region_t ?_ ?_ ?_); kernel_rfl; kernel_rfl)
    | with_reducible refine n_nil ?_
    | with_reducible refine seqQ_normal ?_
    | with_reducible refine seqQ_ret ?_
    | with_reducible refine blkQ_ret ?_
    | with_reducible refine tr_ret ?_
    | ((with_reducible apply n_call (f := 51)); rfl; rfl; exact hO)
    | ((with_reducible apply n_call (f := 16)); rfl; rfl; exact hW)
    | ((with_reducible apply n_val); rfl; rfl)
    | ((with_reducible apply n_new); rfl; (first | (simp only [hn0, hn1, hn2, hn3, hn4, hn5, List.length_cons, List.length_nil, Nat.reduceAdd, Nat.zero_add]; done) | (simp only [hn0, hn1, hn2, hn3, hn4, hn5, List.length_cons, List.length_nil, Nat.reduceAdd, Nat.zero_add]; rfl) | rfl); rfl)
    | ((with_reducible apply n_store); rfl; rfl; rfl; rfl; rfl)
    | ((with_reducible apply n_call (f := 27)); rfl; rfl; exact p_Def ..)
    | ((with_reducible apply n_call (f := 29)); rfl; rfl; exact p_Uses ..)
    | ((with_reducible apply n_call (f := 52)); rfl; rfl; exact r_bits_Without (by first | exact hx | exact hy | exact hz | exact hs | (refine rep_mk ?_; (repeat (first | assumption | exact ok_zero (by omega) | exact ok_ofV _ _ (by assumption) | apply ok_or | apply ok_minus | apply ok_and | apply ok_with | apply ok_wout)))) _)
    | ((with_reducible apply fnQ_told_ret); rfl)
    | ((with_reducible apply fnQ_ret_soft); rfl; rfl)
  rfl
theorem p_Reach (m : Int) (ws : List Nat) (i : In) (ids : List Int) (hw : W64 ws) (hl : ids.length ≤ 1000000000) : Pure Go.Proofs.Tryz.prog glD 22 [sv m ws, pI i, .sl (ints ids)] (mk (nN m ws) (if defI i = -1 then vN m ws else vWith (nN m ws) (minus (vN m ws) (ofV (nN m ws) ids)) i.id)) := by
  have hr := nN_r m ws
  have hx := rep_sv m ws hw
  have hz := hx.ok
  have h0 := rep_mk (ok_zero (N := clN 0) (by decide))
  have hO := p_bits_Of (gl := glD) (nN m ws) ids hl
  rw [show clN (nN m ws) = nN m ws by unfold clN; omega] at hO
  have hU := r_bits_Union (gl := glD) hx h0
  rw [show max (nN m ws) (clN 0) = nN m ws by rw [show clN 0 = 0 from rfl]; omega, Nat.or_zero] at hU
  have hV := r_bits_Minus (gl := glD) (rep_mk hz) (rep_mk (ok_ofV _ ids hr))
  rw [show max (nN m ws) (nN m ws) = nN m ws by omega] at hV
  have hM : Ok (nN m ws) (minus (vN m ws) (ofV (nN m ws) ids)) := by
    have := ok_minus hz (ok_ofV _ ids hr)
    rwa [show max (nN m ws) (nN m ws) = nN m ws by omega] at this
  refine Pure.fn hmix b22 ?_
  repeat' first
    | with_reducible refine tr_seq ?_
    | ((with_reducible refine tr_region_f ?_ ?_); kernel_rfl)
    | ((with_reducible refine tr_region_t ?_ ?_ ?_); kernel_rfl; kernel_rfl)
    | with_reducible refine n_nil ?_
    | with_reducible refine seqQ_normal ?_
    | with_reducible refine seqQ_ret ?_
    | with_reducible refine blkQ_ret ?_
    | with_reducible refine tr_skip ?_
    | with_reducible refine tr_ret ?_
    | ((with_reducible apply tr_cond_e); rfl)
    | with_reducible refine condT_t ?_
    | with_reducible refine condT_f ?_
    | ((with_reducible apply n_call (f := 51)); rfl; rfl; exact hO)
    | ((with_reducible apply n_call (f := 16)); rfl; rfl; exact hU)
    | ((with_reducible apply n_call (f := 49)); rfl; rfl; exact hV)
    | ((with_reducible apply n_val); rfl; rfl)
    | ((with_reducible apply n_new); rfl; (first | (simp only [hn0, hn1, hn2, hn3, hn4, hn5, List.length_cons, List.length_nil, Nat.reduceAdd, Nat.zero_add]; done) | (simp only [hn0, hn1, hn2, hn3, hn4, hn5, List.length_cons, List.length_nil, Nat.reduceAdd, Nat.zero_add]; rfl) | rfl); rfl)
    | ((with_reducible apply n_store); rfl; rfl; rfl; rfl; rfl)
    | ((with_reducible apply n_call (f := 27)); rfl; rfl; exact p_Def ..)
    | ((with_reducible apply n_call (f := 18)); rfl; rfl; exact p_bits_New 0)
    | ((with_reducible apply n_call (f := 50)); rfl; rfl; exact r_bits_With (rep_mk hM) _)
    | (with_reducible refine condT_split (fun h => ?_) (fun h => ?_))
    | ((with_reducible apply fnQ_told_ret); rfl)
    | ((with_reducible apply fnQ_ret_soft); rfl; rfl)
  · rw [if_pos (by simpa using h)]
  · rw [if_neg (by simpa using h)]
theorem r_Live {x : PV} {M : Int} {a : Nat} (hx : Rep x M a) (i : In) : Pure Go.Proofs.Tryz.prog glD 23 [x, pI i] (mk M (liveV M a i)) := by
  obtain ⟨m, ws, rfl, hw, rfl, rfl⟩ := hx
  exact p_Live m ws i hw
theorem r_Reach {x : PV} {M : Int} {a : Nat} (hx : Rep x M a) (i : In) (ids : List Int) (hl : ids.length ≤ 1000000000) : Pure Go.Proofs.Tryz.prog glD 22 [x, pI i, .sl (ints ids)] (mk M (reachV M a i ids)) := by
  obtain ⟨m, ws, rfl, hw, rfl, rfl⟩ := hx
  exact p_Reach m ws i ids hw hl
end Go.Vm
end
