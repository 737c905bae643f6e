/- Laid. -/
import Derived.Test.YtlllcmahmgdppaaDoorVmThree
import Derived.KernelRfl
import Derived.Test.YtlllcmahmgdppaaDoorProg
import Derived.Test.YtlllcmahmgdppaaDoorXinstrD
section
/- Code. -/
set_option maxRecDepth 100000
set_option linter.unusedSimpArgs false
set_option linter.unusedVariables false
namespace Go.Vm
open Go
def c41 : RFn := ⟨(.seq (.region (Nodes.flat none (.op (some 1) (.box (.t 0)) 0
  (.op (some 2) (.move (.c (.bool false))) 0
  .nil))) false)
 (.seq (.seq (.region (Nodes.flat none (.op (some 4) (.fieldAddr 1 (.t 1)) 0
  (.op (some 5) (.load none (.t 4)) 0
  (.op (some 6) (.call 44 [(.t 5)]) 0
  (.op (some 7) (.bin .eql (.t 6) (.c (.str ⟨#[]⟩))) 0
  (.op (some 8) (.move (.t 7)) 0
  (.grd 8 false
  (.op (some 9) (.fieldAddr 0 (.t 1)) 0
  (.op (some 10) (.load none (.t 9)) 0
  (.op (some 11) (.bin .lss (.t 10) (.c (.int .i64 0))) 0
  .nil)))
  (.op (some 12) (.pick (.t 8) (.c (.bool true)) (.t 11)) 0
  (.op (some 13) (.move (.t 12)) 0
  (.grd 13 false
  (.op (some 14) (.fieldAddr 0 (.t 1)) 0
  (.op (some 15) (.load none (.t 14)) 0
  (.op (some 16) (.bin .geq (.t 15) (.c (.int .i64 96))) 0
  .nil)))
  (.op (some 17) (.pick (.t 13) (.c (.bool true)) (.t 16)) 0
  (.op (some 18) (.move (.t 17)) 0
  (.grd 18 false
  (.op (some 19) (.fieldAddr 7 (.t 1)) 0
  (.op (some 20) (.load none (.t 19)) 0
  (.op (some 21) (.bin .lss (.t 20) (.c (.int .i64 0))) 0
  .nil)))
  (.op (some 22) (.pick (.t 18) (.c (.bool true)) (.t 21)) 0
  (.op (some 23) (.move (.t 22)) 0
  (.grd 23 false
  (.op (some 24) (.fieldAddr 7 (.t 1)) 0
  (.op (some 25) (.load none (.t 24)) 0
  (.op (some 26) (.bin .gtr (.t 25) (.c (.int .i64 3))) 0
  .nil)))
  (.op (some 27) (.pick (.t 23) (.c (.bool true)) (.t 26)) 0
  (.op (some 28) (.move (.t 27)) 0
  (.grd 28 false
  (.op (some 29) (.fieldAddr 5 (.t 1)) 0
  (.op (some 30) (.load none (.t 29)) 0
  (.op (some 31) (.bin .lss (.t 30) (.c (.int .i64 (-2147483648)))) 0
  .nil)))
  (.op (some 32) (.pick (.t 28) (.c (.bool true)) (.t 31)) 0
  (.op (some 33) (.move (.t 32)) 0
  (.grd 33 false
  (.op (some 34) (.fieldAddr 5 (.t 1)) 0
  (.op (some 35) (.load none (.t 34)) 0
  (.op (some 36) (.bin .gtr (.t 35) (.c (.int .i64 2147483647))) 0
  .nil)))
  (.op (some 37) (.pick (.t 33) (.c (.bool true)) (.t 36)) 0
  .nil))))))))))))))))))))))) false)
 (.cond (.t 37)
 (.seq (.region (Nodes.flat none (.op (some 2) (.move (.c (.bool false))) 0
  .nil)) false)
 .ret)
 .skip))
 (.seq (.region (Nodes.flat none (.op (some 38) (.fieldAddr 2 (.t 1)) 0
  (.op (some 39) (.load none (.t 38)) 1
  (.op (some 40) (.fieldAddr 3 (.t 1)) 0
  (.op (some 41) (.load none (.t 40)) 4
  (.op (some 42) (.fieldAddr 4 (.t 1)) 0
  (.op (some 43) (.load none (.t 42)) 16
  (.op (some 44) (.fieldAddr 6 (.t 1)) 0
  (.op (some 45) (.load none (.t 44)) 64
  (.op (some 46) (.fieldAddr 8 (.t 1)) 0
  (.op (some 47) (.prim (.sliceArr 3 false false false) [(.t 46)]) 256
  (.op (some 48) (.call 45 [(.t 47)]) 768
  (.op (some 49) (.mm false (.t 39) [(.t 41), (.t 43), (.t 45), (.t 48)]) 2047
  (.op (some 3) (.move (.t 49)) 4095
  .nil)))))))))))))) true)
 (.seq (.region (Nodes.flat none (.op (some 50) (.move (.t 3)) 0
  (.op (some 51) (.bin .geq (.t 50) (.c (.int .i64 0))) 0
  (.op (some 52) (.move (.t 51)) 0
  (.grd 52 true
  (.op (some 53) (.load (some 11) (.t 1)) 0
  (.op (some 54) (.call 46 [(.t 53)]) 0
  (.op (some 55) (.build [(.int .i64 0), (.int .i64 0), (.int .i64 0), (.int .i64 0), (.int .i64 0), (.int .i64 0), (.int .i64 0), (.int .i64 0), (.int .i64 0), (.int .i64 0), (.int .i64 0)] []) 0
  (.op (some 56) (.eqs false [(0, 1), (1, 1), (2, 1), (3, 1), (4, 1), (5, 1), (6, 1), (7, 1), (8, 1), (9, 1), (10, 1)] (.t 54) (.t 55)) 0
  .nil))))
  (.op (some 57) (.pick (.t 52) (.t 56) (.c (.bool false))) 0
  (.op (some 2) (.move (.t 57)) 0
  .nil))))))) false)
 .ret)))),
 [.tmp 2]⟩
theorem b41 : fnOf Go.Proofs.Tryd.prog (owOf []) 41 = some c41 := by kernel_rfl
def c45 : RFn := ⟨(.seq (.region (Nodes.flat none (.op (some 2) (.move (.c (.int .i64 0))) 0
  .nil)) false)
 (.seq (.seq (.region (Nodes.flat none (.op (some 5) (.move (.t 0)) 0
  (.op (some 6) (.len false (.t 5)) 0
  (.op (some 7) (.bin .lss (.t 6) (.c (.int .i64 1))) 0
  .nil)))) false)
 (.cond (.t 7)
 (.region (Nodes.flat none (.op (some 8) (.prim (.mkif 9) [(.c (.str ⟨#[115, 108, 105, 99, 101, 115, 46, 77, 105, 110, 58, 32, 101, 109, 112, 116, 121, 32, 108, 105, 115, 116]⟩))]) 0
  (.op none (.nope) 0
  .nil))) false)
 .skip))
 (.seq (.region (Nodes.flat none (.op (some 9) (.move (.t 0)) 0
  (.op (some 10) (.idxAddr 1 (.t 9) (.c (.int .i64 0))) 0
  (.op (some 11) (.load none (.t 10)) 0
  (.op (some 3) (.move (.t 11)) 0
  .nil))))) false)
 (.seq (.seq (.region (Nodes.flat none (.op (some 4) (.move (.c (.int .i64 1))) 0
  .nil)) false)
 (.block 0 (.loop (.seq (.seq (.region (Nodes.flat none (.op (some 12) (.move (.t 4)) 0
  (.op (some 13) (.move (.t 0)) 0
  (.op (some 14) (.len false (.t 13)) 0
  (.op (some 15) (.bin .lss (.t 12) (.t 14)) 0
  .nil))))) false)
 (.cond (.t 15)
 .skip
 (.exit 0)))
 (.seq (.block 1 (.region (Nodes.flat none (.op (some 18) (.move (.t 3)) 0
  (.op (some 19) (.move (.t 0)) 0
  (.op (some 20) (.move (.t 4)) 0
  (.op (some 21) (.idxAddr 1 (.t 19) (.t 20)) 0
  (.op (some 22) (.load none (.t 21)) 0
  (.op (some 23) (.mm false (.t 18) [(.t 22)]) 0
  (.op (some 3) (.move (.t 23)) 0
  .nil)))))))) false))
 (.region (Nodes.flat none (.op (some 16) (.move (.t 4)) 0
  (.op (some 17) (.bin .add (.t 16) (.c (.int .i64 1))) 0
  (.op (some 4) (.move (.t 17)) 0
  .nil)))) false))))))
 (.seq (.region (Nodes.flat none (.op (some 24) (.move (.t 3)) 0
  (.op (some 2) (.move (.t 24)) 0
  .nil))) false)
 .ret))))),
 [.tmp 2]⟩
theorem b45 : fnOf Go.Proofs.Tryd.prog (owOf []) 45 = some c45 := by kernel_rfl
def c46 : RFn := ⟨(.seq (.region (Nodes.flat none (.op (some 1) (.box (.t 0)) 0
  (.op (some 2) (.alloc (.agg [(.int .i64 0), (.int .i64 0), (.int .i64 0), (.int .i64 0), (.int .i64 0), (.int .i64 0), (.int .i64 0), (.int .i64 0), (.int .i64 0), (.int .i64 0), (.int .i64 0)])) 0
  .nil))) false)
 (.seq (.region (Nodes.flat none (.op (some 4) (.load (some 11) (.t 1)) 0
  (.op (some 5) (.call 52 [(.t 4)]) 0
  (.op (some 3) (.alloc (.agg [(.int .i64 0), (.int .i64 0), (.int .i64 0), (.int .i64 0), (.int .i64 0), (.int .i64 0), (.int .i64 0), (.int .i64 0), (.int .i64 0), (.int .i64 0), (.int .i64 0)])) 0
  (.op none (.store 11 (.t 3) (.t 5)) 0
  .nil))))) false)
 (.seq (.seq (.region (Nodes.flat none (.op (some 6) (.load (some 11) (.t 1)) 0
  (.op (some 7) (.call 53 [(.t 6), (.c (.str ⟨#[100]⟩))]) 0
  .nil))) false)
 (.cond (.t 7)
 (.region (Nodes.flat none (.op (some 8) (.fieldAddr 2 (.t 3)) 0
  (.op none (.store 1 (.t 8) (.c (.int .i64 0))) 0
  .nil))) false)
 .skip))
 (.seq (.seq (.region (Nodes.flat none (.op (some 9) (.load (some 11) (.t 1)) 0
  (.op (some 10) (.call 53 [(.t 9), (.c (.str ⟨#[97]⟩))]) 0
  .nil))) false)
 (.cond (.t 10)
 (.region (Nodes.flat none (.op (some 11) (.fieldAddr 3 (.t 3)) 0
  (.op none (.store 1 (.t 11) (.c (.int .i64 0))) 0
  .nil))) false)
 .skip))
 (.seq (.seq (.region (Nodes.flat none (.op (some 12) (.load (some 11) (.t 1)) 0
  (.op (some 13) (.call 53 [(.t 12), (.c (.str ⟨#[98]⟩))]) 0
  .nil))) false)
 (.cond (.t 13)
 (.region (Nodes.flat none (.op (some 14) (.fieldAddr 4 (.t 3)) 0
  (.op none (.store 1 (.t 14) (.c (.int .i64 0))) 0
  .nil))) false)
 .skip))
 (.seq (.seq (.region (Nodes.flat none (.op (some 15) (.load (some 11) (.t 1)) 0
  (.op (some 16) (.call 53 [(.t 15), (.c (.str ⟨#[99]⟩))]) 0
  .nil))) false)
 (.cond (.t 16)
 (.region (Nodes.flat none (.op (some 17) (.fieldAddr 5 (.t 3)) 0
  (.op none (.store 1 (.t 17) (.c (.int .i64 0))) 0
  .nil))) false)
 .skip))
 (.seq (.seq (.region (Nodes.flat none (.op (some 18) (.load (some 11) (.t 1)) 0
  (.op (some 19) (.call 53 [(.t 18), (.c (.str ⟨#[102]⟩))]) 0
  .nil))) false)
 (.cond (.t 19)
 (.seq (.region (Nodes.flat none (.op (some 20) (.fieldAddr 6 (.t 3)) 0
  (.op none (.store 1 (.t 20) (.c (.int .i64 0))) 0
  .nil))) false)
 (.seq (.region (Nodes.flat none (.op (some 21) (.fieldAddr 8 (.t 3)) 0
  (.op (some 22) (.fieldAddr 7 (.t 1)) 0
  (.op (some 23) (.load none (.t 22)) 0
  (.op (some 24) (.mm false (.t 23) [(.c (.int .i64 3))]) 0
  (.op (some 25) (.mm true (.c (.int .i64 0)) [(.t 24)]) 0
  (.op (some 26) (.prim (.sliceArr 3 false true false) [(.t 21), (.t 25)]) 0
  (.op none (.eprim (.clear 1 (.int .i64 0)) [(.t 26)]) 0
  .nil)))))))) false)
 (.region (Nodes.flat none (.op (some 27) (.fieldAddr 7 (.t 3)) 0
  (.op none (.store 1 (.t 27) (.c (.int .i64 0))) 0
  .nil))) false)))
 .skip))
 (.seq (.region (Nodes.flat none (.op (some 28) (.load (some 11) (.t 3)) 0
  (.op none (.store 11 (.t 2) (.t 28)) 0
  .nil))) false)
 .ret)))))))),
 [.cell (some 11) 2]⟩
theorem b46 : fnOf Go.Proofs.Tryd.prog (owOf []) 46 = some c46 := by kernel_rfl
def c48 : RFn := ⟨(.seq (.region (Nodes.flat none (.op (some 1) (.box (.t 0)) 0
  (.op (some 2) (.move (.c (.int .i64 0))) 0
  .nil))) false)
 (.seq (.seq (.region (Nodes.flat none (.op (some 3) (.load (some 11) (.t 1)) 0
  (.op (some 4) (.call 53 [(.t 3), (.c (.str ⟨#[100]⟩))]) 0
  (.op (some 5) (.un .not (.t 4)) 0
  (.op (some 6) (.move (.t 5)) 0
  (.grd 6 false
  (.op (some 7) (.load (some 11) (.t 1)) 0
  (.op (some 8) (.call 41 [(.t 7)]) 0
  (.op (some 9) (.un .not (.t 8)) 0
  .nil)))
  (.op (some 10) (.pick (.t 6) (.c (.bool true)) (.t 9)) 0
  .nil))))))) false)
 (.cond (.t 10)
 (.seq (.region (Nodes.flat none (.op (some 2) (.move (.c (.int .i64 (-1)))) 0
  .nil)) false)
 .ret)
 .skip))
 (.seq (.region (Nodes.flat none (.op (some 11) (.fieldAddr 2 (.t 1)) 0
  (.op (some 12) (.load none (.t 11)) 0
  (.op (some 2) (.move (.t 12)) 0
  .nil)))) false)
 .ret))),
 [.tmp 2]⟩
theorem b48 : fnOf Go.Proofs.Tryd.prog (owOf []) 48 = some c48 := by kernel_rfl
end Go.Vm
end
section
/- Walks. -/
set_option maxRecDepth 100000
set_option linter.unusedSimpArgs false
set_option linter.unusedVariables false
namespace Go.Vm
open Go
set_option maxHeartbeats 4000000
theorem p_bare (i : In) (hn : 0 ≤ i.n ∧ i.n ≤ 3) : Pure Go.Proofs.Tryd.prog glD 46 [pI i] (pI (bareI i)) := by
  have d := p_hasD i
  have a := p_hasA i
  have b := p_hasB i
  have c := p_hasC i
  have f := p_hasF i
  obtain ⟨id, k, dst, va, vb, vc, vf, n, x, y, z⟩ := i
  simp only at hn d a b c f
  refine Pure.fn hmix b46 ?_
  rcases kind_cases k with rfl | rfl | rfl | rfl | rfl | rfl | rfl | h7 | rfl | rfl | h
  case inr.inr.inr.inr.inr.inr.inr.inl =>
    subst h7
    rcases (by omega : n = 0 ∨ n = 1 ∨ n = 2 ∨ n = 3) with rfl | rfl | rfl | rfl
    all_goals
      repeat' first
        | with_reducible refine tr_seq ?_
        | ((with_reducible refine tr_region_f ?_ ?_); kernel_rfl)
        | with_reducible refine n_nil ?_
        | with_reducible refine seqQ_normal ?_
        | with_reducible refine seqQ_ret ?_
        | with_reducible refine blkQ_ret ?_
        | with_reducible refine tr_skip ?_
        | with_reducible refine tr_ret ?_
        | ((with_reducible apply tr_cond_e); rfl)
        | with_reducible refine condT_t ?_
        | with_reducible refine condT_f ?_
        | ((with_reducible refine condT_T ?_ ?_); decide +kernel)
        | ((with_reducible refine condT_F ?_ ?_); decide +kernel)
        | ((with_reducible apply n_andF); rfl; rfl; decide +kernel)
        | ((with_reducible apply n_orT); rfl; rfl; decide +kernel)
        | with_reducible refine unrQ_normal ?_
        | with_reducible refine unrQ_exit ?_
        | with_reducible refine unrQ_ret ?_
        | ((with_reducible apply n_call (f := 53)); rfl; rfl; (first | exact d | exact a | exact b | exact c | exact f))
        | ((with_reducible apply n_eprim); rfl)
        | ((with_reducible apply n_val); rfl; rfl)
        | ((with_reducible apply n_new); rfl; (first | (simp only [hn0, hn1, hn2, hn3, hn4, hn5, List.length_cons, List.length_nil, Nat.reduceAdd, Nat.zero_add]; done) | (simp only [hn0, hn1, hn2, hn3, hn4, hn5, List.length_cons, List.length_nil, Nat.reduceAdd, Nat.zero_add]; rfl) | rfl); rfl)
        | ((with_reducible apply n_store); rfl; rfl; rfl; rfl; rfl)
        | ((with_reducible apply n_call (f := 52)); rfl; rfl; exact p_without ..)
        | (with_reducible refine condT_split (fun h => ?_) (fun h => ?_))
        | ((with_reducible apply fnQ_told_ret); rfl)
        | ((with_reducible apply fnQ_ret_soft); rfl; rfl)
      rfl
  case inr.inr.inr.inr.inr.inr.inr.inr.inr.inr =>
    have e1 : hD k = false := by simp [hD]; omega
    have e2 : hA k = false := by simp [hA]; omega
    have e3 : hB k = false := by simp [hB]; omega
    have e4 : hC k = false := by simp [hC]; omega
    have e5 : hF k = false := by simp [hF]; omega
    rw [e1] at d
    rw [e2] at a
    rw [e3] at b
    rw [e4] at c
    rw [e5] at f
    repeat' first
      | with_reducible refine tr_seq ?_
      | ((with_reducible refine tr_region_f ?_ ?_); kernel_rfl)
      | with_reducible refine n_nil ?_
      | with_reducible refine seqQ_normal ?_
      | with_reducible refine seqQ_ret ?_
      | with_reducible refine blkQ_ret ?_
      | with_reducible refine tr_skip ?_
      | with_reducible refine tr_ret ?_
      | ((with_reducible apply tr_cond_e); rfl)
      | with_reducible refine condT_t ?_
      | with_reducible refine condT_f ?_
      | ((with_reducible refine condT_T ?_ ?_); decide +kernel)
      | ((with_reducible refine condT_F ?_ ?_); decide +kernel)
      | ((with_reducible apply n_andF); rfl; rfl; decide +kernel)
      | ((with_reducible apply n_orT); rfl; rfl; decide +kernel)
      | with_reducible refine unrQ_normal ?_
      | with_reducible refine unrQ_exit ?_
      | with_reducible refine unrQ_ret ?_
      | ((with_reducible apply n_call (f := 53)); rfl; rfl; (first | exact d | exact a | exact b | exact c | exact f))
      | ((with_reducible apply n_val); rfl; rfl)
      | ((with_reducible apply n_new); rfl; (first | (simp only [hn0, hn1, hn2, hn3, hn4, hn5, List.length_cons, List.length_nil, Nat.reduceAdd, Nat.zero_add]; done) | (simp only [hn0, hn1, hn2, hn3, hn4, hn5, List.length_cons, List.length_nil, Nat.reduceAdd, Nat.zero_add]; rfl) | rfl); rfl)
      | ((with_reducible apply n_store); rfl; rfl; rfl; rfl; rfl)
      | ((with_reducible apply n_call (f := 52)); rfl; rfl; exact p_without ..)
      | (with_reducible refine condT_split (fun h => ?_) (fun h => ?_))
      | ((with_reducible apply fnQ_told_ret); rfl)
      | ((with_reducible apply fnQ_ret_soft); rfl; rfl)
    simp [bareI, e1, e2, e3, e4, e5]
  all_goals
    repeat' first
      | with_reducible refine tr_seq ?_
      | ((with_reducible refine tr_region_f ?_ ?_); kernel_rfl)
      | with_reducible refine n_nil ?_
      | with_reducible refine seqQ_normal ?_
      | with_reducible refine seqQ_ret ?_
      | with_reducible refine blkQ_ret ?_
      | with_reducible refine tr_skip ?_
      | with_reducible refine tr_ret ?_
      | ((with_reducible apply tr_cond_e); rfl)
      | with_reducible refine condT_t ?_
      | with_reducible refine condT_f ?_
      | ((with_reducible refine condT_T ?_ ?_); decide +kernel)
      | ((with_reducible refine condT_F ?_ ?_); decide +kernel)
      | ((with_reducible apply n_andF); rfl; rfl; decide +kernel)
      | ((with_reducible apply n_orT); rfl; rfl; decide +kernel)
      | with_reducible refine unrQ_normal ?_
      | with_reducible refine unrQ_exit ?_
      | with_reducible refine unrQ_ret ?_
      | ((with_reducible apply n_call (f := 53)); rfl; rfl; (first | exact d | exact a | exact b | exact c | exact f))
      | ((with_reducible apply n_val); rfl; rfl)
      | ((with_reducible apply n_new); rfl; (first | (simp only [hn0, hn1, hn2, hn3, hn4, hn5, List.length_cons, List.length_nil, Nat.reduceAdd, Nat.zero_add]; done) | (simp only [hn0, hn1, hn2, hn3, hn4, hn5, List.length_cons, List.length_nil, Nat.reduceAdd, Nat.zero_add]; rfl) | rfl); rfl)
      | ((with_reducible apply n_store); rfl; rfl; rfl; rfl; rfl)
      | ((with_reducible apply n_call (f := 52)); rfl; rfl; exact p_without ..)
      | (with_reducible refine condT_split (fun h => ?_) (fun h => ?_))
      | ((with_reducible apply fnQ_told_ret); rfl)
      | ((with_reducible apply fnQ_ret_soft); rfl; rfl)
    rfl
theorem p_slMin (a b c : Int) : Pure Go.Proofs.Tryd.prog glD 45 [.sl [.int .i64 a, .int .i64 b, .int .i64 c]] (.int .i64 (min (min a b) c)) := by
  refine Pure.fn hmix b45 ?_
  repeat' first
    | with_reducible refine tr_seq ?_
    | ((with_reducible refine tr_region_f ?_ ?_); kernel_rfl)
    | with_reducible refine n_nil ?_
    | with_reducible refine seqQ_normal ?_
    | with_reducible refine seqQ_exit ?_
    | with_reducible refine seqQ_ret ?_
    | with_reducible refine blkQ_normal ?_
    | with_reducible refine blkQ_exit ?_
    | with_reducible refine blkQ_ret ?_
    | ((with_reducible refine blkQ_exit_ne ?_ ?_); rfl)
    | with_reducible refine tr_block ?_
    | with_reducible refine tr_skip ?_
    | with_reducible refine tr_exit ?_
    | with_reducible refine tr_ret ?_
    | ((with_reducible apply tr_cond_e); rfl)
    | with_reducible refine condT_t ?_
    | with_reducible refine condT_f ?_
    | ((with_reducible refine condT_T ?_ ?_); exact rfl)
    | ((with_reducible refine condT_F ?_ ?_); exact rfl)
    | ((with_reducible refine condT_T ?_ ?_); decide +kernel)
    | ((with_reducible refine condT_F ?_ ?_); decide +kernel)
    | ((with_reducible apply n_andF); rfl; rfl; decide +kernel)
    | ((with_reducible apply n_orT); rfl; rfl; decide +kernel)
    | with_reducible refine loopV_exit ?_
    | with_reducible refine loopV_ret ?_
    | with_reducible refine unrQ_normal ?_
    | with_reducible refine unrQ_exit ?_
    | with_reducible refine unrQ_ret ?_
    | refine tr_unroll 4 ?_
    | ((with_reducible apply n_min); rfl; rfl)
    | ((with_reducible apply n_val); rfl; rfl)
    | ((with_reducible apply n_nope); (first | omega | (simp only [decide_eq_true_eq, decide_eq_false_iff_not, Bool.or_eq_true, Bool.and_eq_true, Bool.or_eq_false_iff, Bool.not_eq_true', Bool.not_eq_false'] at *; omega) | (simp_all; done) | (simp_all; omega)))
    | (with_reducible refine condT_split (fun h => ?_) (fun h => ?_))
    | ((with_reducible apply fnQ_told_ret); rfl)
    | ((with_reducible apply fnQ_ret_soft); rfl; rfl)
  rfl
theorem p_Form (i : In) : Pure Go.Proofs.Tryd.prog glD 41 [pI i] (.bool (form i)) := by
  refine Pure.fn hmix b41 ?_
  repeat' first
    | with_reducible refine tr_seq ?_
    | ((with_reducible refine tr_region_f ?_ ?_); kernel_rfl)
    | ((with_reducible refine tr_region_t ?_ ?_ ?_); kernel_rfl; kernel_rfl)
    | with_reducible refine n_nil ?_
    | exact ⟨rfl, rfl⟩
    | with_reducible refine seqQ_normal ?_
    | with_reducible refine seqQ_ret ?_
    | with_reducible refine blkQ_ret ?_
    | with_reducible refine tr_skip ?_
    | with_reducible refine tr_ret ?_
    | ((with_reducible apply tr_cond_e); rfl)
    | with_reducible refine condT_t ?_
    | with_reducible refine condT_f ?_
    | ((with_reducible apply n_and); rfl; rfl; intro h)
    | ((with_reducible apply n_or); rfl; rfl; intro h)
    | ((with_reducible apply n_min5); rfl; rfl; rfl; rfl; rfl)
    | ((with_reducible apply n_val); rfl; rfl)
    | ((with_reducible apply n_new); rfl; (first | (simp only [hn0, hn1, hn2, hn3, hn4, hn5, List.length_cons, List.length_nil, Nat.reduceAdd, Nat.zero_add]; done) | (simp only [hn0, hn1, hn2, hn3, hn4, hn5, List.length_cons, List.length_nil, Nat.reduceAdd, Nat.zero_add]; rfl) | rfl); rfl)
    | ((with_reducible apply n_eqs_f); rfl; rfl; rfl)
    | ((with_reducible apply n_call (f := 44)); rfl; rfl; exact p_instr_Name ..)
    | ((with_reducible apply n_callb (f := 45)); rfl; rfl; exact p_slMin ..; rfl)
    | ((with_reducible apply n_call (f := 46)); rfl; rfl; exact p_bare _ (by simp only [Bool.or_eq_false_iff, decide_eq_false_iff_not] at *; omega))
    | (with_reducible refine condT_split (fun h => ?_) (fun h => ?_))
    | ((with_reducible apply fnQ_told_ret); rfl)
    | ((with_reducible apply fnQ_ret_soft); rfl; rfl)
  · rw [form_f h]
  · rw [form_t h, ← eq_i0]
theorem p_Def (i : In) : Pure Go.Proofs.Tryd.prog glD 48 [pI i] (.int .i64 (defI i)) := by
  refine Pure.fn hmix b48 ?_
  repeat' first
    | with_reducible refine tr_seq ?_
    | ((with_reducible refine tr_region_f ?_ ?_); kernel_rfl)
    | with_reducible refine n_nil ?_
    | exact ⟨rfl, rfl⟩
    | with_reducible refine seqQ_normal ?_
    | with_reducible refine seqQ_ret ?_
    | with_reducible refine blkQ_ret ?_
    | with_reducible refine tr_skip ?_
    | with_reducible refine tr_ret ?_
    | ((with_reducible apply tr_cond_e); rfl)
    | with_reducible refine condT_t ?_
    | with_reducible refine condT_f ?_
    | ((with_reducible apply n_and); rfl; rfl; intro h)
    | ((with_reducible apply n_or); rfl; rfl; intro h)
    | ((with_reducible apply n_val); rfl; rfl)
    | ((with_reducible apply n_new); rfl; (first | (simp only [hn0, hn1, hn2, hn3, hn4, hn5, List.length_cons, List.length_nil, Nat.reduceAdd, Nat.zero_add]; done) | (simp only [hn0, hn1, hn2, hn3, hn4, hn5, List.length_cons, List.length_nil, Nat.reduceAdd, Nat.zero_add]; rfl) | rfl); rfl)
    | ((with_reducible apply n_call (f := 53)); rfl; rfl; exact p_hasD ..)
    | ((with_reducible apply n_call (f := 41)); rfl; rfl; exact p_Form ..)
    | (with_reducible refine condT_split (fun h => ?_) (fun h => ?_))
    | ((with_reducible apply fnQ_told_ret); rfl)
    | ((with_reducible apply fnQ_ret_soft); rfl; rfl)
  · refine congrArg _ ?_
    rw [defI, if_neg]
    cases h1 : form i <;> cases h2 : hD i.kind <;> simp_all
  · refine congrArg _ ?_
    rw [defI, if_pos]
    cases h1 : form i <;> cases h2 : hD i.kind <;> simp_all
end Go.Vm
end
