/- Laid. -/
import Derived.Test.YtlcbceneacnaiaaGreatDoorVmThree
import Derived.KernelRfl
import Derived.Test.YtlcbceneacnaiaaGreatDoorProg
import Derived.Test.YtlcbceneacnaiaaGreatDoorXinstrP
import Derived.Test.YtlcbceneacnaiaaGreatDoorLAll
section
/- Code. -/
set_option maxRecDepth 100000
set_option linter.unusedSimpArgs false
set_option linter.unusedVariables false
namespace Go.Vm
open Go
def c3 : RFn := ⟨(.seq (.region (Nodes.flat none (.op (some 4) (.box (.t 0)) 0
  (.op (some 5) (.box (.t 1)) 0
  (.op (some 6) (.box (.t 2)) 0
  (.op (some 8) (.move (.c (.bool false))) 0
  .nil))))) false)
 (.seq (.region (Nodes.flat none (.op (some 10) (.call 5 []) 0
  (.op (some 9) (.move (.t 10)) 0
  .nil))) false)
 (.seq (.seq (.region (Nodes.flat none (.op (some 11) (.fieldAddr 1 (.t 4)) 0
  (.op (some 12) (.load none (.t 11)) 0
  (.op (some 13) (.len false (.t 12)) 0
  (.op (some 14) (.bin .gtr (.t 13) (.c (.int .i64 100))) 0
  (.op (some 15) (.move (.t 14)) 0
  (.grd 15 false
  (.op (some 16) (.fieldAddr 1 (.t 5)) 0
  (.op (some 17) (.load none (.t 16)) 0
  (.op (some 18) (.len false (.t 17)) 0
  (.op (some 19) (.bin .gtr (.t 18) (.c (.int .i64 100))) 0
  .nil))))
  (.op (some 20) (.pick (.t 15) (.c (.bool true)) (.t 19)) 0
  .nil)))))))) false)
 (.cond (.t 20)
 (.seq (.region (Nodes.flat none (.op (some 21) (.move (.t 9)) 0
  (.op (some 8) (.move (.t 21)) 0
  .nil))) false)
 .ret)
 .skip))
 (.seq (.region (Nodes.flat none (.op (some 22) (.move (.t 9)) 0
  (.op (some 23) (.move (.t 22)) 1
  (.grd 23 true
  (.op (some 24) (.load (some 2) (.t 4)) 3
  (.op (some 25) (.call 9 [(.t 24)]) 7
  (.op (some 26) (.load (some 11) (.t 6)) 3
  (.op (some 27) (.call 8 [(.t 25), (.t 26)]) 31
  (.op (some 28) (.call 7 [(.t 27)]) 63
  (.op (some 29) (.load (some 2) (.t 4)) 3
  (.op (some 30) (.load (some 11) (.t 6)) 3
  (.op (some 31) (.call 10 [(.t 29), (.t 30)]) 511
  (.op (some 32) (.call 6 [(.t 28), (.t 31)]) 1023
  .nil)))))))))
  (.op (some 33) (.pick (.t 23) (.t 32) (.c (.bool false))) 2047
  (.op (some 34) (.move (.t 33)) 4095
  (.grd 34 true
  (.op (some 35) (.load (some 2) (.t 5)) 8191
  (.op (some 36) (.call 14 [(.t 35)]) 16383
  (.op (some 37) (.load (some 11) (.t 6)) 8191
  (.op (some 38) (.move (.t 3)) 8191
  (.op (some 39) (.call 13 [(.t 36), (.t 37), (.t 38)]) 131071
  (.op (some 40) (.call 12 [(.t 39)]) 262143
  (.op (some 41) (.load (some 2) (.t 5)) 8191
  (.op (some 42) (.load (some 11) (.t 6)) 8191
  (.op (some 43) (.move (.t 3)) 8191
  (.op (some 44) (.call 15 [(.t 41), (.t 42), (.t 43)]) 4194303
  (.op (some 45) (.call 11 [(.t 40), (.t 44)]) 8388607
  .nil)))))))))))
  (.op (some 46) (.pick (.t 34) (.t 45) (.c (.bool false))) 16777215
  (.op (some 8) (.move (.t 46)) 33554431
  .nil))))))))) true)
 .ret)))),
 [.tmp 8]⟩
theorem b3 : fnOf Go.Proofs.Tryz.prog (owOf []) 3 = some c3 := by kernel_rfl
def c7 : RFn := ⟨(.seq (.region (Nodes.flat none (.op (some 1) (.box (.t 0)) 0
  (.op (some 2) (.alloc (.agg [(.bool false), (.lit [])])) 0
  .nil))) false)
 (.seq (.region (Nodes.flat none (.op (some 5) (.fieldAddr 0 (.t 1)) 0
  (.op (some 6) (.load none (.t 5)) 0
  (.op (some 7) (.build [(.bool false), (.lit [])] [(0, 1, (.t 6))]) 0
  (.op (some 3) (.alloc (.agg [(.bool false), (.lit [])])) 0
  (.op none (.store 2 (.t 3) (.t 7)) 0
  .nil)))))) false)
 (.seq (.seq (.region (Nodes.flat none (.op (some 4) (.move (.c (.int .i64 0))) 0
  .nil)) false)
 (.block 0 (.loop (.seq (.seq (.region (Nodes.flat none (.op (some 8) (.move (.t 4)) 0
  (.op (some 9) (.fieldAddr 1 (.t 1)) 0
  (.op (some 10) (.load none (.t 9)) 0
  (.op (some 11) (.len false (.t 10)) 0
  (.op (some 12) (.bin .lss (.t 8) (.t 11)) 0
  .nil)))))) false)
 (.cond (.t 12)
 .skip
 (.exit 0)))
 (.seq (.block 1 (.region (Nodes.flat none (.op (some 15) (.fieldAddr 1 (.t 3)) 0
  (.op (some 16) (.load none (.t 15)) 1
  (.op (some 17) (.fieldAddr 1 (.t 1)) 0
  (.op (some 18) (.load none (.t 17)) 4
  (.op (some 19) (.move (.t 4)) 0
  (.op (some 20) (.idxAddr 2 (.t 18) (.t 19)) 28
  (.op (some 21) (.fieldAddr 0 (.t 20)) 60
  (.op (some 22) (.load none (.t 21)) 124
  (.op (some 23) (.fieldAddr 1 (.t 1)) 0
  (.op (some 24) (.load none (.t 23)) 256
  (.op (some 25) (.move (.t 4)) 0
  (.op (some 26) (.idxAddr 2 (.t 24) (.t 25)) 1792
  (.op (some 27) (.fieldAddr 1 (.t 26)) 3840
  (.op (some 28) (.load none (.t 27)) 7936
  (.op (some 29) (.build [(.int .i64 0), (.int .i64 0)] [(0, 1, (.t 22)), (1, 1, (.t 28))]) 16380
  (.op (some 30) (.bslice false 2 1 (.agg [(.int .i64 0), (.int .i64 0)]) [(0, (.t 29))]) 32764
  (.op (some 31) (.append 2 (.agg [(.int .i64 0), (.int .i64 0)]) (.t 16) (.t 30)) 65535
  (.op (some 32) (.fieldAddr 1 (.t 3)) 131071
  (.op none (.store 1 (.t 32) (.t 31)) 262143
  .nil)))))))))))))))))))) true))
 (.region (Nodes.flat none (.op (some 13) (.move (.t 4)) 0
  (.op (some 14) (.bin .add (.t 13) (.c (.int .i64 1))) 0
  (.op (some 4) (.move (.t 14)) 0
  .nil)))) false))))))
 (.seq (.region (Nodes.flat none (.op (some 33) (.load (some 2) (.t 3)) 0
  (.op none (.store 2 (.t 2) (.t 33)) 0
  .nil))) false)
 .ret)))),
 [.cell (some 2) 2]⟩
def c13 : RFn := ⟨(.seq (.region (Nodes.flat none (.op (some 3) (.box (.t 0)) 0
  (.op (some 4) (.box (.t 1)) 0
  (.op (some 6) (.alloc (.agg [(.bool false), (.lit [])])) 0
  .nil)))) false)
 (.seq (.region (Nodes.flat none (.op (some 7) (.load (some 2) (.t 3)) 0
  (.op (some 8) (.load (some 11) (.t 4)) 0
  (.op (some 9) (.call 27 [(.t 8)]) 2
  (.op (some 10) (.load (some 2) (.t 3)) 0
  (.op (some 11) (.load (some 11) (.t 4)) 0
  (.op (some 12) (.move (.t 2)) 0
  (.op (some 13) (.call 38 [(.t 10), (.t 11), (.t 12)]) 62
  (.op (some 14) (.call 37 [(.t 7), (.t 9), (.t 13)]) 127
  (.op none (.store 2 (.t 6) (.t 14)) 255
  .nil)))))))))) true)
 .ret)),
 [.cell (some 2) 6]⟩
theorem b13 : fnOf Go.Proofs.Tryz.prog (owOf []) 13 = some c13 := by kernel_rfl
def c14 : RFn := ⟨(.seq (.region (Nodes.flat none (.op (some 1) (.box (.t 0)) 0
  (.op (some 2) (.alloc (.agg [(.bool false), (.lit [])])) 0
  .nil))) false)
 (.seq (.region (Nodes.flat none (.op (some 3) (.fieldAddr 0 (.t 1)) 0
  (.op (some 4) (.load none (.t 3)) 0
  (.op (some 5) (.fieldAddr 1 (.t 1)) 0
  (.op (some 6) (.load none (.t 5)) 0
  (.op (some 7) (.build [(.bool false), (.lit [])] [(0, 1, (.t 4)), (1, 1, (.t 6))]) 0
  (.op none (.store 2 (.t 2) (.t 7)) 0
  .nil))))))) false)
 .ret)),
 [.cell (some 2) 2]⟩
theorem b14 : fnOf Go.Proofs.Tryz.prog (owOf []) 14 = some c14 := by kernel_rfl
def c38 : RFn := ⟨(.seq (.region (Nodes.flat none (.op (some 3) (.box (.t 0)) 0
  (.op (some 4) (.box (.t 1)) 0
  (.op (some 6) (.move (.c (.int .i64 0))) 0
  .nil)))) false)
 (.seq (.region (Nodes.flat none (.op (some 9) (.load (some 2) (.t 3)) 0
  (.op (some 10) (.fieldAddr 3 (.t 4)) 0
  (.op (some 11) (.load none (.t 10)) 2
  (.op (some 12) (.call 79 [(.t 9), (.t 11)]) 7
  (.op (some 13) (.load (some 2) (.t 3)) 0
  (.op (some 14) (.fieldAddr 4 (.t 4)) 0
  (.op (some 15) (.load none (.t 14)) 32
  (.op (some 16) (.call 79 [(.t 13), (.t 15)]) 127
  (.op (some 7) (.move (.t 12)) 255
  (.op (some 8) (.move (.t 16)) 511
  .nil))))))))))) true)
 (.seq (.seq (.region (Nodes.flat none (.op (some 17) (.fieldAddr 1 (.t 4)) 0
  (.op (some 18) (.load none (.t 17)) 0
  (.op (some 19) (.call 30 [(.t 18)]) 0
  .nil)))) false)
 (.block 0 (.seq (.region (Nodes.flat none (.op (some 21) (.bin .eql (.t 19) (.c (.str ⟨#[99, 111, 110, 115, 116]⟩))) 0
  (.op (some 20) (.move (.t 21)) 0
  .nil))) false)
 (.cond (.t 20)
 (.seq (.region (Nodes.flat none (.op (some 22) (.fieldAddr 5 (.t 4)) 0
  (.op (some 23) (.load none (.t 22)) 0
  (.op (some 24) (.call 80 [(.t 23)]) 0
  (.op (some 6) (.move (.t 24)) 0
  .nil))))) false)
 .ret)
 (.seq (.region (Nodes.flat none (.op (some 26) (.bin .eql (.t 19) (.c (.str ⟨#[99, 111, 112, 121]⟩))) 0
  (.op (some 25) (.move (.t 26)) 0
  .nil))) false)
 (.cond (.t 25)
 (.seq (.region (Nodes.flat none (.op (some 27) (.move (.t 7)) 0
  (.op (some 6) (.move (.t 27)) 0
  .nil))) false)
 .ret)
 (.seq (.region (Nodes.flat none (.op (some 29) (.bin .eql (.t 19) (.c (.str ⟨#[110, 101, 103]⟩))) 0
  (.op (some 28) (.move (.t 29)) 0
  .nil))) false)
 (.cond (.t 28)
 (.seq (.region (Nodes.flat none (.op (some 30) (.move (.t 7)) 0
  (.op (some 31) (.call 81 [(.t 30)]) 0
  (.op (some 6) (.move (.t 31)) 0
  .nil)))) false)
 .ret)
 (.seq (.region (Nodes.flat none (.op (some 33) (.bin .eql (.t 19) (.c (.str ⟨#[97, 100, 100]⟩))) 0
  (.op (some 32) (.move (.t 33)) 0
  .nil))) false)
 (.cond (.t 32)
 (.seq (.region (Nodes.flat none (.op (some 34) (.move (.t 7)) 0
  (.op (some 35) (.move (.t 8)) 0
  (.op (some 36) (.call 82 [(.t 34), (.t 35)]) 0
  (.op (some 6) (.move (.t 36)) 0
  .nil))))) false)
 .ret)
 (.seq (.region (Nodes.flat none (.op (some 38) (.bin .eql (.t 19) (.c (.str ⟨#[115, 117, 98]⟩))) 0
  (.op (some 37) (.move (.t 38)) 0
  .nil))) false)
 (.cond (.t 37)
 (.seq (.region (Nodes.flat none (.op (some 39) (.move (.t 7)) 0
  (.op (some 40) (.move (.t 8)) 0
  (.op (some 41) (.call 83 [(.t 39), (.t 40)]) 0
  (.op (some 6) (.move (.t 41)) 0
  .nil))))) false)
 .ret)
 (.seq (.region (Nodes.flat none (.op (some 43) (.bin .eql (.t 19) (.c (.str ⟨#[109, 117, 108]⟩))) 0
  (.op (some 42) (.move (.t 43)) 0
  .nil))) false)
 (.cond (.t 42)
 (.seq (.region (Nodes.flat none (.op (some 44) (.move (.t 7)) 0
  (.op (some 45) (.move (.t 8)) 0
  (.op (some 46) (.call 84 [(.t 44), (.t 45)]) 0
  (.op (some 6) (.move (.t 46)) 0
  .nil))))) false)
 .ret)
 (.seq (.region (Nodes.flat none (.op (some 48) (.bin .eql (.t 19) (.c (.str ⟨#[99, 97, 108, 108]⟩))) 0
  (.op (some 47) (.move (.t 48)) 0
  .nil))) false)
 (.cond (.t 47)
 (.seq (.region (Nodes.flat none (.op (some 49) (.move (.t 2)) 0
  (.op (some 6) (.move (.t 49)) 0
  .nil))) false)
 .ret)
 .skip))))))))))))))))
 (.seq (.region (Nodes.flat none (.op (some 6) (.move (.c (.int .i64 7))) 0
  .nil)) false)
 .ret)))),
 [.tmp 6]⟩
theorem b38 : fnOf Go.Proofs.Tryz.prog (owOf []) 38 = some c38 := by kernel_rfl
end Go.Vm
end
section
/- Walks. -/
set_option maxRecDepth 100000
set_option linter.unusedSimpArgs false
set_option linter.unusedVariables false
namespace Go.Vm
open Go
set_option maxHeartbeats 4000000
def sgI (e : Option (List S8)) (i : In) (ans : Int) : Int :=
  if i.kind = 0 then sOf i.c else if i.kind = 1 then (eGet z8 e i.a).1 else if i.kind = 2 then sMul (eGet z8 e i.a).1 1
  else if i.kind = 3 then sAdd (eGet z8 e i.a).1 (eGet z8 e i.b).1 else if i.kind = 4 then sAdd (eGet z8 e i.a).1 (sMul (eGet z8 e i.b).1 1) else if i.kind = 5 then sMul (eGet z8 e i.a).1 (eGet z8 e i.b).1 else if i.kind = 7 then ans else 7
def sgS (e : Option (List S8)) (i : In) (ans : Int) : S8 := ⟨sn (sgI e i ans), sn_07 _⟩
def signE (e : Option (List S8)) (i : In) (ans : Int) : Option (List S8) := eSet e (defI i) (sgS e i ans)
theorem few_signE {e : Option (List S8)} (h : Few e) (i : In) (ans : Int) : Few (signE e i ans) := few_set h
section
variable {gl : Nat → Option PV}
theorem sgI_r (e : Option (List S8)) (i : In) {ans : Int} (h : i64r ans) : i64r (sgI e i ans) := by
  unfold sgI
  repeat' split
  · exact sOf_i64 _
  · exact S8.i64 _
  · exact sMul_i64 _ _
  · exact sAdd_i64 _ _
  · exact sAdd_i64 _ _
  · exact sMul_i64 _ _
  · exact h
  · unfold i64r; omega
theorem p_sign_NegV (a : S8) : Pure Go.Proofs.Tryz.prog gl 81 [ps a] (.int .i64 (sMul a.1 1)) := p_sign_Neg _ a.i64
theorem p_sign_AddV (a b : S8) : Pure Go.Proofs.Tryz.prog gl 82 [ps a, ps b] (.int .i64 (sAdd a.1 b.1)) := p_sign_Add _ _ a.i64 b.i64
theorem p_sign_SubV (a b : S8) : Pure Go.Proofs.Tryz.prog gl 83 [ps a, ps b] (.int .i64 (sAdd a.1 (sMul b.1 1))) := p_sign_Sub _ _ a.i64 b.i64
theorem p_sign_MulV (a b : S8) : Pure Go.Proofs.Tryz.prog gl 84 [ps a, ps b] (.int .i64 (sMul a.1 b.1)) := p_sign_Mul _ _ a.i64 b.i64
theorem p_env_SetSgn {p : PV} {e : Option (List S8)} (k : Int) (i : In) (ans : I64) (h : RepE pi s8 p e) : Pure Go.Proofs.Tryz.prog gl 37 [p, .int .i64 k, .int .i64 (sgI e i ans.1)] (eOut ps (eSet e k (sgS e i ans.1))) := p_env_SetSign k ⟨_, sgI_r e i ans.2⟩ h
theorem p_law05_ourSign (on : Bool) (l : List I64) : Pure Go.Proofs.Tryz.prog gl 14 [eIn pi on l] (eIn pi on l) := by
  refine Pure.fn hmix b14 ?_
  repeat' first
    | with_reducible refine tr_seq ?_
    | ((with_reducible refine tr_region_f ?_ ?_); kernel_rfl)
    | with_reducible refine n_nil ?_
    | with_reducible refine seqQ_normal ?_
    | with_reducible refine seqQ_ret ?_
    | with_reducible refine blkQ_ret ?_
    | with_reducible refine tr_ret ?_
    | ((with_reducible apply n_val); rfl; rfl)
    | ((with_reducible apply n_new); rfl; (first | (simp only [hn0, hn1, hn2, hn3, hn4, hn5, List.length_cons, List.length_nil, Nat.reduceAdd, Nat.zero_add]; done) | (simp only [hn0, hn1, hn2, hn3, hn4, hn5, List.length_cons, List.length_nil, Nat.reduceAdd, Nat.zero_add]; rfl) | rfl); rfl)
    | ((with_reducible apply n_store); rfl; rfl; rfl; rfl; rfl)
    | ((with_reducible apply fnQ_told_ret); rfl)
    | ((with_reducible apply fnQ_ret_soft); rfl; rfl)
  rfl
end
theorem p_signs {p : PV} {e : Option (List S8)} (i : In) (ans : I64) (h : RepE pi s8 p e) : Pure Go.Proofs.Tryz.prog glD 38 [p, pI i, pi ans] (.int .i64 (sgI e i ans.1)) := by
  have hn := p_instr_Name i.kind
  have hA := p_env_GetSign (gl := glD) i.a h
  have hB := p_env_GetSign (gl := glD) i.b h
  have hv : sgI e i ans.1 = sgI e i ans.1 := rfl
  conv at hv => rhs; rw [sgI]
  rw [hv]
  clear hv
  obtain ⟨on, l, rfl, rfl, hl⟩ := h
  generalize eGet z8 (eAbs s8 on l) i.a = va at *
  generalize eGet z8 (eAbs s8 on l) i.b = vb at *
  obtain ⟨id, k, dst, ia, ib, c, f, n, x, y, z⟩ := i
  simp only at hn hA hB ⊢
  rcases kind_cases k with rfl | rfl | rfl | rfl | rfl | rfl | rfl | rfl | rfl | rfl | h
  case inr.inr.inr.inr.inr.inr.inr.inr.inr.inr =>
    rw [show nm k = bs0 by rw [nm, if_neg (by omega)]] at hn
    refine Pure.fn hmix b38 ?_
    repeat' first
      | with_reducible refine tr_seq ?_
      | ((with_reducible refine tr_region_f ?_ ?_); kernel_rfl)
      | ((with_reducible refine tr_region_t ?_ ?_ ?_); kernel_rfl; kernel_rfl)
      | with_reducible refine n_nil ?_
      | with_reducible refine seqQ_normal ?_
      | with_reducible refine seqQ_ret ?_
      | with_reducible refine blkQ_normal ?_
      | with_reducible refine blkQ_ret ?_
      | with_reducible refine tr_block ?_
      | with_reducible refine tr_skip ?_
      | with_reducible refine tr_ret ?_
      | ((with_reducible apply tr_cond_e); rfl)
      | with_reducible refine condT_t ?_
      | with_reducible refine condT_f ?_
      | ((with_reducible refine condT_T ?_ ?_); decide +kernel)
      | ((with_reducible refine condT_F ?_ ?_); decide +kernel)
      | ((with_reducible apply n_andF); rfl; rfl; decide +kernel)
      | ((with_reducible apply n_orT); rfl; rfl; decide +kernel)
      | with_reducible refine unrQ_normal ?_
      | with_reducible refine unrQ_exit ?_
      | with_reducible refine unrQ_ret ?_
      | ((with_reducible apply n_call (f := 30)); rfl; rfl; exact hn)
      | ((with_reducible apply n_call (f := 79)); rfl; rfl; (first | exact hA | exact hB))
      | ((with_reducible apply n_val); rfl; rfl)
      | ((with_reducible apply n_new); rfl; (first | (simp only [hn0, hn1, hn2, hn3, hn4, hn5, List.length_cons, List.length_nil, Nat.reduceAdd, Nat.zero_add]; done) | (simp only [hn0, hn1, hn2, hn3, hn4, hn5, List.length_cons, List.length_nil, Nat.reduceAdd, Nat.zero_add]; rfl) | rfl); rfl)
      | ((with_reducible apply n_call (f := 80)); rfl; rfl; exact p_sign_Of ..)
      | ((with_reducible apply n_call (f := 81)); rfl; rfl; exact p_sign_NegV ..)
      | ((with_reducible apply n_call (f := 82)); rfl; rfl; exact p_sign_AddV ..)
      | ((with_reducible apply n_call (f := 83)); rfl; rfl; exact p_sign_SubV ..)
      | ((with_reducible apply n_call (f := 84)); rfl; rfl; exact p_sign_MulV ..)
      | (with_reducible refine condT_split (fun h => ?_) (fun h => ?_))
      | ((with_reducible apply fnQ_told_ret); rfl)
      | ((with_reducible apply fnQ_ret_soft); rfl; rfl)
    rw [if_neg (by omega), if_neg (by omega), if_neg (by omega), if_neg (by omega), if_neg (by omega), if_neg (by omega), if_neg (by omega)]
  all_goals
    refine Pure.fn hmix b38 ?_
    repeat' first
      | with_reducible refine tr_seq ?_
      | ((with_reducible refine tr_region_f ?_ ?_); kernel_rfl)
      | ((with_reducible refine tr_region_t ?_ ?_ ?_); kernel_rfl; kernel_rfl)
      | with_reducible refine n_nil ?_
      | with_reducible refine seqQ_normal ?_
      | with_reducible refine seqQ_ret ?_
      | with_reducible refine blkQ_normal ?_
      | with_reducible refine blkQ_ret ?_
      | with_reducible refine tr_block ?_
      | with_reducible refine tr_skip ?_
      | with_reducible refine tr_ret ?_
      | ((with_reducible apply tr_cond_e); rfl)
      | with_reducible refine condT_t ?_
      | with_reducible refine condT_f ?_
      | ((with_reducible refine condT_T ?_ ?_); decide +kernel)
      | ((with_reducible refine condT_F ?_ ?_); decide +kernel)
      | ((with_reducible apply n_andF); rfl; rfl; decide +kernel)
      | ((with_reducible apply n_orT); rfl; rfl; decide +kernel)
      | with_reducible refine unrQ_normal ?_
      | with_reducible refine unrQ_exit ?_
      | with_reducible refine unrQ_ret ?_
      | ((with_reducible apply n_call (f := 30)); rfl; rfl; exact hn)
      | ((with_reducible apply n_call (f := 79)); rfl; rfl; (first | exact hA | exact hB))
      | ((with_reducible apply n_val); rfl; rfl)
      | ((with_reducible apply n_new); rfl; (first | (simp only [hn0, hn1, hn2, hn3, hn4, hn5, List.length_cons, List.length_nil, Nat.reduceAdd, Nat.zero_add]; done) | (simp only [hn0, hn1, hn2, hn3, hn4, hn5, List.length_cons, List.length_nil, Nat.reduceAdd, Nat.zero_add]; rfl) | rfl); rfl)
      | ((with_reducible apply n_call (f := 80)); rfl; rfl; exact p_sign_Of ..)
      | ((with_reducible apply n_call (f := 81)); rfl; rfl; exact p_sign_NegV ..)
      | ((with_reducible apply n_call (f := 82)); rfl; rfl; exact p_sign_AddV ..)
      | ((with_reducible apply n_call (f := 83)); rfl; rfl; exact p_sign_SubV ..)
      | ((with_reducible apply n_call (f := 84)); rfl; rfl; exact p_sign_MulV ..)
      | (with_reducible refine condT_split (fun h => ?_) (fun h => ?_))
      | ((with_reducible apply fnQ_told_ret); rfl)
      | ((with_reducible apply fnQ_ret_soft); rfl; rfl)
    rfl
theorem p_Sign {p : PV} {e : Option (List S8)} (i : In) (ans : I64) (h : RepE pi s8 p e) : Pure Go.Proofs.Tryz.prog glD 13 [p, pI i, pi ans] (eOut ps (signE e i ans.1)) := by
  have h1 := p_signs i ans h
  have h2 := p_env_SetSgn (gl := glD) (defI i) i ans h
  rw [signE]
  obtain ⟨on, l, rfl, rfl, hl⟩ := h
  generalize sgI (eAbs s8 on l) i ans.1 = v at *
  generalize eSet (eAbs s8 on l) (defI i) (sgS (eAbs s8 on l) i ans.1) = r at *
  refine Pure.fn hmix b13 ?_
  repeat' first
    | with_reducible refine tr_seq ?_
    | ((with_reducible refine tr_region_f ?_ ?_); kernel_rfl)
    | ((with_reducible refine tr_region_t ?_ ?_ ?_); kernel_rfl; kernel_rfl)
    | with_reducible refine n_nil ?_
    | with_reducible refine seqQ_normal ?_
    | with_reducible refine seqQ_ret ?_
    | with_reducible refine blkQ_ret ?_
    | with_reducible refine tr_ret ?_
    | ((with_reducible apply n_call (f := 38)); rfl; rfl; exact h1)
    | ((with_reducible apply n_call (f := 37)); rfl; rfl; exact h2)
    | ((with_reducible apply n_val); rfl; rfl)
    | ((with_reducible apply n_new); rfl; (first | (simp only [hn0, hn1, hn2, hn3, hn4, hn5, List.length_cons, List.length_nil, Nat.reduceAdd, Nat.zero_add]; done) | (simp only [hn0, hn1, hn2, hn3, hn4, hn5, List.length_cons, List.length_nil, Nat.reduceAdd, Nat.zero_add]; rfl) | rfl); rfl)
    | ((with_reducible apply n_store); rfl; rfl; rfl; rfl; rfl)
    | ((with_reducible apply n_call (f := 27)); rfl; rfl; exact p_Def ..)
    | ((with_reducible apply fnQ_told_ret); rfl)
    | ((with_reducible apply fnQ_ret_soft); rfl; rfl)
  rfl
end Go.Vm
end
