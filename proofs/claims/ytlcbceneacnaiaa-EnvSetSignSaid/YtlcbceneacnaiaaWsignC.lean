/- Laid. -/
import Derived.Test.YtlcbceneacnaiaaCsignC
import Derived.Test.YtlcbceneacnaiaaWsignB
/- Walks. -/
set_option maxRecDepth 100000
set_option linter.unusedSimpArgs false
set_option linter.unusedVariables false
namespace Go.Vm
open Go

section
variable {gl : Nat → Option PV}
set_option maxHeartbeats 4000000
theorem p_rsign_Sane (s : Int) : Pure Go.Proofs.Try.prog gl 79 [.int .i64 s] (.bool (decide (0 ≤ s ∧ s ≤ 7))) := by
  refine Pure.fn hmix b79 ?_
  repeat' first
    | with_reducible refine tr_seq ?_
    | ((with_reducible refine tr_region_f ?_ ?_); kernel_rfl)
    | with_reducible refine n_nil ?_
    | exact ⟨rfl, rfl⟩
    | with_reducible refine seqQ_normal ?_
    | with_reducible refine seqQ_ret ?_
    | with_reducible refine blkQ_ret ?_
    | with_reducible refine tr_ret ?_
    | ((with_reducible apply n_and); rfl; rfl; intro h)
    | ((with_reducible apply n_or); rfl; rfl; intro h)
    | ((with_reducible apply n_val); rfl; rfl)
    | ((with_reducible apply fnQ_told_ret); rfl)
    | ((with_reducible apply fnQ_ret_soft); rfl; rfl)
  simp
theorem p_rsign_sane (s : Int) : Pure Go.Proofs.Try.prog gl 74 [.int .i64 s] (.int .i64 (sn s)) := by
  refine Pure.fn hmix b74 ?_
  repeat' first
    | with_reducible refine tr_seq ?_
    | ((with_reducible refine tr_region_f ?_ ?_); kernel_rfl)
    | with_reducible refine n_nil ?_
    | with_reducible refine seqQ_normal ?_
    | with_reducible refine seqQ_ret ?_
    | with_reducible refine blkQ_ret ?_
    | with_reducible refine tr_skip ?_
    | with_reducible refine tr_ret ?_
    | ((with_reducible apply tr_cond_e); rfl)
    | with_reducible refine condT_t ?_
    | with_reducible refine condT_f ?_
    | ((with_reducible apply n_val); rfl; rfl)
    | ((with_reducible apply n_call (f := 79)); rfl; rfl; exact p_rsign_Sane ..)
    | (with_reducible refine condT_split (fun h => ?_) (fun h => ?_))
    | ((with_reducible apply fnQ_told_ret); rfl)
    | ((with_reducible apply fnQ_ret_soft); rfl; rfl)
  all_goals (simp_all [sn]; try omega)
def bHas (n c : Int) : Bool := IntKind.i64.wrap ((BitVec.ofInt 64 n &&& BitVec.ofInt 64 (sOf c)).toNat : Int) != 0
theorem p_rsign_Join (a b : Int) : Pure Go.Proofs.Try.prog gl 73 [.int .i64 a, .int .i64 b] (.int .i64 (sJoin a b)) := by
  refine Pure.fn hmix b73 ?_
  repeat' first
    | with_reducible refine tr_seq ?_
    | ((with_reducible refine tr_region_f ?_ ?_); kernel_rfl)
    | with_reducible refine n_nil ?_
    | with_reducible refine seqQ_normal ?_
    | with_reducible refine seqQ_ret ?_
    | with_reducible refine blkQ_ret ?_
    | with_reducible refine tr_ret ?_
    | ((with_reducible apply n_val); rfl; rfl)
    | ((with_reducible apply n_call (f := 74)); rfl; rfl; exact p_rsign_sane ..)
    | ((with_reducible apply fnQ_told_ret); rfl)
    | ((with_reducible apply fnQ_ret_soft); rfl; rfl)
  rfl
theorem p_rsign_Leq (a b : Int) : Pure Go.Proofs.Try.prog gl 58 [.int .i64 a, .int .i64 b] (.bool (sJoin a b == sn b)) := by
  refine Pure.fn hmix b58 ?_
  repeat' first
    | with_reducible refine tr_seq ?_
    | ((with_reducible refine tr_region_f ?_ ?_); kernel_rfl)
    | with_reducible refine n_nil ?_
    | with_reducible refine seqQ_normal ?_
    | with_reducible refine seqQ_ret ?_
    | with_reducible refine blkQ_ret ?_
    | with_reducible refine tr_ret ?_
    | ((with_reducible apply n_val); rfl; rfl)
    | ((with_reducible apply n_call (f := 74)); rfl; rfl; exact p_rsign_sane ..)
    | ((with_reducible apply n_call (f := 73)); rfl; rfl; exact p_rsign_Join ..)
    | ((with_reducible apply fnQ_told_ret); rfl)
    | ((with_reducible apply fnQ_ret_soft); rfl; rfl)
  rfl
def rList (s : Int) : List Int := [-1, 0, 1].filter (bHas (sn s))
def rSome (s : Int) : List Int := [-2, -1, 0, 1, 2].filter (bHas (sn s))
theorem rList_eq (s : Int) : rList s = sList s := by
  have h : sList s = sList (sn s) := by simp [sList, sn_sn]
  have h2 : rList s = rList (sn s) := by simp [rList, sn_sn]
  rw [h, h2]
  rcases sn_cases s with h | h | h | h | h | h | h | h <;> rw [h] <;> decide +kernel
theorem rSome_mem (s : Int) (i : Nat) (h : i < (rSome s).length) : -2 ≤ (rSome s).getD i 0 ∧ (rSome s).getD i 0 ≤ 2 := by
  have : (rSome s).getD i 0 ∈ rSome s := by
    rw [List.getD_eq_getElem?_getD, List.getElem?_eq_getElem h]
    exact List.getElem_mem h
  have h2 : (rSome s).getD i 0 ∈ ([-2, -1, 0, 1, 2] : List Int) := (List.mem_filter.1 this).1
  generalize (rSome s).getD i 0 = x at *
  simp at h2
  omega
theorem rSome_len (s : Int) : (rSome s).length ≤ 5 := List.length_filter_le _ _
def rOp (tm : Bool) (x y : Int) : Int := sOf (if tm then x * y else x + y)
def rIn (tm : Bool) (lb : List Int) (o x : Int) : Int := lb.foldl (fun o y => sOr o (rOp tm x y)) o
def rFold (tm : Bool) (la lb : List Int) : Int := la.foldl (fun o x => rIn tm lb o x) 0
def rNeg (s : Int) : Int := (rList s).foldl (fun o x => sOr o (sOf (-x))) 0
def sFF (k c : Int) : Int := if vSane k c = false ∨ k = 2 then 7 else if k = 0 then 0 else sOf c
end

end Go.Vm
