/- Laid. -/
import Derived.Test.YtlcbceneacnaiaaCsignB
import Derived.Test.YtlcbceneacnaiaaWsignA
/- Walks. -/
set_option maxRecDepth 100000
set_option linter.unusedSimpArgs false
set_option linter.unusedVariables false
namespace Go.Vm
open Go

section
variable {gl : Nat → Option PV}
set_option maxHeartbeats 4000000

def tf (t : List Int) (x y : Int) : Int := t.getD ((x + 1).toNat * 3 + (y + 1).toNat) 0
def sIn (t : List Int) (lb : List Int) (o x : Int) : Int := lb.foldl (fun o y => sOr o (tf t x y)) o
def sFold (t la lb : List Int) : Int := la.foldl (fun o x => sIn t lb o x) 0

theorem sList_mem (s : Int) (i : Nat) (h : i < (sList s).length) : (sList s).getD i 0 = -1 ∨ (sList s).getD i 0 = 0 ∨ (sList s).getD i 0 = 1 := by
  have h2 : sList s = sList (sn s) := by simp [sList, sn_sn]
  rw [h2] at h ⊢
  have hc := sn_cases s
  generalize sn s = n at *
  rcases hc with rfl | rfl | rfl | rfl | rfl | rfl | rfl | rfl <;> revert i <;> decide
theorem sList_len (s : Int) : (sList s).length ≤ 3 := by
  have h2 : sList s = sList (sn s) := by simp [sList, sn_sn]
  rw [h2]
  have hc := sn_cases s
  generalize sn s = n at *
  rcases hc with rfl | rfl | rfl | rfl | rfl | rfl | rfl | rfl <;> decide

def sAdd (a b : Int) : Int := sFold [1, 1, 7, 1, 2, 4, 7, 4, 4] (sList a) (sList b)
def sMul (a b : Int) : Int := sFold [4, 2, 1, 2, 2, 2, 1, 2, 4] (sList a) (sList b)
theorem i64r_1 : i64r 1 := by unfold i64r; omega
theorem sFold_sn (t : List Int) (a b : Int) : sFold t (sList a) (sList b) = sFold t (sList (sn a)) (sList (sn b)) := by simp [sList, sn_sn]
theorem sMul_r (a b : Int) : 0 ≤ sMul a b ∧ sMul a b ≤ 7 := by
  unfold sMul
  rw [sFold_sn]
  rcases sn_cases a with h | h | h | h | h | h | h | h <;> rcases sn_cases b with k | k | k | k | k | k | k | k <;> rw [h, k] <;> decide +kernel
theorem sMul_i64 (a b : Int) : i64r (sMul a b) := by have := sMul_r a b; unfold i64r; omega
end

end Go.Vm
