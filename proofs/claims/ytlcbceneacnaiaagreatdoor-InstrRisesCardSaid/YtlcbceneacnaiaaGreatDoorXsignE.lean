/- Laid. -/
import Derived.Test.YtlcbceneacnaiaaGreatDoorVmThree
import Derived.KernelRfl
import Derived.Test.YtlcbceneacnaiaaGreatDoorProg
import Derived.Test.YtlcbceneacnaiaaGreatDoorXsignD
section
/- Code. -/
set_option maxRecDepth 100000
set_option linter.unusedSimpArgs false
set_option linter.unusedVariables false
namespace Go.Vm
open Go
end Go.Vm
end
section
/- Walks. -/
set_option maxRecDepth 100000
set_option linter.unusedSimpArgs false
set_option linter.unusedVariables false
namespace Go.Vm
open Go
section
variable {gl : Nat → Option PV}
set_option maxHeartbeats 4000000
def L8 : List Int := [0, 1, 2, 3, 4, 5, 6, 7]
theorem sn_mem (s : Int) : sn s ∈ L8 := by rcases sn_cases s with h | h | h | h | h | h | h | h <;> rw [h] <;> decide
theorem sAdd_sn (a b : Int) : sAdd a b = sAdd (sn a) (sn b) := sFold_sn _ a b
theorem sJoin_sn (a b : Int) : sJoin a b = sJoin (sn a) (sn b) := by simp [sJoin, sn_sn]
theorem all2 {p : Int → Int → Bool} (h : L8.all (fun x => L8.all (p x)) = true) (a b : Int) : p (sn a) (sn b) = true := by
  simp only [List.all_eq_true] at h
  exact h _ (sn_mem a) _ (sn_mem b)
theorem all1 {p : Int → Bool} (h : L8.all p = true) (a : Int) : p (sn a) = true := by
  simp only [List.all_eq_true] at h
  exact h _ (sn_mem a)
theorem all3 {p : Int → Int → Int → Bool} (h : L8.all (fun x => L8.all fun y => L8.all (p x y)) = true) (a b c : Int) : p (sn a) (sn b) (sn c) = true := by
  simp only [List.all_eq_true] at h
  exact h _ (sn_mem a) _ (sn_mem b) _ (sn_mem c)
theorem sAdd_r (a b : Int) : 0 ≤ sAdd a b ∧ sAdd a b ≤ 7 := by
  rw [sAdd_sn]
  have := all2 (p := fun x y => decide (0 ≤ sAdd x y ∧ sAdd x y ≤ 7)) (by decide +kernel) a b
  simpa using this
theorem sOf_r (a : Int) : 0 ≤ sOf a ∧ sOf a ≤ 7 := by unfold sOf; split <;> (try split) <;> omega
theorem sAdd_i64 (a b : Int) : i64r (sAdd a b) := by have := sAdd_r a b; unfold i64r; omega
theorem sOf_i64 (a : Int) : i64r (sOf a) := by have := sOf_r a; unfold i64r; omega
end
end Go.Vm
end
