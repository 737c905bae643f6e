/- Laid. -/
import Derived.Test.YtlcbceneacnaiaaCsignF
import Derived.Test.YtlcbceneacnaiaaWsignE
/- Walks. -/
set_option maxRecDepth 100000
set_option linter.unusedSimpArgs false
set_option linter.unusedVariables false
namespace Go.Vm
open Go

section
variable {gl : Nat → Option PV}
set_option maxHeartbeats 4000000
theorem sn_join (a b : Int) : sn (sJoin a b) = sJoin a b := sn_r (sJoin_r a b)
theorem sMul_l (a b : Int) : sMul (sn a) b = sMul a b := by rw [sMul_sn, sn_sn, ← sMul_sn]
theorem sMul_rr (a b : Int) : sMul a (sn b) = sMul a b := by rw [sMul_sn, sn_sn, ← sMul_sn]
theorem sAdd_l (a b : Int) : sAdd (sn a) b = sAdd a b := by rw [sAdd_sn, sn_sn, ← sAdd_sn]
theorem sAdd_rr (a b : Int) : sAdd a (sn b) = sAdd a b := by rw [sAdd_sn, sn_sn, ← sAdd_sn]
theorem sLeq_l (a b : Int) : sLeq (sn a) b = sLeq a b := by rw [sLeq_sn, sn_sn, ← sLeq_sn]
theorem sLeq_rr (a b : Int) : sLeq a (sn b) = sLeq a b := by rw [sLeq_sn, sn_sn, ← sLeq_sn]
theorem sJoin_l (a b : Int) : sJoin (sn a) b = sJoin a b := by rw [sJoin_sn, sn_sn, ← sJoin_sn]
theorem sJoin_rr (a b : Int) : sJoin a (sn b) = sJoin a b := by rw [sJoin_sn, sn_sn, ← sJoin_sn]
theorem sJoin_0 (a : Int) : sJoin a 0 = sn a := by
  have := all1 (p := fun x => sJoin x 0 == x) (by decide +kernel) a
  rw [← sJoin_l]
  simpa using this
theorem sOf_cases (c : Int) : (c < 0 ∧ sOf c = 1) ∨ (c = 0 ∧ sOf c = 2) ∨ (0 < c ∧ sOf c = 4) := by
  unfold sOf
  by_cases h : c < 0
  · simp [h]
  · by_cases h2 : 0 < c
    · simp [h, h2]
    · simp [h, h2]; omega
theorem tells_add (x y : Int) : sLeq (sOf (x + y)) (sAdd (sOf x) (sOf y)) = true := by
  rcases sOf_cases x with ⟨h1, e1⟩ | ⟨h1, e1⟩ | ⟨h1, e1⟩ <;> rcases sOf_cases y with ⟨h2, e2⟩ | ⟨h2, e2⟩ | ⟨h2, e2⟩ <;> rcases sOf_cases (x + y) with ⟨h3, e3⟩ | ⟨h3, e3⟩ | ⟨h3, e3⟩ <;> first | (exfalso; omega) | (rw [e1, e2, e3]; decide +kernel)
theorem tells_neg (x : Int) : sOf (-x) = sMul (sOf x) 1 := by
  rcases sOf_cases x with ⟨h1, e1⟩ | ⟨h1, e1⟩ | ⟨h1, e1⟩ <;> rcases sOf_cases (-x) with ⟨h3, e3⟩ | ⟨h3, e3⟩ | ⟨h3, e3⟩ <;> first | (exfalso; omega) | (rw [e1, e3]; decide +kernel)
theorem tells_sub (x y : Int) : sLeq (sOf (x - y)) (sAdd (sOf x) (sMul (sOf y) 1)) = true := by
  rw [← tells_neg, Int.sub_eq_add_neg]
  exact tells_add _ _
theorem tells_mul (x y : Int) : sLeq (sOf (x * y)) (sMul (sOf x) (sOf y)) = true := by
  rcases sOf_cases x with ⟨h1, e1⟩ | ⟨h1, e1⟩ | ⟨h1, e1⟩ <;> rcases sOf_cases y with ⟨h2, e2⟩ | ⟨h2, e2⟩ | ⟨h2, e2⟩
  · have := Int.mul_pos_of_neg_of_neg h1 h2
    rw [e1, e2, show sOf (x * y) = 4 by rcases sOf_cases (x * y) with h | h | h <;> omega]; decide +kernel
  · rw [h2, Int.mul_zero]; rw [e1]; decide +kernel
  · have := Int.mul_neg_of_neg_of_pos h1 h2
    rw [e1, e2, show sOf (x * y) = 1 by rcases sOf_cases (x * y) with h | h | h <;> omega]; decide +kernel
  · rw [h1, Int.zero_mul, e2]; decide +kernel
  · rw [h1, Int.zero_mul, e2]; decide +kernel
  · rw [h1, Int.zero_mul, e2]; decide +kernel
  · have := Int.mul_neg_of_pos_of_neg h1 h2
    rw [e1, e2, show sOf (x * y) = 1 by rcases sOf_cases (x * y) with h | h | h <;> omega]; decide +kernel
  · rw [h2, Int.mul_zero, e1]; decide +kernel
  · have := Int.mul_pos h1 h2
    rw [e1, e2, show sOf (x * y) = 4 by rcases sOf_cases (x * y) with h | h | h <;> omega]; decide +kernel
def sFV : V3 → Int
  | .bot => 0 | .one c => sOf c.toInt | .top => 7
theorem sFF_kc (v : V3) : sFF v.k v.c = sFV v := by
  unfold sFF
  rw [vSane_kc]
  cases v <;> simp [V3.k, V3.c, sFV]
theorem sFF_toV (k c : Int) : sFF k c = sFV (toV k c) := by
  cases h : vSane k c with
  | true =>
    obtain ⟨h1, h2⟩ := toV_sane h
    rw [← sFF_kc, h1, h2]
  | false => rw [toV_unsane h]; simp [sFF, h, sFV]
theorem tmod_bounds (a m : Int) (h : 0 < m) : -m < a.tmod m ∧ a.tmod m < m := by
  constructor
  · exact Int.lt_tmod_of_pos a h
  · exact Int.tmod_lt_of_pos a h
end

end Go.Vm
