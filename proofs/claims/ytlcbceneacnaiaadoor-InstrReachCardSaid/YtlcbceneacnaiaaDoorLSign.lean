/- Laid. -/
import Derived.Test.YtlcbceneacnaiaaDoorVmThree
import Derived.Test.YtlcbceneacnaiaaDoorLFlatN
/- Sets of signs: three bits; the laws, no program in sight. -/
set_option linter.unusedSimpArgs false
set_option linter.unusedVariables false
namespace Go.Vm
open Go

def i64r (n : Int) : Prop := -9223372036854775808 ≤ n ∧ n ≤ 9223372036854775807
def sn (s : Int) : Int := if 0 ≤ s ∧ s ≤ 7 then s else 7

theorem sn_cases (s : Int) : sn s = 0 ∨ sn s = 1 ∨ sn s = 2 ∨ sn s = 3 ∨ sn s = 4 ∨ sn s = 5 ∨ sn s = 6 ∨ sn s = 7 := by
  unfold sn
  split <;> omega
theorem sn_sn (s : Int) : sn (sn s) = sn s := by
  unfold sn
  split <;> rfl
theorem sn_i64 (s : Int) : i64r (sn s) := by
  unfold sn i64r
  split <;> omega

theorem andNot7 (x : BitVec 64) : (x &&& ~~~(7#64)).toNat = x.toNat / 8 * 8 := by
  have : x &&& ~~~(7#64) = (x >>> 3) <<< 3 := by
    apply BitVec.eq_of_getLsbD_eq
    intro i hi
    simp only [BitVec.getLsbD_and, BitVec.getLsbD_not, BitVec.getLsbD_shiftLeft, BitVec.getLsbD_ushiftRight, hi, decide_true, Bool.true_and]
    by_cases h : i < 3
    · have : i = 0 ∨ i = 1 ∨ i = 2 := by omega
      rcases this with rfl | rfl | rfl <;> simp
    · have h7 : (7#64).getLsbD i = false := by
        have : (7#64).getLsbD i = (7 : Nat).testBit i := by simp [BitVec.getLsbD]
        rw [this]
        exact Nat.testBit_lt_two_pow (Nat.lt_of_lt_of_le (by decide : 7 < 2 ^ 3) (Nat.pow_le_pow_right (by decide) (by omega)))
      rw [h7]
      simp [h, show 3 + (i - 3) = i by omega]
  rw [this]
  simp only [BitVec.toNat_shiftLeft, BitVec.toNat_ushiftRight, Nat.shiftLeft_eq, Nat.shiftRight_eq_div_pow]
  have := x.isLt
  omega

theorem sane_bits (s : Int) (h : i64r s) : (IntKind.i64.wrap ((BitVec.ofInt 64 s &&& ~~~(BitVec.ofInt 64 7)).toNat : Int) == 0) = decide (0 ≤ s ∧ s ≤ 7) := by
  rw [show BitVec.ofInt 64 7 = 7#64 from rfl, andNot7, BitVec.toNat_ofInt, IntKind.wrap_i64]
  obtain ⟨h1, h2⟩ := h
  rw [Bool.eq_iff_iff, beq_iff_eq, decide_eq_true_iff]
  simp only [show ((2 ^ 64 : Nat) : Int) = 18446744073709551616 from rfl]
  omega

def sOr (a b : Int) : Int := IntKind.i64.wrap ((BitVec.ofInt 64 a ||| BitVec.ofInt 64 b).toNat : Int)
def sJoin (a b : Int) : Int := sOr (sn a) (sn b)
def sLeq (a b : Int) : Bool := IntKind.i64.wrap ((BitVec.ofInt 64 (sn a) &&& ~~~(BitVec.ofInt 64 (sn b))).toNat : Int) == 0
def sOf (c : Int) : Int := if c < 0 then 1 else if c > 0 then 4 else 2
/-- The signs of a set. -/
def sList (s : Int) : List Int := (if (sn s) % 2 == 1 then [-1] else []) ++ (if (sn s) / 2 % 2 == 1 then [0] else []) ++ (if (sn s) / 4 % 2 == 1 then [1] else [])

end Go.Vm
