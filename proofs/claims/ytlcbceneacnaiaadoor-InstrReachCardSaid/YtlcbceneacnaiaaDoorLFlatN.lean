/- Laid. -/
import Derived.Test.YtlcbceneacnaiaaDoorLFlat
/- Numbers of 32 bits: the laws that the statements ask. -/
namespace Go.Vm
section
variable (x y z : BitVec 32)
theorem n_comm : (V3.one x).add (.one y) = (V3.one y).add (.one x) := by simp [V3.add, V3.each, BitVec.add_comm]
theorem n_assoc : ((V3.one x).add (.one y)).add (.one z) = (V3.one x).add ((V3.one y).add (.one z)) := by simp [V3.add, V3.each, BitVec.add_assoc]
theorem n_cancel : ((V3.one x).add (.one y)).sub (.one y) = .one x := by simp [V3.add, V3.sub, V3.each, BitVec.add_sub_cancel]
theorem n_sub : (V3.one x).sub (.one y) = (V3.one x).add (V3.one y).neg := by simp [V3.add, V3.sub, V3.neg, V3.each, BitVec.sub_eq_add_neg]
theorem n_mcomm : (V3.one x).mul (.one y) = (V3.one y).mul (.one x) := by simp [V3.mul, V3.each, BitVec.mul_comm]
theorem n_dist : ((V3.one x).add (.one y)).mul (.one z) = ((V3.one x).mul (.one z)).add ((V3.one y).mul (.one z)) := by
  simp only [V3.add, V3.mul, V3.each]
  rw [BitVec.mul_comm, BitVec.mul_add, BitVec.mul_comm z x, BitVec.mul_comm z y]
theorem n_neg : (V3.one x).neg.neg = .one x := by simp [V3.neg, V3.sub, V3.each]
theorem n_one : (V3.one x).mul (.one (BitVec.ofInt 32 1)) = .one x := by
  simp only [V3.mul, V3.each, show BitVec.ofInt 32 1 = 1#32 from rfl, BitVec.mul_one]
theorem n_wrap (a : Int) : ((V3.one (BitVec.ofInt 32 a)).c == IntKind.i64.wrap (IntKind.i32.wrap (IntKind.u32.wrap a))) = true := by
  simp only [V3.c, toInt_ofInt32, IntKind.wrap_i64, IntKind.wrap_i32, IntKind.wrap_u32, beq_iff_eq]
  omega
end
end Go.Vm
namespace Go.Vm
section
variable (a b c : V3)
theorem V3.leq_join' : b.leq (a.join b) = true := by rw [V3.join_comm]; exact V3.leq_join b a
theorem V3.dcomm : decide (a.join b = b.join a) = true := decide_eq_true (V3.join_comm a b)
theorem V3.dassoc : decide ((a.join b).join c = a.join (b.join c)) = true := decide_eq_true (V3.join_assoc a b c)
theorem V3.k_le2 : decide (a.k ≤ 2) = true := by cases a <;> rfl
end
end Go.Vm
