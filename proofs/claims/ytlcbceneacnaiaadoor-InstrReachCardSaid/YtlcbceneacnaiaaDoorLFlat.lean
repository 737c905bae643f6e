/- Laid. -/
import Derived.Test.YtlcbceneacnaiaaDoorVmThree
import Derived.Laws.BitsLemmas
/- The lattice of bottom, one number of 32 bits, and top: its laws, no program in sight. -/
set_option linter.unusedSimpArgs false
set_option linter.unusedVariables false
namespace Go.Vm
open Go

inductive V3 where
  | bot | one (c : BitVec 32) | top
  deriving DecidableEq

def V3.k : V3 → Int
  | .bot => 0 | .one _ => 1 | .top => 2
def V3.c : V3 → Int
  | .one c => c.toInt
  | _ => 0
abbrev pv (v : V3) : PV := .agg [.int .i64 v.k, .int .i64 v.c]

def vSane (k c : Int) : Bool := if k == 1 then (if c ≥ -2147483648 then decide (c ≤ 2147483647) else false) else if k == 0 then c == 0 else if k == 2 then c == 0 else false
def toV (k c : Int) : V3 := if vSane k c then (if k = 0 then .bot else if k = 1 then .one (BitVec.ofInt 32 c) else .top) else .top

theorem i32_range (b : BitVec 32) : -2147483648 ≤ b.toInt ∧ b.toInt ≤ 2147483647 := by
  have h1 := BitVec.toInt_lt (x := b)
  have h2 := BitVec.le_toInt (x := b)
  simp at h1 h2
  omega

theorem vSane_kc (v : V3) : vSane v.k v.c = true := by
  cases v with
  | one b =>
    have := i32_range b
    simp [vSane, V3.k, V3.c, this.1, this.2]
  | _ => simp [vSane, V3.k, V3.c]

theorem toV_kc (v : V3) : toV v.k v.c = v := by
  unfold toV
  rw [if_pos (vSane_kc v)]
  cases v <;> simp [V3.k, V3.c]

theorem toInt_ofInt32 (n : Int) : (BitVec.ofInt 32 n).toInt = (n + 2147483648) % 4294967296 - 2147483648 := by
  rw [BitVec.toInt_ofInt]
  simp only [Int.bmod, show ((2 ^ 32 : Nat) : Int) = 4294967296 from rfl]
  split <;> omega

theorem toV_sane {k c : Int} (h : vSane k c = true) : (toV k c).k = k ∧ (toV k c).c = c := by
  unfold toV
  rw [if_pos h]
  unfold vSane at h
  by_cases h0 : k = 0
  · subst h0
    simp at h
    simp [V3.k, V3.c, h]
  · by_cases h1 : k = 1
    · subst h1
      simp at h
      have e : (BitVec.ofInt 32 c).toInt = c := by
        rw [toInt_ofInt32]
        omega
      simp only [if_true, show ¬ (1 : Int) = 0 by decide, if_false, V3.k, V3.c, e]
      exact ⟨trivial, trivial⟩
    · simp [h0, h1] at h
      simp [V3.k, V3.c, h0, h1, h]

theorem toV_unsane {k c : Int} (h : vSane k c = false) : toV k c = .top := by simp [toV, h]

theorem ofInt_wrap (n : Int) : BitVec.ofInt 32 (IntKind.i64.wrap n) = BitVec.ofInt 32 n := by
  apply BitVec.eq_of_toInt_eq
  rw [toInt_ofInt32, toInt_ofInt32, IntKind.wrap_i64]
  omega

def V3.join : V3 → V3 → V3
  | .bot, b => b
  | a, .bot => a
  | a, b => if a = b then b else .top
def V3.leq (a b : V3) : Bool := decide (a.join b = b)
def V3.each (f : BitVec 32 → BitVec 32 → BitVec 32) : V3 → V3 → V3
  | .bot, _ => .bot
  | _, .bot => .bot
  | .one x, .one y => .one (f x y)
  | _, _ => .top
def V3.add := V3.each (· + ·)
def V3.sub := V3.each (· - ·)
def V3.mul := V3.each (· * ·)
def V3.neg (a : V3) : V3 := V3.sub (.one 0) a

theorem V3.eq_iff (a b : V3) : a = b ↔ a.k = b.k ∧ a.c = b.c := by
  cases a <;> cases b <;> simp [V3.k, V3.c, BitVec.toInt_inj]

theorem V3.beq (a b : V3) : (a.k == b.k && (a.c == b.c && true)) = decide (a = b) := by
  rw [Bool.eq_iff_iff]
  simp [V3.eq_iff]

variable (a b c : V3)
theorem V3.leq_refl : a.leq a = true := by cases a <;> simp [V3.leq, V3.join]
theorem V3.join_self : a.join a = a := by cases a <;> simp [V3.join]
theorem V3.join_comm : a.join b = b.join a := by
  cases a <;> cases b <;> simp [V3.join] 
  split <;> simp_all [eq_comm]
theorem V3.join_assoc : (a.join b).join c = a.join (b.join c) := by
  cases a with
  | bot => simp [V3.join]
  | top => cases b <;> cases c <;> simp [V3.join] <;> split <;> simp_all [V3.join]
  | one x =>
    cases b with
    | bot => simp [V3.join]
    | top => cases c <;> simp [V3.join]
    | one y =>
      cases c with
      | bot => by_cases h : x = y <;> simp [V3.join, h]
      | top => by_cases h : x = y <;> simp [V3.join, h]
      | one z => by_cases h : x = y <;> by_cases h2 : y = z <;> simp_all [V3.join]
end Go.Vm
namespace Go.Vm
theorem o_add (x y : BitVec 32) : BitVec.ofInt 32 (IntKind.i64.wrap (x.toInt + y.toInt)) = x + y := by
  rw [ofInt_wrap, BitVec.ofInt_add, BitVec.ofInt_toInt, BitVec.ofInt_toInt]
theorem o_sub (x y : BitVec 32) : BitVec.ofInt 32 (IntKind.i64.wrap (x.toInt - y.toInt)) = x - y := by
  rw [ofInt_wrap, Int.sub_eq_add_neg, BitVec.ofInt_add, BitVec.ofInt_neg, BitVec.ofInt_toInt, BitVec.ofInt_toInt, BitVec.sub_eq_add_neg]
theorem o_mul (x y : BitVec 32) : BitVec.ofInt 32 (IntKind.i64.wrap (x.toInt * y.toInt)) = x * y := by
  rw [ofInt_wrap, BitVec.ofInt_mul, BitVec.ofInt_toInt, BitVec.ofInt_toInt]
end Go.Vm
namespace Go.Vm
theorem tmod_cases (n : Int) : (0 ≤ n ∧ n.tmod 4294967296 = n % 4294967296) ∨ (n < 0 ∧ n.tmod 4294967296 = -((-n) % 4294967296)) := by
  by_cases h : 0 ≤ n
  · exact .inl ⟨h, Int.tmod_eq_emod_of_nonneg h⟩
  · refine .inr ⟨by omega, ?_⟩
    rw [show n = -(-n) by omega, Int.neg_tmod, Int.tmod_eq_emod_of_nonneg (by omega)]
    simp
end Go.Vm
namespace Go.Vm
theorem toInt_beq (x y : BitVec 32) : (x.toInt == y.toInt) = decide (x = y) := by
  rw [Bool.eq_iff_iff]
  simp [BitVec.toInt_inj]
theorem o_neg (x : BitVec 32) : (IntKind.i64.wrap (-x.toInt)).bmod 4294967296 = (-x).toInt := by
  have := ofInt_wrap (-x.toInt)
  have h2 := congrArg BitVec.toInt this
  rw [BitVec.toInt_ofInt, BitVec.ofInt_neg, BitVec.ofInt_toInt] at h2
  exact h2
end Go.Vm
namespace Go.Vm
theorem toV_00 : toV 0 0 = .bot := by simp [toV, vSane]
theorem toV_20 : toV 2 0 = .top := by simp [toV, vSane]
theorem V3.leq_join (a b : V3) : a.leq (a.join b) = true := by
  rcases a with _ | x | _ <;> rcases b with _ | y | _ <;> simp [V3.leq, V3.join]
  by_cases h : x = y <;> simp [h, V3.join]
theorem V3.leq_iff (a b : V3) : a.leq b = true ↔ a = .bot ∨ a = b ∨ b = .top := by
  cases a <;> cases b <;> simp [V3.leq, V3.join]
theorem V3.each_rises (o : BitVec 32 → BitVec 32 → BitVec 32) (a b c d : V3) (h : a.leq c = true) (k : b.leq d = true) : (V3.each o a b).leq (V3.each o c d) = true := by
  rw [V3.leq_iff] at *
  cases a <;> cases b <;> cases c <;> cases d <;> simp_all [V3.each]
theorem V3.add_rises (a b c d : V3) : (V3.add a b).leq (V3.add (a.join c) (b.join d)) = true := V3.each_rises _ _ _ _ _ (V3.leq_join a c) (V3.leq_join b d)
theorem V3.sub_rises (a b c d : V3) : (V3.sub a b).leq (V3.sub (a.join c) (b.join d)) = true := V3.each_rises _ _ _ _ _ (V3.leq_join a c) (V3.leq_join b d)
theorem V3.mul_rises (a b c d : V3) : (V3.mul a b).leq (V3.mul (a.join c) (b.join d)) = true := V3.each_rises _ _ _ _ _ (V3.leq_join a c) (V3.leq_join b d)
theorem V3.neg_rises (a c : V3) : (V3.neg a).leq (V3.neg (a.join c)) = true := V3.each_rises _ _ _ _ _ (V3.leq_refl _) (V3.leq_join a c)
end Go.Vm
