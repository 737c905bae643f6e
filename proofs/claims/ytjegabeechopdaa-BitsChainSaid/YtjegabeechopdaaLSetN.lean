/- Laws of sets as numbers: chains. -/
import Derived.Test.YtjegabeechopdaaLSetM
set_option linter.unusedSimpArgs false
set_option linter.unusedVariables false
set_option exponentiation.threshold 2000
namespace Go.Vm
open Go
theorem b_and127i (n : Int) : binP .and (.int .i64 n) (.int .i64 127) = some (.int .i64 (n % 128)) := by
  show some (PV.int .i64 (IntKind.i64.wrap ((BitVec.ofInt 64 n &&& BitVec.ofInt 64 127).toNat : Int))) = _
  rw [BitVec.toNat_and, show (BitVec.ofInt 64 127).toNat = 2 ^ 7 - 1 from rfl, Nat.and_two_pow_sub_one_eq_mod, BitVec.toNat_ofInt, wrap_i64_of (by omega)]
  congr 2
  omega
theorem countP_one : ∀ (n x : Nat), x < n → (List.range n).countP (fun i => decide (i = x)) = 1
  | 0, x, h => by omega
  | n + 1, x, h => by
    rw [List.range_succ, List.countP_append, List.countP_singleton]
    by_cases e : n = x
    · subst e
      have : (List.range n).countP (fun i => decide (i = n)) = 0 := by
        rw [List.countP_eq_zero]
        intro i hi
        have := List.mem_range.1 hi
        simp; omega
      rw [this]; simp
    · rw [countP_one n x (by omega)]; simp [e]
theorem cn_pow {x : Nat} (h : x < 1024) : cn (2 ^ x) = 1 := by
  rw [cn_count]
  simp only [bit_pow]
  exact countP_one 1024 x h
theorem cn_none : cn 0 = 0 := by unfold cn; exact pop_zero 1024
theorem with_same {M : Int} {a : Nat} {x : Int} : (a = vWith M a x) ↔ (¬ (0 ≤ x ∧ x < M) ∨ a.testBit x.toNat = true) := by
  constructor
  · intro h
    by_cases hA : 0 ≤ x ∧ x < M
    · right
      rw [h, vWith_bit]
      simp [hA]
    · exact .inl hA
  · rintro (h | h)
    · rw [vWith_out h]
    · refine Nat.eq_of_testBit_eq fun j => ?_
      rw [vWith_bit]
      by_cases e : j = x.toNat
      · subst e; simp [h]
      · simp [e]
theorem cn_with_new {M : Int} {a : Nat} {x : Int} (hM : M ≤ 1024) (h : ¬ a = vWith M a x) : cn (vWith M a x) = cn a + 1 := by
  rw [with_same, not_or, Decidable.not_not] at h
  have hb : a.testBit x.toNat = false := by simpa using h.2
  have e : vWith M a x = a ||| 2 ^ x.toNat := by unfold vWith; rw [if_pos h.1]; rfl
  have e2 : a &&& 2 ^ x.toNat = 0 := by
    refine Nat.eq_of_testBit_eq fun j => ?_
    rw [Nat.testBit_and, bit_pow, Nat.zero_testBit]
    by_cases e : j = x.toNat
    · subst e; simp [hb]
    · simp [e]
  have := cn_or_and a (2 ^ x.toNat)
  rw [e2, cn_none, cn_pow (by have := h.1; omega)] at this
  rw [e]
  rw [Nat.add_zero] at this
  rw [this]
set_option maxRecDepth 10000 in
theorem cn_le_ok {N : Int} {v : Nat} (h : Ok N v) : (cn v : Int) ≤ N := by
  have hr := h.r
  have e := pop_more (b := 1024) h.lt (by omega)
  have := pop_le N.toNat v
  unfold cn
  rw [e]
  omega
theorem chain1 (M : Int) (a : Nat) (x : Int) : (!decide (minus a (vWith M a x) = 0) || !((M == M && decide (a = vWith M a x)) == ((decide (0 ≤ x ∧ x < M) && a.testBit x.toNat) || decide (x < 0) || decide (x ≥ M)))) = false := by
  rw [sub_with]
  have := with_same (M := M) (a := a) (x := x)
  simp only [beq_self_eq_true, Bool.true_and, decide_true, Bool.not_true, Bool.false_or, Bool.not_eq_false']
  rw [beq_iff_eq, Bool.eq_iff_iff]
  simp only [decide_eq_true_eq, Bool.or_eq_true, Bool.and_eq_true, this]
  cases a.testBit x.toNat <;> simp <;> omega
theorem ofV_take {N : Int} {l : List Int} {i : Int} (h0 : 0 ≤ i) (h : i < l.length) : ofV N (l.take (i + 1).toNat) = vWith N (ofV N (l.take i.toNat)) (l.getD i.toNat 0) := by
  rw [take_snoc h0 h, ofV_snoc]
  rfl
end Go.Vm
