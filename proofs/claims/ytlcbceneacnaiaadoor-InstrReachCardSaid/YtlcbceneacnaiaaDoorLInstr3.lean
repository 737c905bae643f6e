/- Laid. -/
import Derived.Test.YtlcbceneacnaiaaDoorLInstr2
import Derived.Test.YtlcbceneacnaiaaDoorLBitsAll
/- What is live; what reaches; as numbers. -/
set_option linter.unusedSimpArgs false
set_option linter.unusedVariables false
set_option exponentiation.threshold 2000
namespace Go.Vm
open Go
def liveV (M : Int) (a : Nat) (i : In) : Nat := vWout M a (defI i) ||| ofV M (usesI i)
def reachV (M : Int) (a : Nat) (i : In) (ids : List Int) : Nat := if defI i = -1 then a else vWith M (minus a (ofV M ids)) i.id
theorem ok_live {M : Int} {a : Nat} (h : Ok M a) (i : In) : Ok M (liveV M a i) := by
  have := ok_or (ok_wout (i := defI i) h) (ok_ofV M (usesI i) h.r)
  rwa [show max M M = M by omega] at this
theorem ok_reach {M : Int} {a : Nat} (h : Ok M a) (i : In) (ids : List Int) : Ok M (reachV M a i ids) := by
  unfold reachV
  split
  · exact h
  · have := ok_minus h (ok_ofV M ids h.r)
    rw [show max M M = M by omega] at this
    exact ok_with this
theorem any_contains {M k : Int} (h : 0 ≤ k ∧ k < M) (l : List Int) : (l.any fun x => decide (0 ≤ x ∧ x < M ∧ k.toNat = x.toNat)) = l.contains k := by
  rw [Bool.eq_iff_iff, List.any_eq_true, List.contains_iff_mem]
  constructor
  · rintro ⟨x, hx, h2⟩
    rw [decide_eq_true_eq] at h2
    rw [show k = x by omega]
    exact hx
  · intro hk
    exact ⟨k, hk, by rw [decide_eq_true_eq]; omega⟩
theorem live_law1 (M : Int) (a : Nat) (i : In) (k : Int) :
    (decide (0 ≤ k ∧ k < M) && (liveV M a i).testBit k.toNat) = ((decide (0 ≤ k ∧ k < M) && a.testBit k.toNat) && decide (k ≠ defI i) || (usesI i).contains k && decide (k ≥ 0) && decide (k < M)) := by
  by_cases h : 0 ≤ k ∧ k < M
  · have h1 : k ≥ 0 := h.1
    have h2 : k < M := h.2
    rw [liveV, Nat.testBit_or, vWout_bit, ofV_bit, any_contains h, decide_eq_true h, decide_eq_true h1, decide_eq_true h2]
    rw [show decide (0 ≤ defI i ∧ defI i < M ∧ k.toNat = (defI i).toNat) = !decide (k ≠ defI i) by
      by_cases e : k = defI i
      · rw [← e]; simp [h]
      · rw [decide_eq_false (by omega)]; simp [e]]
    simp
  · rw [decide_eq_false h]
    have : (decide (k ≥ 0) && decide (k < M)) = false := by
      rw [← Bool.decide_and, decide_eq_false_iff_not]
      exact h
    rw [Bool.and_assoc ((usesI i).contains k), this]
    simp
theorem live_law2 (M : Int) (a : Nat) (i : In) : liveV M (liveV M a i) i = liveV M a i := by
  refine Nat.eq_of_testBit_eq fun j => ?_
  simp only [liveV, Nat.testBit_or, vWout_bit]
  cases a.testBit j <;> cases (ofV M (usesI i)).testBit j <;> cases decide (0 ≤ defI i ∧ defI i < M ∧ j = (defI i).toNat) <;> rfl
theorem def_lt (i : In) : decide (defI i < 0) = decide (defI i = -1) := by
  rw [decide_eq_decide, defI]
  split
  · rename_i h
    simp only [Bool.and_eq_true, form, decide_eq_true_eq] at h
    omega
  · omega
theorem reach_law1 (M : Int) (a : Nat) (i : In) (ids : List Int) : reachV M (reachV M a i ids) i ids = reachV M a i ids := by
  unfold reachV
  split
  · rfl
  · refine Nat.eq_of_testBit_eq fun j => ?_
    simp only [vWith_bit, minus_bit]
    cases a.testBit j <;> cases (ofV M ids).testBit j <;> cases decide (0 ≤ i.id ∧ i.id < M ∧ j = i.id.toNat) <;> rfl
theorem reach_law2 (M : Int) (a : Nat) (i : In) (ids : List Int) (h : ¬ defI i = -1) : ((decide (0 ≤ i.id ∧ i.id < M) && (reachV M a i ids).testBit i.id.toNat) == decide (i.id < M)) = true := by
  have h0 : 0 ≤ i.id := by
    by_cases c : (form i && hD i.kind) = true
    · simp only [Bool.and_eq_true, form, decide_eq_true_eq] at c
      omega
    · rw [defI, if_neg c] at h
      exact absurd rfl h
  rw [reachV, if_neg h, vWith_bit]
  by_cases e : i.id < M
  · rw [decide_eq_true (⟨h0, e⟩ : 0 ≤ i.id ∧ i.id < M), decide_eq_true e, decide_eq_true (⟨h0, e, rfl⟩ : 0 ≤ i.id ∧ i.id < M ∧ i.id.toNat = i.id.toNat)]
    simp
  · rw [decide_eq_false (p := 0 ≤ i.id ∧ i.id < M) (by omega), decide_eq_false e]
    rfl
theorem reach_law3 (M : Int) (a : Nat) (i : In) (ids : List Int) (k : Int) (h : ¬ defI i = -1) (hk : ¬ k = i.id) : (decide (0 ≤ k ∧ k < M) && (reachV M a i ids).testBit k.toNat) = ((decide (0 ≤ k ∧ k < M) && a.testBit k.toNat) && !ids.contains k) := by
  by_cases e : 0 ≤ k ∧ k < M
  · rw [reachV, if_neg h, vWith_bit, minus_bit, ofV_bit, any_contains e, decide_eq_false (p := 0 ≤ i.id ∧ i.id < M ∧ k.toNat = i.id.toNat) (by omega), Bool.or_false, Bool.and_assoc]
  · rw [decide_eq_false e]; rfl
theorem contains_take {l : List Int} {k : Int} {n : Int} (h0 : 0 ≤ n) (h : n < l.length) : (l.take (n + 1).toNat).contains k = ((l.take n.toNat).contains k || l.getD n.toNat 0 == k) := by
  rw [take_snoc h0 h, Bool.eq_iff_iff, Bool.or_eq_true, List.contains_iff_mem, List.contains_iff_mem, List.mem_append, List.mem_singleton, beq_iff_eq]
  constructor <;> rintro (h | h) <;> first | exact Or.inl h | exact Or.inr h.symm
end Go.Vm
