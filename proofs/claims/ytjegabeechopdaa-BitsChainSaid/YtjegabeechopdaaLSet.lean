/- Sets of small numbers: which may be, and what they are. -/
import Derived.Test.YtjegabeechopdaaLPop
set_option linter.unusedSimpArgs false
set_option linter.unusedVariables false
namespace Go.Vm
open Go
def wN (n : Int) : Nat := ((n + 63) / 64).toNat
abbrev W64 (ws : List Nat) : Prop := ∀ w ∈ ws, w < 2 ^ 64
def bSane (n : Int) (ws : List Nat) : Bool := decide (0 ≤ n ∧ n ≤ 1024 ∧ ws.length = wN n ∧ val ws < 2 ^ n.toNat)
def nN (n : Int) (ws : List Nat) : Int := if bSane n ws then n else 0
def vN (n : Int) (ws : List Nat) : Nat := if bSane n ws then val ws else 0
abbrev sv (n : Int) (ws : List Nat) : PV := .agg [.int .i64 n, .sl (u64s ws)]
abbrev mk (n : Int) (v : Nat) : PV := sv n (words (wN n) v)

theorem bSane_iff {n : Int} {ws : List Nat} : bSane n ws = true ↔ 0 ≤ n ∧ n ≤ 1024 ∧ ws.length = wN n ∧ val ws < 2 ^ n.toNat := by simp [bSane]
theorem nN_r (n : Int) (ws : List Nat) : 0 ≤ nN n ws ∧ nN n ws ≤ 1024 := by
  unfold nN
  split
  · rename_i h; have := bSane_iff.1 h; omega
  · omega
theorem vN_lt (n : Int) (ws : List Nat) : vN n ws < 2 ^ (nN n ws).toNat := by
  unfold nN vN
  split
  · rename_i h; exact (bSane_iff.1 h).2.2.2
  · exact Nat.two_pow_pos _
theorem wN_le {n : Int} (h : 0 ≤ n) : n.toNat ≤ 64 * wN n := by unfold wN; omega
theorem wN_mono {n m : Int} (h : n ≤ m) : wN n ≤ wN m := by unfold wN; omega
theorem wN_small {n : Int} (h : n ≤ 1024) : wN n ≤ 16 := by unfold wN; omega
theorem lt_words {n : Int} {v : Nat} (h0 : 0 ≤ n) (h : v < 2 ^ n.toNat) : v < 2 ^ (64 * wN n) := Nat.lt_of_lt_of_le h (Nat.pow_le_pow_right (by omega) (wN_le h0))
theorem mk_sane {n : Int} {v : Nat} (h0 : 0 ≤ n) (h1 : n ≤ 1024) (h : v < 2 ^ n.toNat) : bSane n (words (wN n) v) = true := bSane_iff.2 ⟨h0, h1, words_length _ _, by rw [val_words (lt_words h0 h)]; exact h⟩
theorem nN_mk {n : Int} {v : Nat} (h0 : 0 ≤ n) (h1 : n ≤ 1024) (h : v < 2 ^ n.toNat) : nN n (words (wN n) v) = n := by unfold nN; rw [if_pos (mk_sane h0 h1 h)]
theorem vN_mk {n : Int} {v : Nat} (h0 : 0 ≤ n) (h1 : n ≤ 1024) (h : v < 2 ^ n.toNat) : vN n (words (wN n) v) = v := by unfold vN; rw [if_pos (mk_sane h0 h1 h), val_words (lt_words h0 h)]
/-- A set that may be is what it is made of. -/
theorem sane_words {n : Int} {ws : List Nat} (hw : W64 ws) (h : bSane n ws = true) : words (wN (nN n ws)) (vN n ws) = ws := by
  have h1 := bSane_iff.1 h
  unfold nN vN
  rw [if_pos h, if_pos h, ← h1.2.2.1]
  exact words_val hw
theorem unsane_nN {n : Int} {ws : List Nat} (h : bSane n ws = false) : nN n ws = 0 := by simp [nN, h]
theorem unsane_vN {n : Int} {ws : List Nat} (h : bSane n ws = false) : vN n ws = 0 := by simp [vN, h]
theorem sane_nN {n : Int} {ws : List Nat} (h : bSane n ws = true) : nN n ws = n := by simp [nN, h]
theorem sane_vN {n : Int} {ws : List Nat} (h : bSane n ws = true) : vN n ws = val ws := by simp [vN, h]

theorem testBit_ge {v k j : Nat} (h : v < 2 ^ k) (hj : k ≤ j) : v.testBit j = false := Nat.testBit_lt_two_pow (Nat.lt_of_lt_of_le h (Nat.pow_le_pow_right (by omega) hj))

/-- By its last word. -/
theorem last_iff {n : Int} {ws : List Nat} (hw : W64 ws) (h0 : 0 ≤ n) (hl : ws.length = wN n) : (val ws < 2 ^ n.toNat) ↔ (n % 64 = 0 ∨ ws.getD (ws.length - 1) 0 / 2 ^ (n % 64).toNat = 0) := by
  by_cases ho : n % 64 = 0
  · simp only [ho, true_or, iff_true]
    have := val_lt hw
    rw [hl] at this
    rwa [show 64 * wN n = n.toNat by unfold wN; omega] at this
  · simp only [ho, false_or]
    have hk : wN n = n.toNat / 64 + 1 := by unfold wN; omega
    have ho2 : (n % 64).toNat = n.toNat % 64 := by omega
    rw [hl, hk, ho2, Nat.add_sub_cancel]
    have hlt : ws.getD (n.toNat / 64) 0 < 2 ^ 64 := by
      rw [List.getD_eq_getElem?_getD, List.getElem?_eq_getElem (by omega)]
      exact hw _ (List.getElem_mem _)
    rw [Nat.div_eq_zero_iff_lt (Nat.two_pow_pos _)]
    constructor
    · intro h
      refine Nat.lt_pow_two_of_testBit _ fun j hj => ?_
      by_cases hj2 : j < 64
      · have := val_bit hw (64 * (n.toNat / 64) + j)
        rw [show (64 * (n.toNat / 64) + j) / 64 = n.toNat / 64 by omega, show (64 * (n.toNat / 64) + j) % 64 = j by omega] at this
        rw [← this]
        exact testBit_ge h (by omega)
      · exact testBit_ge hlt (by omega)
    · intro h
      refine Nat.lt_pow_two_of_testBit _ fun j hj => ?_
      rw [val_bit hw]
      by_cases hj2 : j / 64 = n.toNat / 64
      · rw [hj2]
        exact testBit_ge h (by omega)
      · rw [List.getD_eq_getElem?_getD, List.getElem?_eq_none (by omega)]
        simp

/-- How many numbers there are. -/
theorem pop_bit : ∀ (k x : Nat), pop k x = (List.range k).countP (fun i => x.testBit i)
  | 0, x => rfl
  | k + 1, x => by
    rw [pop_succ, pop_bit k (x / 2), List.range_succ_eq_map, List.countP_cons, List.countP_map]
    have : (List.range k).countP ((fun i => x.testBit i) ∘ Nat.succ) = (List.range k).countP (fun i => (x / 2).testBit i) := by
      congr 1
      funext i
      simp [Nat.testBit_succ]
    rw [this, Nat.add_comm]
    congr 1
    rw [Nat.testBit_zero]
    by_cases h : x % 2 = 1 <;> simp [h]; omega
end Go.Vm
