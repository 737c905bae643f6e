/- Laws of sets as numbers; the arguments that are sets. -/
import Derived.Test.YtjegabeechopdaaVnF
import Derived.Test.YtjegabeechopdaaLArgs
set_option linter.unusedSimpArgs false
set_option linter.unusedVariables false
set_option exponentiation.threshold 2000
namespace Go.Vm
open Go
def Rep (x : PV) (N : Int) (v : Nat) : Prop := ∃ n ws, x = sv n ws ∧ W64 ws ∧ nN n ws = N ∧ vN n ws = v
structure Ok (N : Int) (v : Nat) : Prop where
  r : 0 ≤ N ∧ N ≤ 1024
  lt : v < 2 ^ N.toNat
theorem Rep.ok {x : PV} {N : Int} {v : Nat} (h : Rep x N v) : Ok N v := by
  obtain ⟨n, ws, rfl, _, rfl, rfl⟩ := h
  exact ⟨nN_r n ws, vN_lt n ws⟩
theorem rep_sv (n : Int) (ws : List Nat) (h : W64 ws) : Rep (sv n ws) (nN n ws) (vN n ws) := ⟨n, ws, rfl, h, rfl, rfl⟩
theorem rep_mk {N : Int} {v : Nat} (h : Ok N v) : Rep (mk N v) N v := ⟨N, words (wN N) v, rfl, words_lt _ _, nN_mk h.r.1 h.r.2 h.lt, vN_mk h.r.1 h.r.2 h.lt⟩
theorem ok_up {N M : Int} {v : Nat} (h : Ok N v) (h1 : N ≤ M) (h2 : M ≤ 1024) : Ok M v := ⟨⟨by have := h.r; omega, h2⟩, Nat.lt_of_lt_of_le h.lt (Nat.pow_le_pow_right (by omega) (by omega))⟩
theorem ok_zero {N : Int} (h0 : 0 ≤ N ∧ N ≤ 1024) : Ok N 0 := ⟨h0, Nat.two_pow_pos _⟩
theorem ok_or {M N : Int} {a b : Nat} (h1 : Ok M a) (h2 : Ok N b) : Ok (max M N) (a ||| b) := ⟨by have := h1.r; have := h2.r; omega, Nat.or_lt_two_pow (ok_up h1 (by omega) (by have := h1.r; have := h2.r; omega)).lt (ok_up h2 (by omega) (by have := h1.r; have := h2.r; omega)).lt⟩
theorem ok_and {M N : Int} {a b : Nat} (h1 : Ok M a) (h2 : Ok N b) : Ok (max M N) (a &&& b) := ⟨by have := h1.r; have := h2.r; omega, Nat.and_lt_two_pow _ (ok_up h2 (by omega) (by have := h1.r; have := h2.r; omega)).lt⟩
theorem ok_minus {M N : Int} {a b : Nat} (h1 : Ok M a) (h2 : Ok N b) : Ok (max M N) (minus a b) := ⟨by have := h1.r; have := h2.r; omega, minus_lt (ok_up h1 (by omega) (by have := h1.r; have := h2.r; omega)).lt⟩
def vWith (N : Int) (v : Nat) (i : Int) : Nat := if 0 ≤ i ∧ i < N then withB v i.toNat else v
def vWout (N : Int) (v : Nat) (i : Int) : Nat := if 0 ≤ i ∧ i < N then minus v (2 ^ i.toNat) else v
theorem ok_with {N : Int} {v : Nat} {i : Int} (h : Ok N v) : Ok N (vWith N v i) := by
  unfold vWith
  split
  · exact ⟨h.r, Nat.or_lt_two_pow h.lt (Nat.pow_lt_pow_right (by omega) (by omega))⟩
  · exact h
theorem ok_wout {N : Int} {v : Nat} {i : Int} (h : Ok N v) : Ok N (vWout N v i) := by
  unfold vWout
  split
  · exact ⟨h.r, minus_lt h.lt⟩
  · exact h
theorem ok_ofV (N : Int) (l : List Int) (h : 0 ≤ N ∧ N ≤ 1024) : Ok N (ofV N l) := by
  suffices ∀ v, Ok N v → Ok N (l.foldl (fun v i => if 0 ≤ i ∧ i < N then withB v i.toNat else v) v) from this 0 (ok_zero h)
  induction l with
  | nil => exact fun v hv => hv
  | cons x l ih => exact fun v hv => ih _ (ok_with (i := x) hv)
theorem vWith_bit (N : Int) (v : Nat) (i : Int) (j : Nat) : (vWith N v i).testBit j = (v.testBit j || decide (0 ≤ i ∧ i < N ∧ j = i.toNat)) := by
  unfold vWith
  split
  · rename_i h; rw [withB_bit]; simp [h]
  · rename_i h
    have : decide (0 ≤ i ∧ i < N ∧ j = i.toNat) = false := by simp only [decide_eq_false_iff_not]; omega
    rw [this, Bool.or_false]
theorem vWout_bit (N : Int) (v : Nat) (i : Int) (j : Nat) : (vWout N v i).testBit j = (v.testBit j && !decide (0 ≤ i ∧ i < N ∧ j = i.toNat)) := by
  unfold vWout
  split
  · rename_i h; rw [minus_bit, bit_pow]; simp [h]
  · rename_i h
    have : decide (0 ≤ i ∧ i < N ∧ j = i.toNat) = false := by simp only [decide_eq_false_iff_not]; omega
    rw [this]; simp
/-! ### Order -/
theorem sub_iff {a b : Nat} : minus a b = 0 ↔ ∀ i, a.testBit i = true → b.testBit i = true := by
  constructor
  · intro h i hi
    have := congrArg (fun x => x.testBit i) h
    simp only [minus_bit, hi, Nat.zero_testBit, Bool.true_and, Bool.not_eq_false'] at this
    exact this
  · intro h
    refine Nat.eq_of_testBit_eq fun i => ?_
    rw [minus_bit, Nat.zero_testBit]
    cases ha : a.testBit i with
    | false => rfl
    | true => simp [h i ha]
theorem cn_count (v : Nat) : cn v = (List.range 1024).countP (fun i => v.testBit i) := by unfold cn; exact pop_bit 1024 v
theorem countP_or_and (p q : Nat → Bool) : ∀ l : List Nat, l.countP (fun i => p i || q i) + l.countP (fun i => p i && q i) = l.countP p + l.countP q
  | [] => rfl
  | x :: l => by
    have ih := countP_or_and p q l
    simp only [List.countP_cons]
    cases hp : p x <;> cases hq : q x <;> simp [hp, hq] <;> omega
theorem cn_or_and (a b : Nat) : cn (a ||| b) + cn (a &&& b) = cn a + cn b := by
  simp only [cn_count, Nat.testBit_or, Nat.testBit_and]
  exact countP_or_and _ _ _
theorem countP_minus (p q : Nat → Bool) : ∀ l : List Nat, l.countP (fun i => p i && !q i) + l.countP (fun i => p i && q i) = l.countP p
  | [] => rfl
  | x :: l => by
    have ih := countP_minus p q l
    simp only [List.countP_cons]
    cases hp : p x <;> cases hq : q x <;> simp [hp, hq] <;> omega
theorem cn_minus (a b : Nat) : cn (minus a b) + cn (a &&& b) = cn a := by
  simp only [cn_count, minus_bit, Nat.testBit_and]
  exact countP_minus _ _ _
theorem cn_le (v : Nat) : cn v ≤ 1024 := by unfold cn; exact pop_le 1024 v
theorem Ok.lt1024 {N : Int} {v : Nat} (h : Ok N v) : v < 2 ^ 1024 := Nat.lt_of_lt_of_le h.lt (Nat.pow_le_pow_right (by omega) (by have := h.r; omega))
theorem cn_pos {v : Nat} (h : v < 2 ^ 1024) : cn v = 0 ↔ v = 0 := by
  have := cn_zero h
  rw [Bool.eq_iff_iff, beq_iff_eq, decide_eq_true_eq] at this
  omega
/-! ### Arguments -/
theorem fits_ints {x : PV} (h : FitsV (.sl (.int .i64)) x) : ∃ l : List Int, x = .sl (ints l) ∧ l.length ≤ maxLen ∧ ∀ y ∈ l, -9223372036854775808 ≤ y ∧ y ≤ 9223372036854775807 := by
  rcases h with ⟨h, _⟩ | ⟨_, l, h, hl, hx⟩
  · cases h
  · injection h with h
    subst h
    suffices ∃ l' : List Int, l = ints l' ∧ ∀ y ∈ l', -9223372036854775808 ≤ y ∧ y ≤ 9223372036854775807 by
      obtain ⟨l', rfl, h2⟩ := this
      exact ⟨l', rfl, by rwa [ints_length] at hl, h2⟩
    clear hl
    induction l with
    | nil => exact ⟨[], rfl, by simp⟩
    | cons x l ih =>
      obtain ⟨l', rfl, h2⟩ := ih fun y hy => hx y (by simp [hy])
      rcases hx x (by simp) with ⟨h, _⟩ | ⟨_, n, h, hw⟩
      · cases h
      · injection h with h
        subst h
        refine ⟨n :: l', rfl, fun y hy => ?_⟩
        rcases List.mem_cons.1 hy with rfl | hy
        · exact i64_wf hw
        · exact h2 y hy
theorem fits_u64s {l : List PV} (hx : ∀ x ∈ l, ((Ty.int .u64).isAgg = true ∧ ∃ c, x = .agg c ∧ Fits (.int .u64) c) ∨ ((Ty.int .u64).isAgg = false ∧ Fits (.int .u64) [x])) : ∃ ws, l = u64s ws ∧ W64 ws := by
  induction l with
  | nil => exact ⟨[], rfl, fun _ h => by cases h⟩
  | cons x l ih =>
    obtain ⟨ws, rfl, h2⟩ := ih fun y hy => hx y (by simp [hy])
    rcases hx x (by simp) with ⟨h, _⟩ | ⟨_, n, h, hw⟩
    · cases h
    · injection h with h
      subst h
      have := u64_wf hw
      obtain ⟨k, rfl⟩ := Int.eq_ofNat_of_zero_le this.1
      refine ⟨k :: ws, rfl, fun y hy => ?_⟩
      rcases List.mem_cons.1 hy with rfl | hy
      · omega
      · exact h2 y hy
theorem fits_set {x : PV} (h : FitsV (.st (.cons (.int .i64) (.cons (.sl (.int .u64)) .nil))) x) : ∃ n ws, x = sv n ws ∧ W64 ws ∧ (-9223372036854775808 ≤ n ∧ n ≤ 9223372036854775807) := by
  rcases h with ⟨_, c, rfl, x, y, rfl, ⟨k, rfl, hk⟩, z, u, rfl, ⟨l, rfl, hl, hx⟩, rfl⟩ | ⟨h, _⟩
  · obtain ⟨ws, rfl, hw⟩ := fits_u64s hx
    exact ⟨k, ws, rfl, hw, i64_wf hk⟩
  · cases h
end Go.Vm
