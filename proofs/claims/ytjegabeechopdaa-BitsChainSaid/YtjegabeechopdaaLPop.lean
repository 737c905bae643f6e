/- How many digits of a number of 64 digits are ones, as the library counts them. -/
import Derived.Test.YtjegabeechopdaaLBits
set_option linter.unusedSimpArgs false
set_option linter.unusedVariables false
namespace Go.Vm
open Go
/-- How many of the first k digits are ones. -/
def pop : Nat → Nat → Nat
  | 0, _ => 0
  | k + 1, x => x % 2 + pop k (x / 2)
theorem and_split (n a r b s : Nat) (hr : r < 2 ^ n) (hs : s < 2 ^ n) : (2 ^ n * a + r) &&& (2 ^ n * b + s) = 2 ^ n * (a &&& b) + (r &&& s) := by
  have h : r &&& s < 2 ^ n := Nat.and_lt_two_pow _ hs
  refine Nat.eq_of_testBit_eq fun j => ?_
  rw [Nat.testBit_and, Nat.testBit_two_pow_mul_add _ hr, Nat.testBit_two_pow_mul_add _ hs, Nat.testBit_two_pow_mul_add _ h]
  split <;> rw [Nat.testBit_and]
def rep (c : Nat) : Nat → Nat
  | 0 => 0
  | k + 1 => 256 * rep c k + c
def p1 (r : Nat) : Nat := (r / 2 &&& 85) + (r &&& 85)
def p2 (r : Nat) : Nat := (r / 4 &&& 51) + (r &&& 51)
def p3 (r : Nat) : Nat := (r / 16 + r) &&& 15
/-- Byte by byte. -/
def byt (f : Nat → Nat) : Nat → Nat → Nat
  | 0, _ => 0
  | k + 1, x => 256 * byt f k (x / 256) + f (x % 256)
theorem byt_succ (f : Nat → Nat) (k x : Nat) : byt f (k + 1) x = 256 * byt f k (x / 256) + f (x % 256) := rfl
theorem pop_succ (k x : Nat) : pop (k + 1) x = x % 2 + pop k (x / 2) := rfl
theorem s1 : ∀ (k x : Nat), x < 256 ^ k → (x / 2 &&& rep 85 k) + (x &&& rep 85 k) = byt p1 k x
  | 0, x, h => by simp [rep, byt]
  | k + 1, x, h => by
    have ih := s1 k (x / 256) (by rw [Nat.pow_succ] at h; omega)
    have e1 : x = 2 ^ 8 * (x / 256) + x % 256 := by omega
    have e2 : x / 2 = 2 ^ 8 * (x / 256 / 2) + (128 * (x / 256 % 2) + x % 256 / 2) := by omega
    have key : ∀ (t : Fin 2) (r : Fin 256), ((128 * t.val + r.val / 2) &&& 85) = (r.val / 2 &&& 85) := by decide +kernel
    have hk := key ⟨x / 256 % 2, by omega⟩ ⟨x % 256, by omega⟩
    simp only at hk
    unfold rep byt
    have hx1 : x / 2 &&& (256 * rep 85 k + 85) = 2 ^ 8 * (x / 256 / 2 &&& rep 85 k) + (x % 256 / 2 &&& 85) := by
      conv => lhs; rw [e2]
      rw [show 256 * rep 85 k + 85 = 2 ^ 8 * rep 85 k + 85 by omega, and_split 8 _ _ _ _ (by omega) (by omega), hk]
    have hx2 : x &&& (256 * rep 85 k + 85) = 2 ^ 8 * (x / 256 &&& rep 85 k) + (x % 256 &&& 85) := by
      conv => lhs; rw [e1]
      rw [show 256 * rep 85 k + 85 = 2 ^ 8 * rep 85 k + 85 by omega, and_split 8 _ _ _ _ (by omega) (by omega)]
    rw [hx1, hx2, ← ih]
    unfold p1
    omega
theorem s2 : ∀ (k x : Nat), x < 256 ^ k → (x / 4 &&& rep 51 k) + (x &&& rep 51 k) = byt p2 k x
  | 0, x, h => by simp [rep, byt]
  | k + 1, x, h => by
    have ih := s2 k (x / 256) (by rw [Nat.pow_succ] at h; omega)
    have e1 : x = 2 ^ 8 * (x / 256) + x % 256 := by omega
    have e2 : x / 4 = 2 ^ 8 * (x / 256 / 4) + (64 * (x / 256 % 4) + x % 256 / 4) := by omega
    have key : ∀ (t : Fin 4) (r : Fin 256), ((64 * t.val + r.val / 4) &&& 51) = (r.val / 4 &&& 51) := by decide +kernel
    have hk := key ⟨x / 256 % 4, by omega⟩ ⟨x % 256, by omega⟩
    simp only at hk
    unfold rep byt
    have hx1 : x / 4 &&& (256 * rep 51 k + 51) = 2 ^ 8 * (x / 256 / 4 &&& rep 51 k) + (x % 256 / 4 &&& 51) := by
      conv => lhs; rw [e2]
      rw [show 256 * rep 51 k + 51 = 2 ^ 8 * rep 51 k + 51 by omega, and_split 8 _ _ _ _ (by omega) (by omega), hk]
    have hx2 : x &&& (256 * rep 51 k + 51) = 2 ^ 8 * (x / 256 &&& rep 51 k) + (x % 256 &&& 51) := by
      conv => lhs; rw [e1]
      rw [show 256 * rep 51 k + 51 = 2 ^ 8 * rep 51 k + 51 by omega, and_split 8 _ _ _ _ (by omega) (by omega)]
    rw [hx1, hx2, ← ih]
    unfold p2
    omega
/-- Nibbles of four at most. -/
def nib : Nat → Nat → Prop
  | 0, x => x = 0
  | k + 1, x => x % 16 ≤ 4 ∧ x % 256 / 16 ≤ 4 ∧ nib k (x / 256)
theorem nib_lo : ∀ {k x : Nat}, nib k x → x % 16 ≤ 4
  | 0, x, h => by simp [nib] at h; omega
  | k + 1, x, h => h.1
theorem s3 : ∀ (k x : Nat), nib k x → (x / 16 + x) &&& rep 15 k = byt p3 k x
  | 0, x, h => by simp [rep, byt]
  | k + 1, x, h => by
    obtain ⟨h1, h2, h3⟩ := h
    have ih := s3 k (x / 256) h3
    have hl := nib_lo h3
    have e2 : x / 16 + x = 2 ^ 8 * (x / 256 / 16 + x / 256) + (16 * (x / 256 % 16) + (x % 256 / 16 + x % 256)) := by omega
    have hb : 16 * (x / 256 % 16) + (x % 256 / 16 + x % 256) < 2 ^ 8 := by omega
    have hk : (16 * (x / 256 % 16) + (x % 256 / 16 + x % 256)) &&& 15 = (x % 256 / 16 + x % 256) &&& 15 := by
      rw [show (15 : Nat) = 2 ^ 4 - 1 from rfl, Nat.and_two_pow_sub_one_eq_mod, Nat.and_two_pow_sub_one_eq_mod]
      omega
    unfold rep byt
    conv => lhs; rw [e2]
    rw [show 256 * rep 15 k + 15 = 2 ^ 8 * rep 15 k + 15 by omega, and_split 8 _ _ _ _ hb (by omega), hk, ih]
    rfl
theorem byt_nib : ∀ (k x : Nat), nib k (byt p2 k (byt p1 k x))
  | 0, x => rfl
  | k + 1, x => by
    have key : ∀ r : Fin 256, p1 r.val < 256 ∧ p2 (p1 r.val) % 16 ≤ 4 ∧ p2 (p1 r.val) / 16 ≤ 4 ∧ p2 (p1 r.val) < 256 := by decide +kernel
    have h := key ⟨x % 256, by omega⟩
    simp only at h
    have ih := byt_nib k (x / 256)
    rw [byt_succ p1, byt_succ p2, show (256 * byt p1 k (x / 256) + p1 (x % 256)) / 256 = byt p1 k (x / 256) by omega, show (256 * byt p1 k (x / 256) + p1 (x % 256)) % 256 = p1 (x % 256) by omega]
    refine ⟨by omega, by omega, ?_⟩
    rw [show (256 * byt p2 k (byt p1 k (x / 256)) + p2 (p1 (x % 256))) / 256 = byt p2 k (byt p1 k (x / 256)) by omega]
    exact ih
theorem byt_all : ∀ (k x : Nat), byt p3 k (byt p2 k (byt p1 k x)) = byt (pop 8) k x
  | 0, x => rfl
  | k + 1, x => by
    have key : ∀ r : Fin 256, p1 r.val < 256 ∧ p2 (p1 r.val) < 256 ∧ p3 (p2 (p1 r.val)) = pop 8 r.val := by decide +kernel
    have h := key ⟨x % 256, by omega⟩
    simp only at h
    have ih := byt_all k (x / 256)
    rw [byt_succ p1, byt_succ p2, byt_succ p3, byt_succ (pop 8), show (256 * byt p1 k (x / 256) + p1 (x % 256)) / 256 = byt p1 k (x / 256) by omega, show (256 * byt p1 k (x / 256) + p1 (x % 256)) % 256 = p1 (x % 256) by omega,
      show (256 * byt p2 k (byt p1 k (x / 256)) + p2 (p1 (x % 256))) / 256 = byt p2 k (byt p1 k (x / 256)) by omega, show (256 * byt p2 k (byt p1 k (x / 256)) + p2 (p1 (x % 256))) % 256 = p2 (p1 (x % 256)) by omega, ih, h.2.2]
theorem byt_lt (f : Nat → Nat) (hf : ∀ r, r < 256 → f r < 256) : ∀ (k x : Nat), byt f k x < 256 ^ k
  | 0, x => by simp [byt]
  | k + 1, x => by
    have ih := byt_lt f hf k (x / 256)
    have := hf (x % 256) (by omega)
    unfold byt
    rw [Nat.pow_succ]
    omega
theorem pop_mod : ∀ (k j x : Nat), k ≤ j → pop k (x % 2 ^ j) = pop k x
  | 0, j, x, _ => rfl
  | k + 1, j, x, h => by
    obtain ⟨j, rfl⟩ : ∃ i, j = i + 1 := ⟨j - 1, by omega⟩
    have ih := pop_mod k j (x / 2) (by omega)
    rw [pop_succ, pop_succ]
    have e1 : x % 2 ^ (j + 1) % 2 = x % 2 := Nat.mod_mod_of_dvd _ ⟨2 ^ j, by rw [Nat.pow_succ, Nat.mul_comm]⟩
    have e2 : x % 2 ^ (j + 1) / 2 = x / 2 % 2 ^ j := by
      rw [Nat.pow_succ, Nat.mul_comm, Nat.mod_mul_right_div_self]
    rw [e1, e2, ih]
theorem pop_add : ∀ (k j x : Nat), pop (k + j) x = pop k x + pop j (x / 2 ^ k)
  | 0, j, x => by simp [pop]
  | k + 1, j, x => by
    rw [show k + 1 + j = (k + j) + 1 by omega, pop_succ, pop_succ]
    rw [pop_add k j (x / 2), Nat.div_div_eq_div_mul, show 2 * 2 ^ k = 2 ^ (k + 1) by rw [Nat.pow_succ, Nat.mul_comm]]
    omega
theorem pop_le : ∀ (k x : Nat), pop k x ≤ k
  | 0, x => Nat.le_refl _
  | k + 1, x => by
    have := pop_le k (x / 2)
    unfold pop
    omega
set_option linter.unusedSectionVars false
theorem rep1 : rep 1 8 = 72340172838076673 := by decide
theorem byt_le (f : Nat → Nat) (c : Nat) (hf : ∀ r, r < 256 → f r ≤ c) : ∀ (k x : Nat), byt f k x ≤ c * rep 1 k
  | 0, x => by simp [byt]
  | k + 1, x => by
    have ih := byt_le f c hf k (x / 256)
    have := hf (x % 256) (by omega)
    rw [byt_succ]
    show _ ≤ c * (256 * rep 1 k + 1)
    rw [Nat.mul_add, Nat.mul_left_comm]
    omega
section
variable {c0 c1 c2 c3 c4 c5 c6 c7 : Nat}
theorem sum_d : (c0 + 256 * (c1 + 256 * (c2 + 256 * (c3 + 256 * (c4 + 256 * (c5 + 256 * (c6 + 256 * c7))))))) + (c1 + 256 * (c2 + 256 * (c3 + 256 * (c4 + 256 * (c5 + 256 * (c6 + 256 * c7)))))) = (c0 + c1) + 256 * ((c1 + c2) + 256 * ((c2 + c3) + 256 * ((c3 + c4) + 256 * ((c4 + c5) + 256 * ((c5 + c6) + 256 * ((c6 + c7) + 256 * c7)))))) := by omega
theorem sum_d2 : (c0 + c1) + 256 * ((c1 + c2) + 256 * ((c2 + c3) + 256 * ((c3 + c4) + 256 * ((c4 + c5) + 256 * ((c5 + c6) + 256 * ((c6 + c7) + 256 * c7)))))) = ((c0 + c1) + 256 * (c1 + c2)) + 65536 * ((c2 + c3) + 256 * ((c3 + c4) + 256 * ((c4 + c5) + 256 * ((c5 + c6) + 256 * ((c6 + c7) + 256 * c7))))) := by omega
theorem sum_e : ((c0 + c1) + 256 * ((c1 + c2) + 256 * ((c2 + c3) + 256 * ((c3 + c4) + 256 * ((c4 + c5) + 256 * ((c5 + c6) + 256 * ((c6 + c7) + 256 * c7))))))) + ((c2 + c3) + 256 * ((c3 + c4) + 256 * ((c4 + c5) + 256 * ((c5 + c6) + 256 * ((c6 + c7) + 256 * c7))))) = (c0 + c1 + c2 + c3) + 256 * ((c1 + c2 + c3 + c4) + 256 * ((c2 + c3 + c4 + c5) + 256 * ((c3 + c4 + c5 + c6) + 256 * ((c4 + c5 + c6 + c7) + 256 * ((c5 + c6 + c7) + 256 * ((c6 + c7) + 256 * c7)))))) := by omega
theorem sum_e2 : (c0 + c1 + c2 + c3) + 256 * ((c1 + c2 + c3 + c4) + 256 * ((c2 + c3 + c4 + c5) + 256 * ((c3 + c4 + c5 + c6) + 256 * ((c4 + c5 + c6 + c7) + 256 * ((c5 + c6 + c7) + 256 * ((c6 + c7) + 256 * c7)))))) = ((c0 + c1 + c2 + c3) + 256 * ((c1 + c2 + c3 + c4) + 256 * ((c2 + c3 + c4 + c5) + 256 * (c3 + c4 + c5 + c6)))) + 4294967296 * ((c4 + c5 + c6 + c7) + 256 * ((c5 + c6 + c7) + 256 * ((c6 + c7) + 256 * c7))) := by omega
theorem sum_f : ((c0 + c1 + c2 + c3) + 256 * ((c1 + c2 + c3 + c4) + 256 * ((c2 + c3 + c4 + c5) + 256 * ((c3 + c4 + c5 + c6) + 256 * ((c4 + c5 + c6 + c7) + 256 * ((c5 + c6 + c7) + 256 * ((c6 + c7) + 256 * c7))))))) + ((c4 + c5 + c6 + c7) + 256 * ((c5 + c6 + c7) + 256 * ((c6 + c7) + 256 * c7))) = (c0 + c1 + c2 + c3 + c4 + c5 + c6 + c7) + 128 * (2 * ((c1 + c2 + c3 + c4 + c5 + c6 + c7) + 256 * ((c2 + c3 + c4 + c5 + c6 + c7) + 256 * ((c3 + c4 + c5 + c6 + c7) + 256 * ((c4 + c5 + c6 + c7) + 256 * ((c5 + c6 + c7) + 256 * ((c6 + c7) + 256 * c7))))))) := by omega
variable (q0 : c0 ≤ 8) (q1 : c1 ≤ 8) (q2 : c2 ≤ 8) (q3 : c3 ≤ 8) (q4 : c4 ≤ 8) (q5 : c5 ≤ 8) (q6 : c6 ≤ 8) (q7 : c7 ≤ 8)
include q0 q1 q2 q3 q4 q5 q6 q7
theorem lt_c : c0 + 256 * (c1 + 256 * (c2 + 256 * (c3 + 256 * (c4 + 256 * (c5 + 256 * (c6 + 256 * c7)))))) < 2 ^ 63 := by omega
theorem lt_d : (c0 + c1) + 256 * ((c1 + c2) + 256 * ((c2 + c3) + 256 * ((c3 + c4) + 256 * ((c4 + c5) + 256 * ((c5 + c6) + 256 * ((c6 + c7) + 256 * c7)))))) < 2 ^ 63 := by omega
theorem lt_e : (c0 + c1 + c2 + c3) + 256 * ((c1 + c2 + c3 + c4) + 256 * ((c2 + c3 + c4 + c5) + 256 * ((c3 + c4 + c5 + c6) + 256 * ((c4 + c5 + c6 + c7) + 256 * ((c5 + c6 + c7) + 256 * ((c6 + c7) + 256 * c7)))))) < 2 ^ 63 := by omega
theorem lt_f : (c0 + c1 + c2 + c3 + c4 + c5 + c6 + c7) + 128 * (2 * ((c1 + c2 + c3 + c4 + c5 + c6 + c7) + 256 * ((c2 + c3 + c4 + c5 + c6 + c7) + 256 * ((c3 + c4 + c5 + c6 + c7) + 256 * ((c4 + c5 + c6 + c7) + 256 * ((c5 + c6 + c7) + 256 * ((c6 + c7) + 256 * c7))))))) < 2 ^ 63 := by omega
theorem lt_s : c0 + c1 + c2 + c3 + c4 + c5 + c6 + c7 < 128 := by omega
theorem lt_2 : (c0 + c1) + 256 * (c1 + c2) < 65536 := by omega
theorem lt_4 : (c0 + c1 + c2 + c3) + 256 * ((c1 + c2 + c3 + c4) + 256 * ((c2 + c3 + c4 + c5) + 256 * (c3 + c4 + c5 + c6))) < 4294967296 := by omega
theorem lt_0 : c0 < 256 := by omega
theorem sums8 (c d e f : Nat) (hc : c = c0 + 256 * (c1 + 256 * (c2 + 256 * (c3 + 256 * (c4 + 256 * (c5 + 256 * (c6 + 256 * c7))))))) (hd : d = c + c / 256) (he : e = d + d / 65536) (hf : f = e + e / 4294967296) :
    c < 2 ^ 63 ∧ d < 2 ^ 63 ∧ e < 2 ^ 63 ∧ f < 2 ^ 63 ∧ f % 128 = c0 + c1 + c2 + c3 + c4 + c5 + c6 + c7 := by
  rw [hc, Nat.add_mul_div_left _ _ (by decide), Nat.div_eq_of_lt (lt_0 q0 q1 q2 q3 q4 q5 q6 q7), Nat.zero_add, sum_d] at hd
  have hd2 := hd
  rw [sum_d2] at hd2
  rw [hd2, Nat.add_mul_div_left _ _ (by decide), Nat.div_eq_of_lt (lt_2 q0 q1 q2 q3 q4 q5 q6 q7), Nat.zero_add, ← hd2, hd, sum_e] at he
  have he2 := he
  rw [sum_e2] at he2
  rw [he2, Nat.add_mul_div_left _ _ (by decide), Nat.div_eq_of_lt (lt_4 q0 q1 q2 q3 q4 q5 q6 q7), Nat.zero_add, ← he2, he, sum_f] at hf
  refine ⟨by rw [hc]; exact lt_c q0 q1 q2 q3 q4 q5 q6 q7, by rw [hd]; exact lt_d q0 q1 q2 q3 q4 q5 q6 q7, by rw [he]; exact lt_e q0 q1 q2 q3 q4 q5 q6 q7, by rw [hf]; exact lt_f q0 q1 q2 q3 q4 q5 q6 q7, ?_⟩
  rw [hf, Nat.add_mul_mod_self_left, Nat.mod_eq_of_lt (lt_s q0 q1 q2 q3 q4 q5 q6 q7)]
end
/-- THE LIBRARY'S COUNT. -/
theorem pop64 (x a b c d e f : Nat) (h : x < 2 ^ 64) (ha : a = (x / 2 &&& 6148914691236517205) + (x &&& 6148914691236517205)) (hb : b = (a / 4 &&& 3689348814741910323) + (a &&& 3689348814741910323)) (hc : c = (b / 16 + b) &&& 1085102592571150095)
    (hd : d = c + c / 256) (he : e = d + d / 65536) (hf : f = e + e / 4294967296) : a < 2 ^ 64 ∧ b < 2 ^ 63 ∧ c < 2 ^ 63 ∧ d < 2 ^ 63 ∧ e < 2 ^ 63 ∧ f < 2 ^ 63 ∧ f % 128 = pop 64 x := by
  have ha1 : a = byt p1 8 x := ha.trans (s1 8 x (by rw [show (256 : Nat) ^ 8 = 2 ^ 64 by decide]; exact h))
  have k1 : ∀ r : Fin 256, p1 r.val < 256 ∧ p2 r.val ≤ 102 := by decide +kernel
  have ha2 : a < 2 ^ 64 := by rw [ha1]; exact byt_lt p1 (fun r hr => (k1 ⟨r, hr⟩).1) 8 x
  have hb1 : b = byt p2 8 a := hb.trans (s2 8 a (by rw [show (256 : Nat) ^ 8 = 2 ^ 64 by decide]; exact ha2))
  have hb2 : b < 2 ^ 63 := by
    have := byt_le p2 102 (fun r hr => (k1 ⟨r, hr⟩).2) 8 a
    rw [rep1, ← hb1] at this
    exact Nat.lt_of_le_of_lt this (by decide)
  have hn : nib 8 b := by rw [hb1, ha1]; exact byt_nib 8 x
  have hc1 : c = byt (pop 8) 8 x := by
    rw [hc, show (1085102592571150095 : Nat) = rep 15 8 by decide, s3 8 b hn, hb1, ha1]
    exact byt_all 8 x
  have p8 : ∀ y, pop 8 y ≤ 8 := pop_le 8
  have hp : pop 64 x = pop 8 (x % 256) + pop 8 (x / 256 % 256) + pop 8 (x / 256 / 256 % 256) + pop 8 (x / 256 / 256 / 256 % 256) + pop 8 (x / 256 / 256 / 256 / 256 % 256) + pop 8 (x / 256 / 256 / 256 / 256 / 256 % 256) + pop 8 (x / 256 / 256 / 256 / 256 / 256 / 256 % 256) + pop 8 (x / 256 / 256 / 256 / 256 / 256 / 256 / 256 % 256) := by
    have m : ∀ y, pop 8 (y % 256) = pop 8 y := fun y => pop_mod 8 8 y (Nat.le_refl _)
    simp only [m]
    have a8 : ∀ j y, pop (8 + j) y = pop 8 y + pop j (y / 256) := fun j y => pop_add 8 j y
    rw [show (64 : Nat) = 8 + (8 + (8 + (8 + (8 + (8 + (8 + (8 + 0))))))) from rfl, a8, a8, a8, a8, a8, a8, a8, a8]
    simp only [show ∀ y, pop 0 y = 0 from fun _ => rfl, Nat.add_zero, Nat.add_assoc]
  have hc2 : c = pop 8 (x % 256) + 256 * (pop 8 (x / 256 % 256) + 256 * (pop 8 (x / 256 / 256 % 256) + 256 * (pop 8 (x / 256 / 256 / 256 % 256) + 256 * (pop 8 (x / 256 / 256 / 256 / 256 % 256) + 256 * (pop 8 (x / 256 / 256 / 256 / 256 / 256 % 256) + 256 * (pop 8 (x / 256 / 256 / 256 / 256 / 256 / 256 % 256) + 256 * pop 8 (x / 256 / 256 / 256 / 256 / 256 / 256 / 256 % 256))))))) := by
    rw [hc1]
    simp only [byt_succ, show ∀ y, byt (pop 8) 0 y = 0 from fun _ => rfl, Nat.mul_zero, Nat.zero_add, Nat.add_comm]
  obtain ⟨r1, r2, r3, r4, r5⟩ := sums8 (p8 _) (p8 _) (p8 _) (p8 _) (p8 _) (p8 _) (p8 _) (p8 _) c d e f hc2 hd he hf
  exact ⟨ha2, hb2, r1, r2, r3, r4, by rw [r5, hp]⟩
end Go.Vm
