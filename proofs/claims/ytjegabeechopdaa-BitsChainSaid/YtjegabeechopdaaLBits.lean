/- Sets of small numbers as one number, and its words: the laws, no program in sight. -/
import Derived.Test.YtjegabeechopdaaVnD
set_option linter.unusedSimpArgs false
set_option linter.unusedVariables false
namespace Go.Vm
open Go

/-- A word of a number. -/
def wrd (v i : Nat) : Nat := v / 2 ^ (64 * i) % 2 ^ 64
def words (k v : Nat) : List Nat := (List.range k).map (wrd v)
def val : List Nat → Nat
  | [] => 0
  | w :: r => w + 2 ^ 64 * val r
def u64s (ws : List Nat) : List PV := ws.map fun (w : Nat) => PV.int .u64 w

theorem wrd_lt (v i : Nat) : wrd v i < 2 ^ 64 := Nat.mod_lt _ (Nat.two_pow_pos 64)
theorem wrd_bit (v i j : Nat) : (wrd v i).testBit j = (decide (j < 64) && v.testBit (64 * i + j)) := by
  unfold wrd
  rw [Nat.testBit_mod_two_pow, Nat.testBit_div_two_pow]
  rw [Nat.add_comm]
theorem words_length (k v : Nat) : (words k v).length = k := by simp [words]
theorem words_get (k v i : Nat) (h : i < k) : (words k v)[i]? = some (wrd v i) := by simp [words, h]
theorem words_getD (k v i : Nat) (h : i < k) : (words k v).getD i 0 = wrd v i := by rw [List.getD_eq_getElem?_getD, words_get k v i h]; rfl
theorem u64s_length (ws : List Nat) : (u64s ws).length = ws.length := by simp [u64s]
theorem u64s_get (ws : List Nat) (i : Nat) : (u64s ws)[i]? = ws[i]?.map fun (w : Nat) => PV.int .u64 w := by simp [u64s]
theorem u64s_pure (ws : List Nat) : (u64s ws).all pureE = true := by simp [u64s, pureE, pure1]
theorem u64s_cells (ws : List Nat) : cellsOk 1 (u64s ws) = true := by simp [u64s, cellsOk, PV.cells, PV.one]
theorem u64s_set (ws : List Nat) (i w : Nat) : (u64s ws).set i (.int .u64 (w : Int)) = u64s (ws.set i w) := by simp [u64s, List.map_set]
theorem u64s_take (ws : List Nat) (i : Nat) : (u64s ws).take i = u64s (ws.take i) := by simp [u64s, List.map_take]

/-- Two lists of words are the same if their words are. -/
theorem words_ext {ws : List Nat} {k v : Nat} (hl : ws.length = k) (h : ∀ i, i < k → ws.getD i 0 = wrd v i) : ws = words k v := by
  refine List.ext_getElem (by rw [hl, words_length]) fun i h1 h2 => ?_
  have := h i (by omega)
  rw [List.getD_eq_getElem?_getD, List.getElem?_eq_getElem h1] at this
  simp only [Option.getD_some] at this
  rw [this]
  simp [words]

theorem val_bit : ∀ {ws : List Nat}, (∀ w ∈ ws, w < 2 ^ 64) → ∀ i, (val ws).testBit i = (ws.getD (i / 64) 0).testBit (i % 64)
  | [], _, i => by simp [val]
  | w :: r, h, i => by
    have hw := h w (by simp)
    have ih := val_bit (ws := r) fun x hx => h x (by simp [hx])
    rw [show val (w :: r) = 2 ^ 64 * val r + w by simp [val, Nat.add_comm]]
    by_cases hi : i < 64
    · rw [Nat.testBit_two_pow_mul_add _ hw, if_pos hi, Nat.div_eq_of_lt hi, Nat.mod_eq_of_lt hi]
      simp
    · rw [Nat.testBit_two_pow_mul_add _ hw, if_neg hi, ih (i - 64)]
      have e1 : i / 64 = (i - 64) / 64 + 1 := by omega
      have e2 : i % 64 = (i - 64) % 64 := by omega
      rw [e1, e2]
      simp

theorem words_val {ws : List Nat} (h : ∀ w ∈ ws, w < 2 ^ 64) : words ws.length (val ws) = ws := by
  symm
  refine words_ext rfl fun i hi => ?_
  refine Nat.eq_of_testBit_eq fun j => ?_
  rw [wrd_bit, val_bit h]
  by_cases hj : j < 64
  · rw [show (64 * i + j) / 64 = i by omega, show (64 * i + j) % 64 = j by omega]
    simp [hj]
  · have : ws.getD i 0 < 2 ^ 64 := by
      rw [List.getD_eq_getElem?_getD, List.getElem?_eq_getElem hi]
      exact h _ (List.getElem_mem hi)
    rw [Nat.testBit_lt_two_pow (Nat.lt_of_lt_of_le this (Nat.pow_le_pow_right (by omega) (by omega)))]
    simp [hj]

theorem val_lt {ws : List Nat} (h : ∀ w ∈ ws, w < 2 ^ 64) : val ws < 2 ^ (64 * ws.length) := by
  refine Nat.lt_pow_two_of_testBit _ fun i hi => ?_
  rw [val_bit h, List.getD_eq_getElem?_getD, List.getElem?_eq_none (by omega)]
  simp

theorem words_lt (k v : Nat) : ∀ w ∈ words k v, w < 2 ^ 64 := by
  intro w hw
  simp only [words, List.mem_map] at hw
  obtain ⟨i, _, rfl⟩ := hw
  exact wrd_lt v i

theorem val_words {k v : Nat} (h : v < 2 ^ (64 * k)) : val (words k v) = v := by
  refine Nat.eq_of_testBit_eq fun i => ?_
  rw [val_bit (words_lt k v)]
  by_cases hi : i / 64 < k
  · rw [words_getD _ _ _ hi, wrd_bit]
    rw [show 64 * (i / 64) + i % 64 = i by omega]
    simp [Nat.mod_lt]
  · rw [List.getD_eq_getElem?_getD, List.getElem?_eq_none (by rw [words_length]; omega)]
    rw [Nat.testBit_lt_two_pow (Nat.lt_of_lt_of_le h (Nat.pow_le_pow_right (by omega) (by omega)))]
    simp

theorem words_inj {k v u : Nat} (hv : v < 2 ^ (64 * k)) (hu : u < 2 ^ (64 * k)) (h : words k v = words k u) : v = u := by
  rw [← val_words hv, ← val_words hu, h]

/-- A word with a digit more, or less. -/
theorem words_set {k v u i : Nat} (hi : i < 64 * k) (f : Bool → Bool) (hw : ∀ j, u.testBit j = if j = i % 64 then f ((wrd v (i / 64)).testBit j) else (wrd v (i / 64)).testBit j) (hu : u < 2 ^ 64) {v' : Nat} (hv : ∀ j, v'.testBit j = if j = i then f (v.testBit j) else v.testBit j) :
    (words k v).set (i / 64) u = words k v' := by
  refine words_ext (by simp [words_length]) fun j hj => ?_
  have hik : i / 64 < k := by omega
  rw [List.getD_eq_getElem?_getD, List.getElem?_set]
  by_cases e : i / 64 = j
  · rw [if_pos e, if_pos (by rw [words_length]; omega)]
    simp only [Option.getD_some]
    refine Nat.eq_of_testBit_eq fun t => ?_
    rw [hw, wrd_bit, wrd_bit, hv, ← e]
    by_cases ht : t < 64
    · by_cases e2 : t = i % 64
      · rw [if_pos e2, if_pos (by omega)]
        simp [ht]
      · rw [if_neg e2, if_neg (by omega)]
    · have : u.testBit t = false := Nat.testBit_lt_two_pow (Nat.lt_of_lt_of_le hu (Nat.pow_le_pow_right (by omega) (by omega)))
      rw [hw, wrd_bit] at this
      simp only [ht, decide_false, Bool.false_and] at this ⊢
      exact this
  · rw [if_neg e, words_get _ _ _ hj]
    simp only [Option.getD_some]
    refine Nat.eq_of_testBit_eq fun t => ?_
    rw [wrd_bit, wrd_bit, hv]
    by_cases ht : t < 64
    · rw [if_neg (by omega)]
    · simp [ht]

theorem bit_pow (i j : Nat) : (2 ^ i).testBit j = decide (j = i) := by
  rw [Nat.testBit_two_pow]
  simp [eq_comm]

def withB (v i : Nat) : Nat := v ||| 2 ^ i
/-- A number without some digits. -/
def minus (v u : Nat) : Nat := v ^^^ (v &&& u)
theorem minus_bit (v u j : Nat) : (minus v u).testBit j = (v.testBit j && !u.testBit j) := by
  unfold minus
  rw [Nat.testBit_xor, Nat.testBit_and]
  cases v.testBit j <;> cases u.testBit j <;> rfl
theorem withB_bit (v i j : Nat) : (withB v i).testBit j = (v.testBit j || decide (j = i)) := by
  unfold withB
  rw [Nat.testBit_or, bit_pow]

theorem words_with {k v i : Nat} (hi : i < 64 * k) : (words k v).set (i / 64) (wrd v (i / 64) ||| 2 ^ (i % 64)) = words k (withB v i) := by
  refine words_set hi (fun _ => true) (fun j => ?_) (Nat.or_lt_two_pow (wrd_lt _ _) (Nat.pow_lt_pow_right (by omega) (Nat.mod_lt _ (by omega)))) (fun j => ?_)
  · rw [Nat.testBit_or, bit_pow]
    by_cases h : j = i % 64 <;> simp [h]
  · rw [withB_bit]
    by_cases h : j = i <;> simp [h]
theorem words_without {k v i : Nat} (hi : i < 64 * k) : (words k v).set (i / 64) (minus (wrd v (i / 64)) (2 ^ (i % 64))) = words k (minus v (2 ^ i)) := by
  refine words_set hi (fun _ => false) (fun j => ?_) ?_ (fun j => ?_)
  · rw [minus_bit, bit_pow]
    by_cases h : j = i % 64 <;> simp [h]
  · refine Nat.lt_of_le_of_lt ?_ (wrd_lt v (i / 64))
    refine Nat.le_of_testBit fun j hj => ?_
    rw [minus_bit] at hj
    simp only [Bool.and_eq_true] at hj
    exact hj.1
  · rw [minus_bit, bit_pow]
    by_cases h : j = i <;> simp [h]

/-- Word by word. -/
theorem wrd_or (v u i : Nat) : wrd (v ||| u) i = wrd v i ||| wrd u i := by
  refine Nat.eq_of_testBit_eq fun j => ?_
  rw [Nat.testBit_or, wrd_bit, wrd_bit, wrd_bit, Nat.testBit_or]
  cases decide (j < 64) <;> rfl
theorem wrd_and (v u i : Nat) : wrd (v &&& u) i = wrd v i &&& wrd u i := by
  refine Nat.eq_of_testBit_eq fun j => ?_
  rw [Nat.testBit_and, wrd_bit, wrd_bit, wrd_bit, Nat.testBit_and]
  cases decide (j < 64) <;> simp
theorem wrd_minus (v u i : Nat) : wrd (minus v u) i = minus (wrd v i) (wrd u i) := by
  refine Nat.eq_of_testBit_eq fun j => ?_
  rw [minus_bit, wrd_bit, wrd_bit, wrd_bit, minus_bit]
  cases decide (j < 64) <;> simp
theorem wrd_zero (i : Nat) : wrd 0 i = 0 := by simp [wrd]
theorem words_zero (k : Nat) : words k 0 = List.replicate k 0 := by
  refine List.ext_getElem (by simp [words_length]) fun i h1 h2 => ?_
  simp [words, wrd_zero]
/-- More words. -/
theorem words_more {k k' v : Nat} (h : v < 2 ^ (64 * k)) (hk : k ≤ k') : words k v ++ List.replicate (k' - k) 0 = words k' v := by
  refine words_ext (by simp [words_length]; omega) fun i hi => ?_
  rw [List.getD_eq_getElem?_getD]
  by_cases hik : i < k
  · rw [List.getElem?_append_left (by rw [words_length]; exact hik), words_get _ _ _ hik]
    try rfl
  · rw [List.getElem?_append_right (by rw [words_length]; omega), words_length, List.getElem?_replicate]
    have : wrd v i = 0 := by
      unfold wrd
      rw [Nat.div_eq_of_lt (Nat.lt_of_lt_of_le h (Nat.pow_le_pow_right (by omega) (by omega)))]
    rw [this]
    split <;> rfl

/-! ### As the program's words -/
theorem ofInt_toNat {a : Nat} (h : a < 2 ^ 64) : (BitVec.ofInt 64 (a : Int)).toNat = a := by
  rw [BitVec.ofInt_natCast, BitVec.toNat_ofNat]
  exact Nat.mod_eq_of_lt h
theorem wrap_u64_nat {a : Nat} (h : a < 2 ^ 64) : IntKind.u64.wrap (a : Int) = a := by
  simp only [IntKind.wrap, IntKind.signed, IntKind.bits]
  simp
  omega
theorem bits_or {a b : Nat} (ha : a < 2 ^ 64) (hb : b < 2 ^ 64) : bitsI .or .u64 (a : Int) (b : Int) = some ((a ||| b : Nat) : Int) := by
  show some (IntKind.u64.wrap ((BitVec.ofInt 64 (a : Int) ||| BitVec.ofInt 64 (b : Int)).toNat : Int)) = _
  rw [BitVec.toNat_or, ofInt_toNat ha, ofInt_toNat hb, wrap_u64_nat (Nat.or_lt_two_pow ha hb)]
theorem bits_and {a b : Nat} (ha : a < 2 ^ 64) (hb : b < 2 ^ 64) : bitsI .and .u64 (a : Int) (b : Int) = some ((a &&& b : Nat) : Int) := by
  show some (IntKind.u64.wrap ((BitVec.ofInt 64 (a : Int) &&& BitVec.ofInt 64 (b : Int)).toNat : Int)) = _
  rw [BitVec.toNat_and, ofInt_toNat ha, ofInt_toNat hb, wrap_u64_nat (Nat.and_lt_two_pow _ hb)]
theorem minus_le (v u : Nat) : minus v u ≤ v := by
  refine Nat.le_of_testBit fun j hj => ?_
  rw [minus_bit] at hj
  simp only [Bool.and_eq_true] at hj
  exact hj.1
theorem bits_andNot {a b : Nat} (ha : a < 2 ^ 64) (hb : b < 2 ^ 64) : bitsI .andNot .u64 (a : Int) (b : Int) = some ((minus a b : Nat) : Int) := by
  show some (IntKind.u64.wrap ((BitVec.ofInt 64 (a : Int) &&& ~~~BitVec.ofInt 64 (b : Int)).toNat : Int)) = _
  have : (BitVec.ofInt 64 (a : Int) &&& ~~~BitVec.ofInt 64 (b : Int)).toNat = minus a b := by
    refine Nat.eq_of_testBit_eq fun j => ?_
    rw [minus_bit]
    show (BitVec.ofInt 64 (a : Int) &&& ~~~BitVec.ofInt 64 (b : Int)).getLsbD j = _
    rw [BitVec.getLsbD_and, BitVec.getLsbD_not]
    unfold BitVec.getLsbD
    rw [ofInt_toNat ha, ofInt_toNat hb]
    by_cases hj : j < 64
    · simp [hj]
    · rw [Nat.testBit_lt_two_pow (Nat.lt_of_lt_of_le ha (Nat.pow_le_pow_right (by omega) (by omega)))]
      simp
  rw [this, wrap_u64_nat (Nat.lt_of_le_of_lt (minus_le a b) ha)]
/-- One digit. -/
theorem shl_one {i : Nat} (h : i < 64) : shiftI .shl .u64 1 (i : Int) = some (.int .u64 ((2 ^ i : Nat) : Int)) := by
  unfold shiftI
  rw [if_neg (by omega)]
  simp only [IntKind.bits, Int.toNat_natCast]
  rw [Nat.min_eq_left (by omega), Int.one_mul]
  have := wrap_u64_nat (Nat.pow_lt_pow_right (a := 2) (by omega) h)
  rw [show (2 : Int) ^ i = ((2 ^ i : Nat) : Int) by simp, this]
theorem shr_nat {a i : Nat} (h : i < 64) : shiftI .shr .u64 (a : Int) (i : Int) = some (.int .u64 ((a / 2 ^ i : Nat) : Int)) := by
  unfold shiftI
  rw [if_neg (by omega)]
  simp only [IntKind.bits, Int.toNat_natCast]
  rw [Nat.min_eq_left (by omega)]
  congr 2
  rw [Int.fdiv_eq_ediv_of_nonneg _ (Int.pow_nonneg (by omega))]
  simp
end Go.Vm
