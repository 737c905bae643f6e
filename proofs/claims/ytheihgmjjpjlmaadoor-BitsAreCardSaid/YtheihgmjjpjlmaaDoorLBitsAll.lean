/- Laid. -/
import Derived.Test.YtheihgmjjpjlmaaDoorVmThree
import Derived.Test.YtheihgmjjpjlmaaDoorVmTwoB
section
/- Sets of small numbers as one number, and its words: the laws, no program in sight. -/
set_option linter.unusedSimpArgs false
set_option linter.unusedVariables false
namespace Go.Vm
open Go
def wrd (v i : Nat) : Nat := v / 2 ^ (64 * i) % 2 ^ 64
def words (k v : Nat) : List Nat := (List.range k).map (wrd v)
def val : List Nat → Nat
  | [] => 0
  | w :: r => w + 2 ^ 64 * val r
def u64s (ws : List Nat) : List PV := ws.map fun (w : Nat) => PV.int .u64 w
theorem wrd_lt (v i : Nat) : wrd v i < 2 ^ 64 := Nat.mod_lt _ (Nat.two_pow_pos 64)
theorem wrd_bit (v i j : Nat) : (wrd v i).testBit j = (decide (j < 64) && v.testBit (64 * i + j)) := by
  unfold wrd
  rw [Nat.testBit_mod_two_pow, Nat.testBit_div_two_pow]
  rw [Nat.add_comm]
theorem words_length (k v : Nat) : (words k v).length = k := by simp [words]
theorem words_get (k v i : Nat) (h : i < k) : (words k v)[i]? = some (wrd v i) := by simp [words, h]
theorem words_getD (k v i : Nat) (h : i < k) : (words k v).getD i 0 = wrd v i := by rw [List.getD_eq_getElem?_getD, words_get k v i h]; rfl
theorem u64s_length (ws : List Nat) : (u64s ws).length = ws.length := by simp [u64s]
theorem u64s_get (ws : List Nat) (i : Nat) : (u64s ws)[i]? = ws[i]?.map fun (w : Nat) => PV.int .u64 w := by simp [u64s]
theorem u64s_pure (ws : List Nat) : (u64s ws).all pureE = true := by simp [u64s, pureE, pure1]
theorem u64s_cells (ws : List Nat) : cellsOk 1 (u64s ws) = true := by simp [u64s, cellsOk, PV.cells, PV.one]
theorem u64s_set (ws : List Nat) (i w : Nat) : (u64s ws).set i (.int .u64 (w : Int)) = u64s (ws.set i w) := by simp [u64s, List.map_set]
theorem words_ext {ws : List Nat} {k v : Nat} (hl : ws.length = k) (h : ∀ i, i < k → ws.getD i 0 = wrd v i) : ws = words k v := by
  refine List.ext_getElem (by rw [hl, words_length]) fun i h1 h2 => ?_
  have := h i (by omega)
  rw [List.getD_eq_getElem?_getD, List.getElem?_eq_getElem h1] at this
  simp only [Option.getD_some] at this
  rw [this]
  simp [words]
theorem val_bit : ∀ {ws : List Nat}, (∀ w ∈ ws, w < 2 ^ 64) → ∀ i, (val ws).testBit i = (ws.getD (i / 64) 0).testBit (i % 64)
  | [], _, i => by simp [val]
  | w :: r, h, i => by
    have hw := h w (by simp)
    have ih := val_bit (ws := r) fun x hx => h x (by simp [hx])
    rw [show val (w :: r) = 2 ^ 64 * val r + w by simp [val, Nat.add_comm]]
    by_cases hi : i < 64
    · rw [Nat.testBit_two_pow_mul_add _ hw, if_pos hi, Nat.div_eq_of_lt hi, Nat.mod_eq_of_lt hi]
      simp
    · rw [Nat.testBit_two_pow_mul_add _ hw, if_neg hi, ih (i - 64)]
      have e1 : i / 64 = (i - 64) / 64 + 1 := by omega
      have e2 : i % 64 = (i - 64) % 64 := by omega
      rw [e1, e2]
      simp
theorem words_val {ws : List Nat} (h : ∀ w ∈ ws, w < 2 ^ 64) : words ws.length (val ws) = ws := by
  symm
  refine words_ext rfl fun i hi => ?_
  refine Nat.eq_of_testBit_eq fun j => ?_
  rw [wrd_bit, val_bit h]
  by_cases hj : j < 64
  · rw [show (64 * i + j) / 64 = i by omega, show (64 * i + j) % 64 = j by omega]
    simp [hj]
  · have : ws.getD i 0 < 2 ^ 64 := by
      rw [List.getD_eq_getElem?_getD, List.getElem?_eq_getElem hi]
      exact h _ (List.getElem_mem hi)
    rw [Nat.testBit_lt_two_pow (Nat.lt_of_lt_of_le this (Nat.pow_le_pow_right (by omega) (by omega)))]
    simp [hj]
theorem val_lt {ws : List Nat} (h : ∀ w ∈ ws, w < 2 ^ 64) : val ws < 2 ^ (64 * ws.length) := by
  refine Nat.lt_pow_two_of_testBit _ fun i hi => ?_
  rw [val_bit h, List.getD_eq_getElem?_getD, List.getElem?_eq_none (by omega)]
  simp
theorem words_lt (k v : Nat) : ∀ w ∈ words k v, w < 2 ^ 64 := by
  intro w hw
  simp only [words, List.mem_map] at hw
  obtain ⟨i, _, rfl⟩ := hw
  exact wrd_lt v i
theorem val_words {k v : Nat} (h : v < 2 ^ (64 * k)) : val (words k v) = v := by
  refine Nat.eq_of_testBit_eq fun i => ?_
  rw [val_bit (words_lt k v)]
  by_cases hi : i / 64 < k
  · rw [words_getD _ _ _ hi, wrd_bit]
    rw [show 64 * (i / 64) + i % 64 = i by omega]
    simp [Nat.mod_lt]
  · rw [List.getD_eq_getElem?_getD, List.getElem?_eq_none (by rw [words_length]; omega)]
    rw [Nat.testBit_lt_two_pow (Nat.lt_of_lt_of_le h (Nat.pow_le_pow_right (by omega) (by omega)))]
    simp
theorem words_inj {k v u : Nat} (hv : v < 2 ^ (64 * k)) (hu : u < 2 ^ (64 * k)) (h : words k v = words k u) : v = u := by
  rw [← val_words hv, ← val_words hu, h]
theorem words_set {k v u i : Nat} (hi : i < 64 * k) (f : Bool → Bool) (hw : ∀ j, u.testBit j = if j = i % 64 then f ((wrd v (i / 64)).testBit j) else (wrd v (i / 64)).testBit j) (hu : u < 2 ^ 64) {v' : Nat} (hv : ∀ j, v'.testBit j = if j = i then f (v.testBit j) else v.testBit j) :
    (words k v).set (i / 64) u = words k v' := by
  refine words_ext (by simp [words_length]) fun j hj => ?_
  have hik : i / 64 < k := by omega
  rw [List.getD_eq_getElem?_getD, List.getElem?_set]
  by_cases e : i / 64 = j
  · rw [if_pos e, if_pos (by rw [words_length]; omega)]
    simp only [Option.getD_some]
    refine Nat.eq_of_testBit_eq fun t => ?_
    rw [hw, wrd_bit, wrd_bit, hv, ← e]
    by_cases ht : t < 64
    · by_cases e2 : t = i % 64
      · rw [if_pos e2, if_pos (by omega)]
        simp [ht]
      · rw [if_neg e2, if_neg (by omega)]
    · have : u.testBit t = false := Nat.testBit_lt_two_pow (Nat.lt_of_lt_of_le hu (Nat.pow_le_pow_right (by omega) (by omega)))
      rw [hw, wrd_bit] at this
      simp only [ht, decide_false, Bool.false_and] at this ⊢
      exact this
  · rw [if_neg e, words_get _ _ _ hj]
    simp only [Option.getD_some]
    refine Nat.eq_of_testBit_eq fun t => ?_
    rw [wrd_bit, wrd_bit, hv]
    by_cases ht : t < 64
    · rw [if_neg (by omega)]
    · simp [ht]
theorem bit_pow (i j : Nat) : (2 ^ i).testBit j = decide (j = i) := by
  rw [Nat.testBit_two_pow]
  simp [eq_comm]
def withB (v i : Nat) : Nat := v ||| 2 ^ i
def minus (v u : Nat) : Nat := v ^^^ (v &&& u)
theorem minus_bit (v u j : Nat) : (minus v u).testBit j = (v.testBit j && !u.testBit j) := by
  unfold minus
  rw [Nat.testBit_xor, Nat.testBit_and]
  cases v.testBit j <;> cases u.testBit j <;> rfl
theorem withB_bit (v i j : Nat) : (withB v i).testBit j = (v.testBit j || decide (j = i)) := by
  unfold withB
  rw [Nat.testBit_or, bit_pow]
theorem words_with {k v i : Nat} (hi : i < 64 * k) : (words k v).set (i / 64) (wrd v (i / 64) ||| 2 ^ (i % 64)) = words k (withB v i) := by
  refine words_set hi (fun _ => true) (fun j => ?_) (Nat.or_lt_two_pow (wrd_lt _ _) (Nat.pow_lt_pow_right (by omega) (Nat.mod_lt _ (by omega)))) (fun j => ?_)
  · rw [Nat.testBit_or, bit_pow]
    by_cases h : j = i % 64 <;> simp [h]
  · rw [withB_bit]
    by_cases h : j = i <;> simp [h]
theorem words_without {k v i : Nat} (hi : i < 64 * k) : (words k v).set (i / 64) (minus (wrd v (i / 64)) (2 ^ (i % 64))) = words k (minus v (2 ^ i)) := by
  refine words_set hi (fun _ => false) (fun j => ?_) ?_ (fun j => ?_)
  · rw [minus_bit, bit_pow]
    by_cases h : j = i % 64 <;> simp [h]
  · refine Nat.lt_of_le_of_lt ?_ (wrd_lt v (i / 64))
    refine Nat.le_of_testBit fun j hj => ?_
    rw [minus_bit] at hj
    simp only [Bool.and_eq_true] at hj
    exact hj.1
  · rw [minus_bit, bit_pow]
    by_cases h : j = i <;> simp [h]
theorem wrd_zero (i : Nat) : wrd 0 i = 0 := by simp [wrd]
theorem words_zero (k : Nat) : words k 0 = List.replicate k 0 := by
  refine List.ext_getElem (by simp [words_length]) fun i h1 h2 => ?_
  simp [words, wrd_zero]
theorem words_more {k k' v : Nat} (h : v < 2 ^ (64 * k)) (hk : k ≤ k') : words k v ++ List.replicate (k' - k) 0 = words k' v := by
  refine words_ext (by simp [words_length]; omega) fun i hi => ?_
  rw [List.getD_eq_getElem?_getD]
  by_cases hik : i < k
  · rw [List.getElem?_append_left (by rw [words_length]; exact hik), words_get _ _ _ hik]
    try rfl
  · rw [List.getElem?_append_right (by rw [words_length]; omega), words_length, List.getElem?_replicate]
    have : wrd v i = 0 := by
      unfold wrd
      rw [Nat.div_eq_of_lt (Nat.lt_of_lt_of_le h (Nat.pow_le_pow_right (by omega) (by omega)))]
    rw [this]
    split <;> rfl
/-! ### As the program's words -/
theorem ofInt_toNat {a : Nat} (h : a < 2 ^ 64) : (BitVec.ofInt 64 (a : Int)).toNat = a := by
  rw [BitVec.ofInt_natCast, BitVec.toNat_ofNat]
  exact Nat.mod_eq_of_lt h
theorem wrap_u64_nat {a : Nat} (h : a < 2 ^ 64) : IntKind.u64.wrap (a : Int) = a := by
  simp only [IntKind.wrap, IntKind.signed, IntKind.bits]
  simp
  omega
theorem bits_or {a b : Nat} (ha : a < 2 ^ 64) (hb : b < 2 ^ 64) : bitsI .or .u64 (a : Int) (b : Int) = some ((a ||| b : Nat) : Int) := by
  show some (IntKind.u64.wrap ((BitVec.ofInt 64 (a : Int) ||| BitVec.ofInt 64 (b : Int)).toNat : Int)) = _
  rw [BitVec.toNat_or, ofInt_toNat ha, ofInt_toNat hb, wrap_u64_nat (Nat.or_lt_two_pow ha hb)]
theorem bits_and {a b : Nat} (ha : a < 2 ^ 64) (hb : b < 2 ^ 64) : bitsI .and .u64 (a : Int) (b : Int) = some ((a &&& b : Nat) : Int) := by
  show some (IntKind.u64.wrap ((BitVec.ofInt 64 (a : Int) &&& BitVec.ofInt 64 (b : Int)).toNat : Int)) = _
  rw [BitVec.toNat_and, ofInt_toNat ha, ofInt_toNat hb, wrap_u64_nat (Nat.and_lt_two_pow _ hb)]
theorem minus_le (v u : Nat) : minus v u ≤ v := by
  refine Nat.le_of_testBit fun j hj => ?_
  rw [minus_bit] at hj
  simp only [Bool.and_eq_true] at hj
  exact hj.1
theorem bits_andNot {a b : Nat} (ha : a < 2 ^ 64) (hb : b < 2 ^ 64) : bitsI .andNot .u64 (a : Int) (b : Int) = some ((minus a b : Nat) : Int) := by
  show some (IntKind.u64.wrap ((BitVec.ofInt 64 (a : Int) &&& ~~~BitVec.ofInt 64 (b : Int)).toNat : Int)) = _
  have : (BitVec.ofInt 64 (a : Int) &&& ~~~BitVec.ofInt 64 (b : Int)).toNat = minus a b := by
    refine Nat.eq_of_testBit_eq fun j => ?_
    rw [minus_bit]
    show (BitVec.ofInt 64 (a : Int) &&& ~~~BitVec.ofInt 64 (b : Int)).getLsbD j = _
    rw [BitVec.getLsbD_and, BitVec.getLsbD_not]
    unfold BitVec.getLsbD
    rw [ofInt_toNat ha, ofInt_toNat hb]
    by_cases hj : j < 64
    · simp [hj]
    · rw [Nat.testBit_lt_two_pow (Nat.lt_of_lt_of_le ha (Nat.pow_le_pow_right (by omega) (by omega)))]
      simp
  rw [this, wrap_u64_nat (Nat.lt_of_le_of_lt (minus_le a b) ha)]
theorem shl_one {i : Nat} (h : i < 64) : shiftI .shl .u64 1 (i : Int) = some (.int .u64 ((2 ^ i : Nat) : Int)) := by
  unfold shiftI
  rw [if_neg (by omega)]
  simp only [IntKind.bits, Int.toNat_natCast]
  rw [Nat.min_eq_left (by omega), Int.one_mul]
  have := wrap_u64_nat (Nat.pow_lt_pow_right (a := 2) (by omega) h)
  rw [show (2 : Int) ^ i = ((2 ^ i : Nat) : Int) by simp, this]
theorem shr_nat {a i : Nat} (h : i < 64) : shiftI .shr .u64 (a : Int) (i : Int) = some (.int .u64 ((a / 2 ^ i : Nat) : Int)) := by
  unfold shiftI
  rw [if_neg (by omega)]
  simp only [IntKind.bits, Int.toNat_natCast]
  rw [Nat.min_eq_left (by omega)]
  congr 2
  rw [Int.fdiv_eq_ediv_of_nonneg _ (Int.pow_nonneg (by omega))]
  simp
end Go.Vm
end
section
/- How many digits of a number of 64 digits are ones, as the library counts them. -/
set_option linter.unusedSimpArgs false
set_option linter.unusedVariables false
namespace Go.Vm
open Go
def pop : Nat → Nat → Nat
  | 0, _ => 0
  | k + 1, x => x % 2 + pop k (x / 2)
theorem and_split (n a r b s : Nat) (hr : r < 2 ^ n) (hs : s < 2 ^ n) : (2 ^ n * a + r) &&& (2 ^ n * b + s) = 2 ^ n * (a &&& b) + (r &&& s) := by
  have h : r &&& s < 2 ^ n := Nat.and_lt_two_pow _ hs
  refine Nat.eq_of_testBit_eq fun j => ?_
  rw [Nat.testBit_and, Nat.testBit_two_pow_mul_add _ hr, Nat.testBit_two_pow_mul_add _ hs, Nat.testBit_two_pow_mul_add _ h]
  split <;> rw [Nat.testBit_and]
def rep (c : Nat) : Nat → Nat
  | 0 => 0
  | k + 1 => 256 * rep c k + c
def p1 (r : Nat) : Nat := (r / 2 &&& 85) + (r &&& 85)
def p2 (r : Nat) : Nat := (r / 4 &&& 51) + (r &&& 51)
def p3 (r : Nat) : Nat := (r / 16 + r) &&& 15
def byt (f : Nat → Nat) : Nat → Nat → Nat
  | 0, _ => 0
  | k + 1, x => 256 * byt f k (x / 256) + f (x % 256)
theorem byt_succ (f : Nat → Nat) (k x : Nat) : byt f (k + 1) x = 256 * byt f k (x / 256) + f (x % 256) := rfl
theorem pop_succ (k x : Nat) : pop (k + 1) x = x % 2 + pop k (x / 2) := rfl
theorem s1 : ∀ (k x : Nat), x < 256 ^ k → (x / 2 &&& rep 85 k) + (x &&& rep 85 k) = byt p1 k x
  | 0, x, h => by simp [rep, byt]
  | k + 1, x, h => by
    have ih := s1 k (x / 256) (by rw [Nat.pow_succ] at h; omega)
    have e1 : x = 2 ^ 8 * (x / 256) + x % 256 := by omega
    have e2 : x / 2 = 2 ^ 8 * (x / 256 / 2) + (128 * (x / 256 % 2) + x % 256 / 2) := by omega
    have key : ∀ (t : Fin 2) (r : Fin 256), ((128 * t.val + r.val / 2) &&& 85) = (r.val / 2 &&& 85) := by decide +kernel
    have hk := key ⟨x / 256 % 2, by omega⟩ ⟨x % 256, by omega⟩
    simp only at hk
    unfold rep byt
    have hx1 : x / 2 &&& (256 * rep 85 k + 85) = 2 ^ 8 * (x / 256 / 2 &&& rep 85 k) + (x % 256 / 2 &&& 85) := by
      conv => lhs; rw [e2]
      rw [show 256 * rep 85 k + 85 = 2 ^ 8 * rep 85 k + 85 by omega, and_split 8 _ _ _ _ (by omega) (by omega), hk]
    have hx2 : x &&& (256 * rep 85 k + 85) = 2 ^ 8 * (x / 256 &&& rep 85 k) + (x % 256 &&& 85) := by
      conv => lhs; rw [e1]
      rw [show 256 * rep 85 k + 85 = 2 ^ 8 * rep 85 k + 85 by omega, and_split 8 _ _ _ _ (by omega) (by omega)]
    rw [hx1, hx2, ← ih]
    unfold p1
    omega
theorem s2 : ∀ (k x : Nat), x < 256 ^ k → (x / 4 &&& rep 51 k) + (x &&& rep 51 k) = byt p2 k x
  | 0, x, h => by simp [rep, byt]
  | k + 1, x, h => by
    have ih := s2 k (x / 256) (by rw [Nat.pow_succ] at h; omega)
    have e1 : x = 2 ^ 8 * (x / 256) + x % 256 := by omega
    have e2 : x / 4 = 2 ^ 8 * (x / 256 / 4) + (64 * (x / 256 % 4) + x % 256 / 4) := by omega
    have key : ∀ (t : Fin 4) (r : Fin 256), ((64 * t.val + r.val / 4) &&& 51) = (r.val / 4 &&& 51) := by decide +kernel
    have hk := key ⟨x / 256 % 4, by omega⟩ ⟨x % 256, by omega⟩
    simp only at hk
    unfold rep byt
    have hx1 : x / 4 &&& (256 * rep 51 k + 51) = 2 ^ 8 * (x / 256 / 4 &&& rep 51 k) + (x % 256 / 4 &&& 51) := by
      conv => lhs; rw [e2]
      rw [show 256 * rep 51 k + 51 = 2 ^ 8 * rep 51 k + 51 by omega, and_split 8 _ _ _ _ (by omega) (by omega), hk]
    have hx2 : x &&& (256 * rep 51 k + 51) = 2 ^ 8 * (x / 256 &&& rep 51 k) + (x % 256 &&& 51) := by
      conv => lhs; rw [e1]
      rw [show 256 * rep 51 k + 51 = 2 ^ 8 * rep 51 k + 51 by omega, and_split 8 _ _ _ _ (by omega) (by omega)]
    rw [hx1, hx2, ← ih]
    unfold p2
    omega
def nib : Nat → Nat → Prop
  | 0, x => x = 0
  | k + 1, x => x % 16 ≤ 4 ∧ x % 256 / 16 ≤ 4 ∧ nib k (x / 256)
theorem nib_lo : ∀ {k x : Nat}, nib k x → x % 16 ≤ 4
  | 0, x, h => by simp [nib] at h; omega
  | k + 1, x, h => h.1
theorem s3 : ∀ (k x : Nat), nib k x → (x / 16 + x) &&& rep 15 k = byt p3 k x
  | 0, x, h => by simp [rep, byt]
  | k + 1, x, h => by
    obtain ⟨h1, h2, h3⟩ := h
    have ih := s3 k (x / 256) h3
    have hl := nib_lo h3
    have e2 : x / 16 + x = 2 ^ 8 * (x / 256 / 16 + x / 256) + (16 * (x / 256 % 16) + (x % 256 / 16 + x % 256)) := by omega
    have hb : 16 * (x / 256 % 16) + (x % 256 / 16 + x % 256) < 2 ^ 8 := by omega
    have hk : (16 * (x / 256 % 16) + (x % 256 / 16 + x % 256)) &&& 15 = (x % 256 / 16 + x % 256) &&& 15 := by
      rw [show (15 : Nat) = 2 ^ 4 - 1 from rfl, Nat.and_two_pow_sub_one_eq_mod, Nat.and_two_pow_sub_one_eq_mod]
      omega
    unfold rep byt
    conv => lhs; rw [e2]
    rw [show 256 * rep 15 k + 15 = 2 ^ 8 * rep 15 k + 15 by omega, and_split 8 _ _ _ _ hb (by omega), hk, ih]
    rfl
theorem byt_nib : ∀ (k x : Nat), nib k (byt p2 k (byt p1 k x))
  | 0, x => rfl
  | k + 1, x => by
    have key : ∀ r : Fin 256, p1 r.val < 256 ∧ p2 (p1 r.val) % 16 ≤ 4 ∧ p2 (p1 r.val) / 16 ≤ 4 ∧ p2 (p1 r.val) < 256 := by decide +kernel
    have h := key ⟨x % 256, by omega⟩
    simp only at h
    have ih := byt_nib k (x / 256)
    rw [byt_succ p1, byt_succ p2, show (256 * byt p1 k (x / 256) + p1 (x % 256)) / 256 = byt p1 k (x / 256) by omega, show (256 * byt p1 k (x / 256) + p1 (x % 256)) % 256 = p1 (x % 256) by omega]
    refine ⟨by omega, by omega, ?_⟩
    rw [show (256 * byt p2 k (byt p1 k (x / 256)) + p2 (p1 (x % 256))) / 256 = byt p2 k (byt p1 k (x / 256)) by omega]
    exact ih
theorem byt_all : ∀ (k x : Nat), byt p3 k (byt p2 k (byt p1 k x)) = byt (pop 8) k x
  | 0, x => rfl
  | k + 1, x => by
    have key : ∀ r : Fin 256, p1 r.val < 256 ∧ p2 (p1 r.val) < 256 ∧ p3 (p2 (p1 r.val)) = pop 8 r.val := by decide +kernel
    have h := key ⟨x % 256, by omega⟩
    simp only at h
    have ih := byt_all k (x / 256)
    rw [byt_succ p1, byt_succ p2, byt_succ p3, byt_succ (pop 8), show (256 * byt p1 k (x / 256) + p1 (x % 256)) / 256 = byt p1 k (x / 256) by omega, show (256 * byt p1 k (x / 256) + p1 (x % 256)) % 256 = p1 (x % 256) by omega,
      show (256 * byt p2 k (byt p1 k (x / 256)) + p2 (p1 (x % 256))) / 256 = byt p2 k (byt p1 k (x / 256)) by omega, show (256 * byt p2 k (byt p1 k (x / 256)) + p2 (p1 (x % 256))) % 256 = p2 (p1 (x % 256)) by omega, ih, h.2.2]
theorem byt_lt (f : Nat → Nat) (hf : ∀ r, r < 256 → f r < 256) : ∀ (k x : Nat), byt f k x < 256 ^ k
  | 0, x => by simp [byt]
  | k + 1, x => by
    have ih := byt_lt f hf k (x / 256)
    have := hf (x % 256) (by omega)
    unfold byt
    rw [Nat.pow_succ]
    omega
theorem pop_mod : ∀ (k j x : Nat), k ≤ j → pop k (x % 2 ^ j) = pop k x
  | 0, j, x, _ => rfl
  | k + 1, j, x, h => by
    obtain ⟨j, rfl⟩ : ∃ i, j = i + 1 := ⟨j - 1, by omega⟩
    have ih := pop_mod k j (x / 2) (by omega)
    rw [pop_succ, pop_succ]
    have e1 : x % 2 ^ (j + 1) % 2 = x % 2 := Nat.mod_mod_of_dvd _ ⟨2 ^ j, by rw [Nat.pow_succ, Nat.mul_comm]⟩
    have e2 : x % 2 ^ (j + 1) / 2 = x / 2 % 2 ^ j := by
      rw [Nat.pow_succ, Nat.mul_comm, Nat.mod_mul_right_div_self]
    rw [e1, e2, ih]
theorem pop_add : ∀ (k j x : Nat), pop (k + j) x = pop k x + pop j (x / 2 ^ k)
  | 0, j, x => by simp [pop]
  | k + 1, j, x => by
    rw [show k + 1 + j = (k + j) + 1 by omega, pop_succ, pop_succ]
    rw [pop_add k j (x / 2), Nat.div_div_eq_div_mul, show 2 * 2 ^ k = 2 ^ (k + 1) by rw [Nat.pow_succ, Nat.mul_comm]]
    omega
theorem pop_le : ∀ (k x : Nat), pop k x ≤ k
  | 0, x => Nat.le_refl _
  | k + 1, x => by
    have := pop_le k (x / 2)
    unfold pop
    omega
set_option linter.unusedSectionVars false
theorem rep1 : rep 1 8 = 72340172838076673 := by decide
theorem byt_le (f : Nat → Nat) (c : Nat) (hf : ∀ r, r < 256 → f r ≤ c) : ∀ (k x : Nat), byt f k x ≤ c * rep 1 k
  | 0, x => by simp [byt]
  | k + 1, x => by
    have ih := byt_le f c hf k (x / 256)
    have := hf (x % 256) (by omega)
    rw [byt_succ]
    show _ ≤ c * (256 * rep 1 k + 1)
    rw [Nat.mul_add, Nat.mul_left_comm]
    omega
section
variable {c0 c1 c2 c3 c4 c5 c6 c7 : Nat}
theorem sum_d : (c0 + 256 * (c1 + 256 * (c2 + 256 * (c3 + 256 * (c4 + 256 * (c5 + 256 * (c6 + 256 * c7))))))) + (c1 + 256 * (c2 + 256 * (c3 + 256 * (c4 + 256 * (c5 + 256 * (c6 + 256 * c7)))))) = (c0 + c1) + 256 * ((c1 + c2) + 256 * ((c2 + c3) + 256 * ((c3 + c4) + 256 * ((c4 + c5) + 256 * ((c5 + c6) + 256 * ((c6 + c7) + 256 * c7)))))) := by omega
theorem sum_d2 : (c0 + c1) + 256 * ((c1 + c2) + 256 * ((c2 + c3) + 256 * ((c3 + c4) + 256 * ((c4 + c5) + 256 * ((c5 + c6) + 256 * ((c6 + c7) + 256 * c7)))))) = ((c0 + c1) + 256 * (c1 + c2)) + 65536 * ((c2 + c3) + 256 * ((c3 + c4) + 256 * ((c4 + c5) + 256 * ((c5 + c6) + 256 * ((c6 + c7) + 256 * c7))))) := by omega
theorem sum_e : ((c0 + c1) + 256 * ((c1 + c2) + 256 * ((c2 + c3) + 256 * ((c3 + c4) + 256 * ((c4 + c5) + 256 * ((c5 + c6) + 256 * ((c6 + c7) + 256 * c7))))))) + ((c2 + c3) + 256 * ((c3 + c4) + 256 * ((c4 + c5) + 256 * ((c5 + c6) + 256 * ((c6 + c7) + 256 * c7))))) = (c0 + c1 + c2 + c3) + 256 * ((c1 + c2 + c3 + c4) + 256 * ((c2 + c3 + c4 + c5) + 256 * ((c3 + c4 + c5 + c6) + 256 * ((c4 + c5 + c6 + c7) + 256 * ((c5 + c6 + c7) + 256 * ((c6 + c7) + 256 * c7)))))) := by omega
theorem sum_e2 : (c0 + c1 + c2 + c3) + 256 * ((c1 + c2 + c3 + c4) + 256 * ((c2 + c3 + c4 + c5) + 256 * ((c3 + c4 + c5 + c6) + 256 * ((c4 + c5 + c6 + c7) + 256 * ((c5 + c6 + c7) + 256 * ((c6 + c7) + 256 * c7)))))) = ((c0 + c1 + c2 + c3) + 256 * ((c1 + c2 + c3 + c4) + 256 * ((c2 + c3 + c4 + c5) + 256 * (c3 + c4 + c5 + c6)))) + 4294967296 * ((c4 + c5 + c6 + c7) + 256 * ((c5 + c6 + c7) + 256 * ((c6 + c7) + 256 * c7))) := by omega
theorem sum_f : ((c0 + c1 + c2 + c3) + 256 * ((c1 + c2 + c3 + c4) + 256 * ((c2 + c3 + c4 + c5) + 256 * ((c3 + c4 + c5 + c6) + 256 * ((c4 + c5 + c6 + c7) + 256 * ((c5 + c6 + c7) + 256 * ((c6 + c7) + 256 * c7))))))) + ((c4 + c5 + c6 + c7) + 256 * ((c5 + c6 + c7) + 256 * ((c6 + c7) + 256 * c7))) = (c0 + c1 + c2 + c3 + c4 + c5 + c6 + c7) + 128 * (2 * ((c1 + c2 + c3 + c4 + c5 + c6 + c7) + 256 * ((c2 + c3 + c4 + c5 + c6 + c7) + 256 * ((c3 + c4 + c5 + c6 + c7) + 256 * ((c4 + c5 + c6 + c7) + 256 * ((c5 + c6 + c7) + 256 * ((c6 + c7) + 256 * c7))))))) := by omega
variable (q0 : c0 ≤ 8) (q1 : c1 ≤ 8) (q2 : c2 ≤ 8) (q3 : c3 ≤ 8) (q4 : c4 ≤ 8) (q5 : c5 ≤ 8) (q6 : c6 ≤ 8) (q7 : c7 ≤ 8)
include q0 q1 q2 q3 q4 q5 q6 q7
theorem lt_c : c0 + 256 * (c1 + 256 * (c2 + 256 * (c3 + 256 * (c4 + 256 * (c5 + 256 * (c6 + 256 * c7)))))) < 2 ^ 63 := by omega
theorem lt_d : (c0 + c1) + 256 * ((c1 + c2) + 256 * ((c2 + c3) + 256 * ((c3 + c4) + 256 * ((c4 + c5) + 256 * ((c5 + c6) + 256 * ((c6 + c7) + 256 * c7)))))) < 2 ^ 63 := by omega
theorem lt_e : (c0 + c1 + c2 + c3) + 256 * ((c1 + c2 + c3 + c4) + 256 * ((c2 + c3 + c4 + c5) + 256 * ((c3 + c4 + c5 + c6) + 256 * ((c4 + c5 + c6 + c7) + 256 * ((c5 + c6 + c7) + 256 * ((c6 + c7) + 256 * c7)))))) < 2 ^ 63 := by omega
theorem lt_f : (c0 + c1 + c2 + c3 + c4 + c5 + c6 + c7) + 128 * (2 * ((c1 + c2 + c3 + c4 + c5 + c6 + c7) + 256 * ((c2 + c3 + c4 + c5 + c6 + c7) + 256 * ((c3 + c4 + c5 + c6 + c7) + 256 * ((c4 + c5 + c6 + c7) + 256 * ((c5 + c6 + c7) + 256 * ((c6 + c7) + 256 * c7))))))) < 2 ^ 63 := by omega
theorem lt_s : c0 + c1 + c2 + c3 + c4 + c5 + c6 + c7 < 128 := by omega
theorem lt_2 : (c0 + c1) + 256 * (c1 + c2) < 65536 := by omega
theorem lt_4 : (c0 + c1 + c2 + c3) + 256 * ((c1 + c2 + c3 + c4) + 256 * ((c2 + c3 + c4 + c5) + 256 * (c3 + c4 + c5 + c6))) < 4294967296 := by omega
theorem lt_0 : c0 < 256 := by omega
theorem sums8 (c d e f : Nat) (hc : c = c0 + 256 * (c1 + 256 * (c2 + 256 * (c3 + 256 * (c4 + 256 * (c5 + 256 * (c6 + 256 * c7))))))) (hd : d = c + c / 256) (he : e = d + d / 65536) (hf : f = e + e / 4294967296) :
    c < 2 ^ 63 ∧ d < 2 ^ 63 ∧ e < 2 ^ 63 ∧ f < 2 ^ 63 ∧ f % 128 = c0 + c1 + c2 + c3 + c4 + c5 + c6 + c7 := by
  rw [hc, Nat.add_mul_div_left _ _ (by decide), Nat.div_eq_of_lt (lt_0 q0 q1 q2 q3 q4 q5 q6 q7), Nat.zero_add, sum_d] at hd
  have hd2 := hd
  rw [sum_d2] at hd2
  rw [hd2, Nat.add_mul_div_left _ _ (by decide), Nat.div_eq_of_lt (lt_2 q0 q1 q2 q3 q4 q5 q6 q7), Nat.zero_add, ← hd2, hd, sum_e] at he
  have he2 := he
  rw [sum_e2] at he2
  rw [he2, Nat.add_mul_div_left _ _ (by decide), Nat.div_eq_of_lt (lt_4 q0 q1 q2 q3 q4 q5 q6 q7), Nat.zero_add, ← he2, he, sum_f] at hf
  refine ⟨by rw [hc]; exact lt_c q0 q1 q2 q3 q4 q5 q6 q7, by rw [hd]; exact lt_d q0 q1 q2 q3 q4 q5 q6 q7, by rw [he]; exact lt_e q0 q1 q2 q3 q4 q5 q6 q7, by rw [hf]; exact lt_f q0 q1 q2 q3 q4 q5 q6 q7, ?_⟩
  rw [hf, Nat.add_mul_mod_self_left, Nat.mod_eq_of_lt (lt_s q0 q1 q2 q3 q4 q5 q6 q7)]
end
theorem pop64 (x a b c d e f : Nat) (h : x < 2 ^ 64) (ha : a = (x / 2 &&& 6148914691236517205) + (x &&& 6148914691236517205)) (hb : b = (a / 4 &&& 3689348814741910323) + (a &&& 3689348814741910323)) (hc : c = (b / 16 + b) &&& 1085102592571150095)
    (hd : d = c + c / 256) (he : e = d + d / 65536) (hf : f = e + e / 4294967296) : a < 2 ^ 64 ∧ b < 2 ^ 63 ∧ c < 2 ^ 63 ∧ d < 2 ^ 63 ∧ e < 2 ^ 63 ∧ f < 2 ^ 63 ∧ f % 128 = pop 64 x := by
  have ha1 : a = byt p1 8 x := ha.trans (s1 8 x (by rw [show (256 : Nat) ^ 8 = 2 ^ 64 by decide]; exact h))
  have k1 : ∀ r : Fin 256, p1 r.val < 256 ∧ p2 r.val ≤ 102 := by decide +kernel
  have ha2 : a < 2 ^ 64 := by rw [ha1]; exact byt_lt p1 (fun r hr => (k1 ⟨r, hr⟩).1) 8 x
  have hb1 : b = byt p2 8 a := hb.trans (s2 8 a (by rw [show (256 : Nat) ^ 8 = 2 ^ 64 by decide]; exact ha2))
  have hb2 : b < 2 ^ 63 := by
    have := byt_le p2 102 (fun r hr => (k1 ⟨r, hr⟩).2) 8 a
    rw [rep1, ← hb1] at this
    exact Nat.lt_of_le_of_lt this (by decide)
  have hn : nib 8 b := by rw [hb1, ha1]; exact byt_nib 8 x
  have hc1 : c = byt (pop 8) 8 x := by
    rw [hc, show (1085102592571150095 : Nat) = rep 15 8 by decide, s3 8 b hn, hb1, ha1]
    exact byt_all 8 x
  have p8 : ∀ y, pop 8 y ≤ 8 := pop_le 8
  have hp : pop 64 x = pop 8 (x % 256) + pop 8 (x / 256 % 256) + pop 8 (x / 256 / 256 % 256) + pop 8 (x / 256 / 256 / 256 % 256) + pop 8 (x / 256 / 256 / 256 / 256 % 256) + pop 8 (x / 256 / 256 / 256 / 256 / 256 % 256) + pop 8 (x / 256 / 256 / 256 / 256 / 256 / 256 % 256) + pop 8 (x / 256 / 256 / 256 / 256 / 256 / 256 / 256 % 256) := by
    have m : ∀ y, pop 8 (y % 256) = pop 8 y := fun y => pop_mod 8 8 y (Nat.le_refl _)
    simp only [m]
    have a8 : ∀ j y, pop (8 + j) y = pop 8 y + pop j (y / 256) := fun j y => pop_add 8 j y
    rw [show (64 : Nat) = 8 + (8 + (8 + (8 + (8 + (8 + (8 + (8 + 0))))))) from rfl, a8, a8, a8, a8, a8, a8, a8, a8]
    simp only [show ∀ y, pop 0 y = 0 from fun _ => rfl, Nat.add_zero, Nat.add_assoc]
  have hc2 : c = pop 8 (x % 256) + 256 * (pop 8 (x / 256 % 256) + 256 * (pop 8 (x / 256 / 256 % 256) + 256 * (pop 8 (x / 256 / 256 / 256 % 256) + 256 * (pop 8 (x / 256 / 256 / 256 / 256 % 256) + 256 * (pop 8 (x / 256 / 256 / 256 / 256 / 256 % 256) + 256 * (pop 8 (x / 256 / 256 / 256 / 256 / 256 / 256 % 256) + 256 * pop 8 (x / 256 / 256 / 256 / 256 / 256 / 256 / 256 % 256))))))) := by
    rw [hc1]
    simp only [byt_succ, show ∀ y, byt (pop 8) 0 y = 0 from fun _ => rfl, Nat.mul_zero, Nat.zero_add, Nat.add_comm]
  obtain ⟨r1, r2, r3, r4, r5⟩ := sums8 (p8 _) (p8 _) (p8 _) (p8 _) (p8 _) (p8 _) (p8 _) (p8 _) c d e f hc2 hd he hf
  exact ⟨ha2, hb2, r1, r2, r3, r4, by rw [r5, hp]⟩
end Go.Vm
end
section
/- Sets of small numbers: which may be, and what they are. -/
set_option linter.unusedSimpArgs false
set_option linter.unusedVariables false
namespace Go.Vm
open Go
def wN (n : Int) : Nat := ((n + 63) / 64).toNat
abbrev W64 (ws : List Nat) : Prop := ∀ w ∈ ws, w < 2 ^ 64
def bSane (n : Int) (ws : List Nat) : Bool := decide (0 ≤ n ∧ n ≤ 1024 ∧ ws.length = wN n ∧ val ws < 2 ^ n.toNat)
def nN (n : Int) (ws : List Nat) : Int := if bSane n ws then n else 0
def vN (n : Int) (ws : List Nat) : Nat := if bSane n ws then val ws else 0
abbrev sv (n : Int) (ws : List Nat) : PV := .agg [.int .i64 n, .sl (u64s ws)]
abbrev mk (n : Int) (v : Nat) : PV := sv n (words (wN n) v)
theorem bSane_iff {n : Int} {ws : List Nat} : bSane n ws = true ↔ 0 ≤ n ∧ n ≤ 1024 ∧ ws.length = wN n ∧ val ws < 2 ^ n.toNat := by simp [bSane]
theorem nN_r (n : Int) (ws : List Nat) : 0 ≤ nN n ws ∧ nN n ws ≤ 1024 := by
  unfold nN
  split
  · rename_i h; have := bSane_iff.1 h; omega
  · omega
theorem vN_lt (n : Int) (ws : List Nat) : vN n ws < 2 ^ (nN n ws).toNat := by
  unfold nN vN
  split
  · rename_i h; exact (bSane_iff.1 h).2.2.2
  · exact Nat.two_pow_pos _
theorem wN_le {n : Int} (h : 0 ≤ n) : n.toNat ≤ 64 * wN n := by unfold wN; omega
theorem wN_mono {n m : Int} (h : n ≤ m) : wN n ≤ wN m := by unfold wN; omega
theorem wN_small {n : Int} (h : n ≤ 1024) : wN n ≤ 16 := by unfold wN; omega
theorem lt_words {n : Int} {v : Nat} (h0 : 0 ≤ n) (h : v < 2 ^ n.toNat) : v < 2 ^ (64 * wN n) := Nat.lt_of_lt_of_le h (Nat.pow_le_pow_right (by omega) (wN_le h0))
theorem mk_sane {n : Int} {v : Nat} (h0 : 0 ≤ n) (h1 : n ≤ 1024) (h : v < 2 ^ n.toNat) : bSane n (words (wN n) v) = true := bSane_iff.2 ⟨h0, h1, words_length _ _, by rw [val_words (lt_words h0 h)]; exact h⟩
theorem nN_mk {n : Int} {v : Nat} (h0 : 0 ≤ n) (h1 : n ≤ 1024) (h : v < 2 ^ n.toNat) : nN n (words (wN n) v) = n := by unfold nN; rw [if_pos (mk_sane h0 h1 h)]
theorem vN_mk {n : Int} {v : Nat} (h0 : 0 ≤ n) (h1 : n ≤ 1024) (h : v < 2 ^ n.toNat) : vN n (words (wN n) v) = v := by unfold vN; rw [if_pos (mk_sane h0 h1 h), val_words (lt_words h0 h)]
theorem sane_words {n : Int} {ws : List Nat} (hw : W64 ws) (h : bSane n ws = true) : words (wN (nN n ws)) (vN n ws) = ws := by
  have h1 := bSane_iff.1 h
  unfold nN vN
  rw [if_pos h, if_pos h, ← h1.2.2.1]
  exact words_val hw
theorem unsane_nN {n : Int} {ws : List Nat} (h : bSane n ws = false) : nN n ws = 0 := by simp [nN, h]
theorem unsane_vN {n : Int} {ws : List Nat} (h : bSane n ws = false) : vN n ws = 0 := by simp [vN, h]
theorem sane_nN {n : Int} {ws : List Nat} (h : bSane n ws = true) : nN n ws = n := by simp [nN, h]
theorem sane_vN {n : Int} {ws : List Nat} (h : bSane n ws = true) : vN n ws = val ws := by simp [vN, h]
theorem testBit_ge {v k j : Nat} (h : v < 2 ^ k) (hj : k ≤ j) : v.testBit j = false := Nat.testBit_lt_two_pow (Nat.lt_of_lt_of_le h (Nat.pow_le_pow_right (by omega) hj))
theorem last_iff {n : Int} {ws : List Nat} (hw : W64 ws) (h0 : 0 ≤ n) (hl : ws.length = wN n) : (val ws < 2 ^ n.toNat) ↔ (n % 64 = 0 ∨ ws.getD (ws.length - 1) 0 / 2 ^ (n % 64).toNat = 0) := by
  by_cases ho : n % 64 = 0
  · simp only [ho, true_or, iff_true]
    have := val_lt hw
    rw [hl] at this
    rwa [show 64 * wN n = n.toNat by unfold wN; omega] at this
  · simp only [ho, false_or]
    have hk : wN n = n.toNat / 64 + 1 := by unfold wN; omega
    have ho2 : (n % 64).toNat = n.toNat % 64 := by omega
    rw [hl, hk, ho2, Nat.add_sub_cancel]
    have hlt : ws.getD (n.toNat / 64) 0 < 2 ^ 64 := by
      rw [List.getD_eq_getElem?_getD, List.getElem?_eq_getElem (by omega)]
      exact hw _ (List.getElem_mem _)
    rw [Nat.div_eq_zero_iff_lt (Nat.two_pow_pos _)]
    constructor
    · intro h
      refine Nat.lt_pow_two_of_testBit _ fun j hj => ?_
      by_cases hj2 : j < 64
      · have := val_bit hw (64 * (n.toNat / 64) + j)
        rw [show (64 * (n.toNat / 64) + j) / 64 = n.toNat / 64 by omega, show (64 * (n.toNat / 64) + j) % 64 = j by omega] at this
        rw [← this]
        exact testBit_ge h (by omega)
      · exact testBit_ge hlt (by omega)
    · intro h
      refine Nat.lt_pow_two_of_testBit _ fun j hj => ?_
      rw [val_bit hw]
      by_cases hj2 : j / 64 = n.toNat / 64
      · rw [hj2]
        exact testBit_ge h (by omega)
      · rw [List.getD_eq_getElem?_getD, List.getElem?_eq_none (by omega)]
        simp
theorem pop_bit : ∀ (k x : Nat), pop k x = (List.range k).countP (fun i => x.testBit i)
  | 0, x => rfl
  | k + 1, x => by
    rw [pop_succ, pop_bit k (x / 2), List.range_succ_eq_map, List.countP_cons, List.countP_map]
    have : (List.range k).countP ((fun i => x.testBit i) ∘ Nat.succ) = (List.range k).countP (fun i => (x / 2).testBit i) := by
      congr 1
      funext i
      simp [Nat.testBit_succ]
    rw [this, Nat.add_comm]
    congr 1
    rw [Nat.testBit_zero]
    by_cases h : x % 2 = 1 <;> simp [h]; omega
end Go.Vm
end
section
/- Rules for words. -/
set_option linter.unusedSimpArgs false
set_option linter.unusedVariables false
namespace Go.Vm
open Go Go.RowKit
section
variable {P : Program} {gl : Nat → Option PV} {e : Bool} {s : Env} {H : Hp} {l : Nodes} {Q : Env → Hp → Prop} {d : Option Nat} {bf : Nat}
theorem n_bin {o : BinOp} {x y : RO} {p q r : PV} (hx : x.ev gl s = some p) (hy : y.ev gl s = some q) (hr : binP o p q = some r) (kk : WN P gl e l (s.put d (some r)) H Q) : WN P gl e (.op d (.bin o x y) bf l) s H Q := by
  refine n_val rfl ?_ kk
  simp only [stepN, hx, hy, Option.bind_eq_bind, Option.bind_some, hr, Option.pure_def]
theorem n_min {x y : RO} {k : IntKind} {a b : Int} (hx : x.ev gl s = some (.int k a)) (hy : y.ev gl s = some (.int k b)) (kk : WN P gl e l (s.put d (some (.int k (min a b)))) H Q) : WN P gl e (.op d (.mm false x [y]) bf l) s H Q := by
  refine n_val (r := .int k (min a b)) rfl ?_ kk
  simp only [stepN, hx, hy, evs, mm2, mmL, Option.bind_eq_bind, Option.bind_some, Option.pure_def, Bool.false_eq_true, if_false, List.foldlM_cons, List.foldlM_nil]
  congr 3
  omega
theorem n_max {x y : RO} {k : IntKind} {a b : Int} (hx : x.ev gl s = some (.int k a)) (hy : y.ev gl s = some (.int k b)) (kk : WN P gl e l (s.put d (some (.int k (max a b)))) H Q) : WN P gl e (.op d (.mm true x [y]) bf l) s H Q := by
  refine n_val (r := .int k (max a b)) rfl ?_ kk
  simp only [stepN, hx, hy, evs, mm2, mmL, Option.bind_eq_bind, Option.bind_some, Option.pure_def, if_true, List.foldlM_cons, List.foldlM_nil]
  congr 3
  omega
theorem n_conv {x : RO} {k0 k : IntKind} {a b : Int} (hx : x.ev gl s = some (.int k0 a)) (hr : k.wrap a = b) (kk : WN P gl e l (s.put d (some (.int k b))) H Q) : WN P gl e (.op d (.conv k x) bf l) s H Q := by
  refine n_val rfl ?_ kk
  simp only [stepN, hx, Option.bind_eq_bind, Option.bind_some, hr]
theorem n_idx_u64 {x i : RO} {k : IntKind} {ws : List Nat} {c : Int} (hx : x.ev gl s = some (.sl (u64s ws))) (hi : i.ev gl s = some (.int k c)) (h : 0 ≤ c ∧ c < ws.length) (kk : WN P gl e l (s.put d (some (.fptr [.int .u64 (ws.getD c.toNat 0 : Nat)]))) H Q) : WN P gl e (.op d (.idxAddr 1 x i) bf l) s H Q := by
  have hl : c.toNat < ws.length := by omega
  refine n_idx_sl (y := .int .u64 (ws.getD c.toNat 0 : Nat)) hx hi h.1 ?_ rfl kk
  rw [u64s_get, List.getElem?_eq_getElem hl]
  simp [hl]
theorem n_idx_own {sz b g len : Nat} {x i : RO} {k : IntKind} {xs : List PV} {c : Int} (hx : x.ev gl s = some (.ref b g 0 len)) (hi : i.ev gl s = some (.int k c)) (hb : H.f b = some ⟨g, sz, xs⟩) (h0 : 0 ≤ c ∧ c < len) (kk : WN P gl e l (s.put d (some (.ptr b g c.toNat 0))) H Q) : WN P gl e (.op d (.idxAddr sz x i) bf l) s H Q :=
  n_idx_ref hx hi hb h0 (by rw [Nat.zero_add]; exact kk)
theorem n_load_u64 {x : RO} {b g i sz : Nat} {ws : List Nat} (hx : x.ev gl s = some (.ptr b g i 0)) (hb : H.f b = some ⟨g, sz, u64s ws⟩) (h : i < ws.length) (kk : WN P gl e l (s.put d (some (.int .u64 (ws.getD i 0 : Nat)))) H Q) : WN P gl e (.op d (.load none x) bf l) s H Q := by
  refine n_load_at (y := .int .u64 (ws.getD i 0 : Nat)) hx hb ?_ rfl kk
  rw [u64s_get, List.getElem?_eq_getElem h]
  simp [h]
theorem n_store_u64 {b g i sz : Nat} {x v : RO} {w : Nat} {ws : List Nat} (hx : x.ev gl s = some (.ptr b g i 0)) (hv : v.ev gl s = some (.int .u64 (w : Int))) (hb : H.f b = some ⟨g, sz, u64s ws⟩) (h : i < ws.length) (k : WN P gl e l (s.put d none) (H.set b ⟨g, sz, u64s (ws.set i w)⟩) Q) : WN P gl e (.op d (.store 1 x v) bf l) s H Q := by
  refine n_store (xs' := u64s (ws.set i w)) hx hv hb rfl ?_ k
  have : (u64s ws)[i]? = some (.int .u64 (ws[i] : Nat)) := by rw [u64s_get, List.getElem?_eq_getElem h]; rfl
  simp only [putAt, this, Option.bind_eq_bind, Option.bind_some]
  rw [if_pos ⟨trivial, rfl⟩, u64s_set]
theorem n_mk64 {x : RO} {c : Int} {n : Nat} (hx : x.ev gl s = some (.int .i64 c)) (hn : H.n = n) (hc : 0 ≤ c ∧ c ≤ 1048576) (k : WN P gl e l (s.put d (some (.ref n 0 0 c.toNat))) (H.add [⟨0, 1, u64s (List.replicate c.toNat 0)⟩]) Q) : WN P gl e (.op d (.mkslice 1 (.int .u64 0) x) bf l) s H Q := by
  refine n_mkslice hx rfl hc hn ?_
  rw [show List.replicate c.toNat (PV.int .u64 0) = u64s (List.replicate c.toNat 0) by simp [u64s]]
  exact k
theorem elems_sl (xs : List PV) : elems H (.sl xs) = some xs := rfl
theorem splice0 {xs c : List Nat} (h : c.length ≤ xs.length) : splice (u64s xs) 0 (u64s c) = u64s (c ++ xs.drop c.length) := by
  simp [splice, u64s, List.map_drop]
theorem n_copy64 {b g len : Nat} {x v : RO} {ys ws : List Nat} (hx : x.ev gl s = some (.ref b g 0 len)) (hv : v.ev gl s = some (.sl (u64s ys))) (hb : H.f b = some ⟨g, 1, u64s ws⟩) (hl : len = ws.length) (hle : ys.length ≤ ws.length)
    (k : WN P gl e l (s.put d (some (.int .i64 (ys.length : Nat)))) (H.set b ⟨g, 1, u64s (ys ++ ws.drop ys.length)⟩) Q) : WN P gl e (.op d (.copy 1 x v) bf l) s H Q := by
  subst hl
  have e : min (u64s ys).length ws.length = ys.length := by rw [u64s_length]; omega
  refine n_copy hx hv hb (elems_sl _) ?_ (by rw [u64s_length]; omega) ?_
  · rw [e]
    rw [List.take_of_length_le (by rw [u64s_length]; omega)]
    exact u64s_cells _
  · rw [e, List.take_of_length_le (by rw [u64s_length]; omega), splice0 hle]
    exact k
end
/-! ### Sums -/
theorem b_add {a b : Int} (h : -9223372036854775808 ≤ a + b ∧ a + b ≤ 9223372036854775807) : binP .add (.int .i64 a) (.int .i64 b) = some (.int .i64 (a + b)) := by
  show some (PV.int .i64 (IntKind.i64.wrap (a + b))) = _
  rw [wrap_i64_of h]
theorem b_sub {a b : Int} (h : -9223372036854775808 ≤ a - b ∧ a - b ≤ 9223372036854775807) : binP .sub (.int .i64 a) (.int .i64 b) = some (.int .i64 (a - b)) := by
  show some (PV.int .i64 (IntKind.i64.wrap (a - b))) = _
  rw [wrap_i64_of h]
theorem b_mul {a b : Int} (h : -9223372036854775808 ≤ a * b ∧ a * b ≤ 9223372036854775807) : binP .mul (.int .i64 a) (.int .i64 b) = some (.int .i64 (a * b)) := by
  show some (PV.int .i64 (IntKind.i64.wrap (a * b))) = _
  rw [wrap_i64_of h]
theorem b_quo64 {a : Int} (h : 0 ≤ a ∧ a ≤ 9223372036854775807) : binP .quo (.int .i64 a) (.int .i64 64) = some (.int .i64 (a / 64)) := by
  show some (PV.int .i64 (IntKind.i64.wrap (a.tdiv 64))) = _
  rw [Int.tdiv_eq_ediv_of_nonneg h.1, wrap_i64_of (by omega)]
theorem b_rem64 {a : Int} (h : 0 ≤ a) : binP .rem (.int .i64 a) (.int .i64 64) = some (.int .i64 (a % 64)) := by
  show some (PV.int .i64 (a.tmod 64)) = _
  rw [Int.tmod_eq_emod_of_nonneg h]
theorem b_shl1 {i : Int} (h : 0 ≤ i ∧ i < 64) : binP .shl (.int .u64 1) (.int .u64 i) = some (.int .u64 ((2 ^ i.toNat : Nat) : Int)) := by
  obtain ⟨n, rfl⟩ := Int.eq_ofNat_of_zero_le h.1
  exact shl_one (by omega)
theorem b_shr {a : Nat} {i : Int} (h : 0 ≤ i ∧ i < 64) : binP .shr (.int .u64 (a : Int)) (.int .u64 i) = some (.int .u64 ((a / 2 ^ i.toNat : Nat) : Int)) := by
  obtain ⟨n, rfl⟩ := Int.eq_ofNat_of_zero_le h.1
  exact shr_nat (by omega)
theorem b_or64 {a b : Nat} (ha : a < 2 ^ 64) (hb : b < 2 ^ 64) : binP .or (.int .u64 (a : Int)) (.int .u64 (b : Int)) = some (.int .u64 ((a ||| b : Nat) : Int)) := congrArg (Option.map (PV.int .u64)) (bits_or ha hb)
theorem b_and64 {a b : Nat} (ha : a < 2 ^ 64) (hb : b < 2 ^ 64) : binP .and (.int .u64 (a : Int)) (.int .u64 (b : Int)) = some (.int .u64 ((a &&& b : Nat) : Int)) := congrArg (Option.map (PV.int .u64)) (bits_and ha hb)
theorem b_andNot64 {a b : Nat} (ha : a < 2 ^ 64) (hb : b < 2 ^ 64) : binP .andNot (.int .u64 (a : Int)) (.int .u64 (b : Int)) = some (.int .u64 ((minus a b : Nat) : Int)) := congrArg (Option.map (PV.int .u64)) (bits_andNot ha hb)
theorem b_add64 {a b : Nat} (h : a + b < 2 ^ 64) : binP .add (.int .u64 (a : Int)) (.int .u64 (b : Int)) = some (.int .u64 ((a + b : Nat) : Int)) := by
  show some (PV.int .u64 (IntKind.u64.wrap ((a : Int) + (b : Int)))) = _
  rw [← Int.natCast_add, wrap_u64_nat h]
theorem wrap_u64_of {a : Int} (h : 0 ≤ a ∧ a < 18446744073709551616) : IntKind.u64.wrap a = a := by
  obtain ⟨n, rfl⟩ := Int.eq_ofNat_of_zero_le h.1
  exact wrap_u64_nat (by omega)
theorem b_and127 {a : Nat} (h : a < 2 ^ 63) : binP .and (.int .i64 (a : Int)) (.int .i64 127) = some (.int .i64 ((a % 128 : Nat) : Int)) := by
  show Option.map (PV.int .i64) (bitsI .and .i64 (a : Int) 127) = _
  show some (PV.int .i64 (IntKind.i64.wrap ((BitVec.ofInt 64 (a : Int) &&& BitVec.ofInt 64 127).toNat : Int))) = _
  rw [BitVec.toNat_and, ofInt_toNat (by omega), show (BitVec.ofInt 64 127).toNat = 2 ^ 7 - 1 from rfl, Nat.and_two_pow_sub_one_eq_mod, wrap_i64_of (by omega)]
end Go.Vm
end
section
/- Rows of words that are one's own. -/
set_option linter.unusedSimpArgs false
set_option linter.unusedVariables false
namespace Go.Vm
open Go Go.RowKit
section
variable {gl : Nat → Option PV} {s : Env} {H : Hp}
theorem soft_row {b g sz len : Nat} {ws : List Nat} (hb : H.f b = some ⟨g, sz, u64s ws⟩) (hl : len = ws.length) : soft1 H true (.ref b g 0 len) = some (.sl (u64s ws)) := by
  subst hl
  exact soft1_row (by simp [elems, Hp.blk, hb, List.take_of_length_le, u64s_length]) (u64s_pure ws)
theorem soft_set {n : Int} {b g sz len : Nat} {ws : List Nat} (hb : H.f b = some ⟨g, sz, u64s ws⟩) (hl : len = ws.length) : soft H true (.agg [.int .i64 n, .ref b g 0 len]) = some (sv n ws) := by
  simp only [soft, soft0, softL, soft_row hb hl, Option.bind_eq_bind, Option.bind_some]
  rfl
theorem softs_set {n : Int} {b g sz len : Nat} {ws : List Nat} {r r' : List PV} (hb : H.f b = some ⟨g, sz, u64s ws⟩) (hl : len = ws.length) (hr : softs H true r = some r') : softs H true (.agg [.int .i64 n, .ref b g 0 len] :: r) = some (sv n ws :: r') := by
  simp only [softs, soft_set hb hl, hr, Option.bind_eq_bind, Option.bind_some]
  try rfl
theorem fnQ_ret_set {rs : List RRes} {n : Int} {b g sz len : Nat} {ws : List Nat} {rr : PV} (h : retOf rs H s = some (.agg [.int .i64 n, .ref b g 0 len])) (hb : H.f b = some ⟨g, sz, u64s ws⟩) (hl : len = ws.length) (h3 : sv n ws = rr) : FnQ rs (fun r0 H' => soft H' true r0 = some rr) .ret s H :=
  ⟨_, h, (soft_set hb hl).trans (congrArg some h3)⟩
end
end Go.Vm
namespace Go.Vm
theorem bSane_false_iff {n : Int} {ws : List Nat} : bSane n ws = false ↔ ¬ (0 ≤ n ∧ n ≤ 1024 ∧ ws.length = wN n ∧ val ws < 2 ^ n.toNat) := by simp [bSane]
theorem bSane_code {n : Int} {ws : List Nat} (hw : W64 ws) (h0 : 0 ≤ n) (h1 : n ≤ 1024) (hl : ws.length = wN n) : (n % 64 == 0 || ((ws.getD ((ws.length : Int) - 1).toNat 0 / 2 ^ (n % 64).toNat : Nat) : Int) == 0) = bSane n ws := by
  have := last_iff hw h0 hl
  rw [show ((ws.length : Int) - 1).toNat = ws.length - 1 by omega]
  rw [Bool.eq_iff_iff, bSane_iff, this]
  simp only [Bool.or_eq_true, beq_iff_eq]
  omega
end Go.Vm
namespace Go.Vm
theorem getD_lt {ws : List Nat} (h : W64 ws) (j : Nat) : ws.getD j 0 < 2 ^ 64 := by
  rw [List.getD_eq_getElem?_getD]
  by_cases hj : j < ws.length
  · rw [List.getElem?_eq_getElem hj]; exact h _ (List.getElem_mem hj)
  · rw [List.getElem?_eq_none (by omega)]; exact Nat.two_pow_pos 64
theorem pow_lt64 (i : Int) : 2 ^ (i % 64).toNat < 2 ^ 64 := Nat.pow_lt_pow_right (by omega) (by omega)
theorem has_bit {ws : List Nat} (h : W64 ws) {i : Int} (hi : 0 ≤ i) : (((ws.getD (i / 64).toNat 0 &&& 2 ^ (i % 64).toNat : Nat) : Int) != 0) = (val ws).testBit i.toNat := by
  rw [val_bit h, show (i / 64).toNat = i.toNat / 64 by omega, show (i % 64).toNat = i.toNat % 64 by omega]
  generalize ws.getD (i.toNat / 64) 0 = w
  generalize i.toNat % 64 = j
  rw [Bool.eq_iff_iff, bne_iff_ne]
  constructor
  · intro hne
    cases hb : w.testBit j with
    | true => rfl
    | false =>
      refine absurd ?_ hne
      have : w &&& 2 ^ j = 0 := by
        refine Nat.eq_of_testBit_eq fun t => ?_
        rw [Nat.testBit_and, bit_pow, Nat.zero_testBit]
        by_cases e : t = j
        · subst e; simp [hb]
        · simp [e]
      rw [this]; rfl
  · intro hb he
    have h0 : w &&& 2 ^ j = 0 := by omega
    have := congrArg (fun x => x.testBit j) h0
    simp [Nat.testBit_and, bit_pow, hb] at this
end Go.Vm
namespace Go.Vm
theorem set_with {k v : Nat} {i : Int} (h0 : 0 ≤ i) (h : i < 64 * k) : (words k v).set (i / 64).toNat ((words k v).getD (i / 64).toNat 0 ||| 2 ^ (i % 64).toNat) = words k (withB v i.toNat) := by
  rw [show (i / 64).toNat = i.toNat / 64 by omega, show (i % 64).toNat = i.toNat % 64 by omega, words_getD _ _ _ (by omega)]
  exact words_with (by omega)
theorem set_without {k v : Nat} {i : Int} (h0 : 0 ≤ i) (h : i < 64 * k) : (words k v).set (i / 64).toNat (minus ((words k v).getD (i / 64).toNat 0) (2 ^ (i % 64).toNat)) = words k (minus v (2 ^ i.toNat)) := by
  rw [show (i / 64).toNat = i.toNat / 64 by omega, show (i % 64).toNat = i.toNat % 64 by omega, words_getD _ _ _ (by omega)]
  exact words_without (by omega)
end Go.Vm
namespace Go.Vm
open Go
def mixW (f : Nat → Nat → Nat) (k va vb : Nat) (i : Int) : List Nat := (List.range k).map fun (j : Nat) => if (j : Int) < i then f (wrd va j) (wrd vb j) else wrd va j
section
variable {f : Nat → Nat → Nat} {k va vb : Nat} {i : Int}
theorem mixW_length : (mixW f k va vb i).length = k := by simp [mixW]
theorem mixW_lt (hf : ∀ a b, a < 2 ^ 64 → b < 2 ^ 64 → f a b < 2 ^ 64) : W64 (mixW f k va vb i) := by
  intro w hw
  simp only [mixW, List.mem_map] at hw
  obtain ⟨j, _, rfl⟩ := hw
  split
  · exact hf _ _ (wrd_lt _ _) (wrd_lt _ _)
  · exact wrd_lt _ _
end
theorem or64 (a b : Nat) (ha : a < 2 ^ 64) (hb : b < 2 ^ 64) : a ||| b < 2 ^ 64 := Nat.or_lt_two_pow ha hb
theorem and64 (a b : Nat) (ha : a < 2 ^ 64) (hb : b < 2 ^ 64) : a &&& b < 2 ^ 64 := Nat.and_lt_two_pow _ hb
theorem minus64 (a b : Nat) (ha : a < 2 ^ 64) (hb : b < 2 ^ 64) : minus a b < 2 ^ 64 := Nat.lt_of_le_of_lt (minus_le a b) ha
end Go.Vm
namespace Go.Vm
theorem fzP_u64 {H : Hp} {k : Nat} {a b : List Nat} (h : a = b) : fzP H k (u64s a) = some (u64s b) := by subst h; exact fzP_pure (u64s_pure _)
end Go.Vm
namespace Go.Vm
open Go
theorem pop_zero : ∀ k, pop k 0 = 0
  | 0 => rfl
  | k + 1 => by rw [pop_succ]; simp [pop_zero k]
theorem pop_more {a b x : Nat} (h : x < 2 ^ a) (hab : a ≤ b) : pop b x = pop a x := by
  obtain ⟨c, rfl⟩ := Nat.exists_eq_add_of_le hab
  rw [pop_add, Nat.div_eq_of_lt h, pop_zero, Nat.add_zero]
def cn (v : Nat) : Nat := pop 1024 v
theorem cn_eq {n : Int} {v : Nat} (h0 : 0 ≤ n) (h1 : n ≤ 1024) (h : v < 2 ^ n.toNat) : pop (64 * wN n) v = cn v := by
  have := wN_small h1
  unfold cn
  rw [pop_more (b := 1024) (lt_words h0 h) (by omega)]
theorem cnt_step {i : Int} {k v : Nat} (h0 : 0 ≤ i) (h : i < k) : pop (64 * i.toNat) v + pop 64 ((words k v).getD i.toNat 0) = pop (64 * (i + 1).toNat) v := by
  have e : pop 64 (wrd v i.toNat) = pop 64 (v / 2 ^ (64 * i.toNat)) := by
    unfold wrd
    exact pop_mod 64 64 _ (Nat.le_refl _)
  rw [words_getD _ _ _ (by omega), show 64 * (i + 1).toNat = 64 * i.toNat + 64 by omega, pop_add, e]
theorem minus_lt {a b : Nat} {k : Nat} (h : a < 2 ^ k) : minus a b < 2 ^ k := Nat.lt_of_le_of_lt (minus_le a b) h
def ofV (N : Int) (l : List Int) : Nat := l.foldl (fun v i => if 0 ≤ i ∧ i < N then withB v i.toNat else v) 0
theorem ofV_snoc (N : Int) (l : List Int) (x : Int) : ofV N (l ++ [x]) = if 0 ≤ x ∧ x < N then withB (ofV N l) x.toNat else ofV N l := by simp [ofV]
theorem ofV_t {N : Int} {l : List Int} {i : Int} {k : Nat} (h0 : 0 ≤ i) (h : i < l.length) (hx : 0 ≤ l.getD i.toNat 0 ∧ l.getD i.toNat 0 < N) (hk : N ≤ 64 * k) :
    (words k (ofV N (l.take i.toNat))).set (l.getD i.toNat 0 / 64).toNat ((words k (ofV N (l.take i.toNat))).getD (l.getD i.toNat 0 / 64).toNat 0 ||| 2 ^ (l.getD i.toNat 0 % 64).toNat) = words k (ofV N (l.take (i + 1).toNat)) := by
  rw [take_snoc h0 h, ofV_snoc, if_pos hx]
  exact set_with hx.1 (by omega)
theorem ofV_f {N : Int} {l : List Int} {i : Int} {k : Nat} (h0 : 0 ≤ i) (h : i < l.length) (hx : ¬ (0 ≤ l.getD i.toNat 0 ∧ l.getD i.toNat 0 < N)) : words k (ofV N (l.take i.toNat)) = words k (ofV N (l.take (i + 1).toNat)) := by
  rw [take_snoc h0 h, ofV_snoc, if_neg hx]
theorem take_snocN {l : List Nat} {i : Int} (h0 : 0 ≤ i) (h : i < l.length) : l.take (i + 1).toNat = l.take i.toNat ++ [l.getD i.toNat 0] := by
  have hl : i.toNat < l.length := by omega
  rw [show (i + 1).toNat = i.toNat + 1 by omega, List.take_add_one, List.getElem?_eq_getElem hl]
  simp [hl]
end Go.Vm
namespace Go.Vm
open Go
theorem Pure.as {P : Program} {gl : Nat → Option PV} {f : FuncId} {args : List PV} {r r' : PV} (h : Pure P gl f args r) (e : r = r') : Pure P gl f args r' := by subst e; exact h
end Go.Vm
namespace Go.Vm
theorem fz_row {H : Hp} {k b g sz len : Nat} {xs : List PV} (hb : H.f b = some ⟨g, sz, xs⟩) (hl : len = xs.length) (hk : k ≤ b) (hp : xs.all pureE = true) : fz H k (.ref b g 0 len) = some (.sl xs) := by
  subst hl
  show fz1 H k (.ref b g 0 xs.length) = _
  have e : elems H (.ref b g 0 xs.length) = some xs := by simp [elems, Hp.blk, hb]
  exact fz1_row hk e hp
end Go.Vm
end
section
/- Arguments of plain data, by their types. -/
set_option linter.unusedSimpArgs false
set_option linter.unusedVariables false
namespace Go.Vm
open Go
theorem fits_int {k : IntKind} {x : PV} (h : FitsV (.int k) x) : ∃ n, x = .int k n ∧ (Lit.int k n).wf = true := by
  rcases h with ⟨h, _⟩ | ⟨_, n, h, hw⟩
  · cases h
  · injection h with h
    exact ⟨n, h, hw⟩
theorem i64_wf {n : Int} (h : (Lit.int .i64 n).wf = true) : -9223372036854775808 ≤ n ∧ n ≤ 9223372036854775807 := by
  simpa [Lit.wf, IntKind.min, IntKind.max, IntKind.bits, IntKind.signed] using h
theorem u64_wf {n : Int} (h : (Lit.int .u64 n).wf = true) : 0 ≤ n ∧ n ≤ 18446744073709551615 := by
  simpa [Lit.wf, IntKind.min, IntKind.max, IntKind.bits, IntKind.signed] using h
end Go.Vm
end
section
/- Laws of sets as numbers; the arguments that are sets. -/
set_option linter.unusedSimpArgs false
set_option linter.unusedVariables false
set_option exponentiation.threshold 2000
namespace Go.Vm
open Go
def Rep (x : PV) (N : Int) (v : Nat) : Prop := ∃ n ws, x = sv n ws ∧ W64 ws ∧ nN n ws = N ∧ vN n ws = v
structure Ok (N : Int) (v : Nat) : Prop where
  r : 0 ≤ N ∧ N ≤ 1024
  lt : v < 2 ^ N.toNat
theorem Rep.ok {x : PV} {N : Int} {v : Nat} (h : Rep x N v) : Ok N v := by
  obtain ⟨n, ws, rfl, _, rfl, rfl⟩ := h
  exact ⟨nN_r n ws, vN_lt n ws⟩
theorem rep_sv (n : Int) (ws : List Nat) (h : W64 ws) : Rep (sv n ws) (nN n ws) (vN n ws) := ⟨n, ws, rfl, h, rfl, rfl⟩
theorem rep_mk {N : Int} {v : Nat} (h : Ok N v) : Rep (mk N v) N v := ⟨N, words (wN N) v, rfl, words_lt _ _, nN_mk h.r.1 h.r.2 h.lt, vN_mk h.r.1 h.r.2 h.lt⟩
theorem ok_up {N M : Int} {v : Nat} (h : Ok N v) (h1 : N ≤ M) (h2 : M ≤ 1024) : Ok M v := ⟨⟨by have := h.r; omega, h2⟩, Nat.lt_of_lt_of_le h.lt (Nat.pow_le_pow_right (by omega) (by omega))⟩
theorem ok_zero {N : Int} (h0 : 0 ≤ N ∧ N ≤ 1024) : Ok N 0 := ⟨h0, Nat.two_pow_pos _⟩
theorem ok_or {M N : Int} {a b : Nat} (h1 : Ok M a) (h2 : Ok N b) : Ok (max M N) (a ||| b) := ⟨by have := h1.r; have := h2.r; omega, Nat.or_lt_two_pow (ok_up h1 (by omega) (by have := h1.r; have := h2.r; omega)).lt (ok_up h2 (by omega) (by have := h1.r; have := h2.r; omega)).lt⟩
theorem ok_and {M N : Int} {a b : Nat} (h1 : Ok M a) (h2 : Ok N b) : Ok (max M N) (a &&& b) := ⟨by have := h1.r; have := h2.r; omega, Nat.and_lt_two_pow _ (ok_up h2 (by omega) (by have := h1.r; have := h2.r; omega)).lt⟩
theorem ok_minus {M N : Int} {a b : Nat} (h1 : Ok M a) (h2 : Ok N b) : Ok (max M N) (minus a b) := ⟨by have := h1.r; have := h2.r; omega, minus_lt (ok_up h1 (by omega) (by have := h1.r; have := h2.r; omega)).lt⟩
def vWith (N : Int) (v : Nat) (i : Int) : Nat := if 0 ≤ i ∧ i < N then withB v i.toNat else v
def vWout (N : Int) (v : Nat) (i : Int) : Nat := if 0 ≤ i ∧ i < N then minus v (2 ^ i.toNat) else v
theorem ok_with {N : Int} {v : Nat} {i : Int} (h : Ok N v) : Ok N (vWith N v i) := by
  unfold vWith
  split
  · exact ⟨h.r, Nat.or_lt_two_pow h.lt (Nat.pow_lt_pow_right (by omega) (by omega))⟩
  · exact h
theorem ok_wout {N : Int} {v : Nat} {i : Int} (h : Ok N v) : Ok N (vWout N v i) := by
  unfold vWout
  split
  · exact ⟨h.r, minus_lt h.lt⟩
  · exact h
theorem ok_ofV (N : Int) (l : List Int) (h : 0 ≤ N ∧ N ≤ 1024) : Ok N (ofV N l) := by
  suffices ∀ v, Ok N v → Ok N (l.foldl (fun v i => if 0 ≤ i ∧ i < N then withB v i.toNat else v) v) from this 0 (ok_zero h)
  induction l with
  | nil => exact fun v hv => hv
  | cons x l ih => exact fun v hv => ih _ (ok_with (i := x) hv)
theorem vWith_bit (N : Int) (v : Nat) (i : Int) (j : Nat) : (vWith N v i).testBit j = (v.testBit j || decide (0 ≤ i ∧ i < N ∧ j = i.toNat)) := by
  unfold vWith
  split
  · rename_i h; rw [withB_bit]; simp [h]
  · rename_i h
    have : decide (0 ≤ i ∧ i < N ∧ j = i.toNat) = false := by simp only [decide_eq_false_iff_not]; omega
    rw [this, Bool.or_false]
/-! ### Arguments -/
theorem fits_ints {x : PV} (h : FitsV (.sl (.int .i64)) x) : ∃ l : List Int, x = .sl (ints l) ∧ l.length ≤ maxLen ∧ ∀ y ∈ l, -9223372036854775808 ≤ y ∧ y ≤ 9223372036854775807 := by
  rcases h with ⟨h, _⟩ | ⟨_, l, h, hl, hx⟩
  · cases h
  · injection h with h
    subst h
    suffices ∃ l' : List Int, l = ints l' ∧ ∀ y ∈ l', -9223372036854775808 ≤ y ∧ y ≤ 9223372036854775807 by
      obtain ⟨l', rfl, h2⟩ := this
      exact ⟨l', rfl, by rwa [ints_length] at hl, h2⟩
    clear hl
    induction l with
    | nil => exact ⟨[], rfl, by simp⟩
    | cons x l ih =>
      obtain ⟨l', rfl, h2⟩ := ih fun y hy => hx y (by simp [hy])
      rcases hx x (by simp) with ⟨h, _⟩ | ⟨_, n, h, hw⟩
      · cases h
      · injection h with h
        subst h
        refine ⟨n :: l', rfl, fun y hy => ?_⟩
        rcases List.mem_cons.1 hy with rfl | hy
        · exact i64_wf hw
        · exact h2 y hy
theorem fits_u64s {l : List PV} (hx : ∀ x ∈ l, ((Ty.int .u64).isAgg = true ∧ ∃ c, x = .agg c ∧ Fits (.int .u64) c) ∨ ((Ty.int .u64).isAgg = false ∧ Fits (.int .u64) [x])) : ∃ ws, l = u64s ws ∧ W64 ws := by
  induction l with
  | nil => exact ⟨[], rfl, fun _ h => by cases h⟩
  | cons x l ih =>
    obtain ⟨ws, rfl, h2⟩ := ih fun y hy => hx y (by simp [hy])
    rcases hx x (by simp) with ⟨h, _⟩ | ⟨_, n, h, hw⟩
    · cases h
    · injection h with h
      subst h
      have := u64_wf hw
      obtain ⟨k, rfl⟩ := Int.eq_ofNat_of_zero_le this.1
      refine ⟨k :: ws, rfl, fun y hy => ?_⟩
      rcases List.mem_cons.1 hy with rfl | hy
      · omega
      · exact h2 y hy
theorem fits_set {x : PV} (h : FitsV (.st (.cons (.int .i64) (.cons (.sl (.int .u64)) .nil))) x) : ∃ n ws, x = sv n ws ∧ W64 ws ∧ (-9223372036854775808 ≤ n ∧ n ≤ 9223372036854775807) := by
  rcases h with ⟨_, c, rfl, x, y, rfl, ⟨k, rfl, hk⟩, z, u, rfl, ⟨l, rfl, hl, hx⟩, rfl⟩ | ⟨h, _⟩
  · obtain ⟨ws, rfl, hw⟩ := fits_u64s hx
    exact ⟨k, ws, rfl, hw, i64_wf hk⟩
  · cases h
end Go.Vm
end
section
/- Laws of sets as numbers, more. -/
set_option linter.unusedSimpArgs false
set_option linter.unusedVariables false
set_option exponentiation.threshold 2000
namespace Go.Vm
open Go
end Go.Vm
end
section
/- Laws of sets as numbers: chains. -/
set_option linter.unusedSimpArgs false
set_option linter.unusedVariables false
set_option exponentiation.threshold 2000
namespace Go.Vm
open Go
set_option maxRecDepth 10000 in
theorem cn_le_ok {N : Int} {v : Nat} (h : Ok N v) : (cn v : Int) ≤ N := by
  have hr := h.r
  have e := pop_more (b := 1024) h.lt (by omega)
  have := pop_le N.toNat v
  unfold cn
  rw [e]
  omega
end Go.Vm
end
section
/- The document's answer for sets. -/
set_option linter.unusedSimpArgs false
set_option linter.unusedVariables false
set_option exponentiation.threshold 2000
namespace Go.Vm
open Go
theorem b_and1 {a : Nat} (h : a < 2 ^ 64) : binP .and (.int .u64 (a : Int)) (.int .u64 1) = some (.int .u64 ((a % 2 : Nat) : Int)) := by
  have := b_and64 (a := a) (b := 1) h (by omega)
  rw [show a &&& 1 = a % 2 from Nat.and_one_is_mod a] at this
  exact this
theorem div_lt64 {ws : List Nat} (h : W64 ws) (j k : Nat) : ws.getD j 0 / k < 2 ^ 64 := Nat.lt_of_le_of_lt (Nat.div_le_self _ _) (getD_lt h j)
theorem bit_code {ws : List Nat} (h : W64 ws) {i : Int} (hi : 0 ≤ i) : (((ws.getD (i / 64).toNat 0 / 2 ^ (i % 64).toNat % 2 : Nat) : Int) == 1) = (val ws).testBit i.toNat := by
  rw [val_bit h, show (i / 64).toNat = i.toNat / 64 by omega, show (i % 64).toNat = i.toNat % 64 by omega]
  generalize ws.getD (i.toNat / 64) 0 = w
  generalize i.toNat % 64 = j
  rw [Nat.testBit_eq_decide_div_mod_eq, Bool.eq_iff_iff, beq_iff_eq, decide_eq_true_eq]
  omega
theorem sane_found {n : Int} {ws : List Nat} {i : Int} (h0 : 0 ≤ n) (h1 : n ≤ i) (h : (val ws).testBit i.toNat = true) : bSane n ws = false := by
  rw [bSane_false_iff]
  rintro ⟨_, _, _, h4⟩
  rw [testBit_ge h4 (by omega)] at h
  cases h
theorem sane_all {n : Int} {ws : List Nat} (hw : W64 ws) (h0 : 0 ≤ n) (h1 : n ≤ 1024) (hl : (ws.length : Int) = (n + 63) / 64) (h : ∀ j : Nat, n.toNat ≤ j → j < 64 * ws.length → (val ws).testBit j = false) : bSane n ws = true := by
  rw [bSane_iff]
  refine ⟨h0, h1, by unfold wN; omega, Nat.lt_pow_two_of_testBit _ fun j hj => ?_⟩
  by_cases hj2 : j < 64 * ws.length
  · exact h j hj hj2
  · exact testBit_ge (val_lt hw) (by omega)
end Go.Vm
namespace Go.Vm
open Go
def bList (v : Nat) (i : Int) : List Int := ((List.range i.toNat).filter fun j => v.testBit j).map fun (j : Nat) => (j : Int)
theorem bList_t {v : Nat} {i : Int} (h0 : 0 ≤ i) (h : v.testBit i.toNat = true) : bList v (i + 1) = bList v i ++ [i] := by
  unfold bList
  rw [show (i + 1).toNat = i.toNat + 1 by omega, List.range_succ, List.filter_append, List.map_append]
  simp [h]
  omega
theorem bList_f {v : Nat} {i : Int} (h0 : 0 ≤ i) (h : v.testBit i.toNat = false) : bList v (i + 1) = bList v i := by
  unfold bList
  rw [show (i + 1).toNat = i.toNat + 1 by omega, List.range_succ, List.filter_append, List.map_append]
  simp [h]
end Go.Vm
namespace Go.Vm
theorem ofV_wt {N : Int} {l : List Int} {i : Int} {k : Nat} (h0 : 0 ≤ i) (h : i < l.length) (hx : 0 ≤ l.getD i.toNat 0 ∧ l.getD i.toNat 0 < N) :
    words k (withB (ofV N (l.take i.toNat)) (l.getD i.toNat 0).toNat) = words k (ofV N (l.take (i + 1).toNat)) := by
  rw [take_snoc h0 h, ofV_snoc, if_pos hx]
end Go.Vm
namespace Go.Vm
open Go
theorem ofV_bit (N : Int) (l : List Int) (j : Nat) : (ofV N l).testBit j = l.any (fun x => decide (0 ≤ x ∧ x < N ∧ j = x.toNat)) := by
  suffices ∀ v : Nat, (l.foldl (fun v i => if 0 ≤ i ∧ i < N then withB v i.toNat else v) v).testBit j = (v.testBit j || l.any (fun x => decide (0 ≤ x ∧ x < N ∧ j = x.toNat))) by
    have := this 0
    rw [Nat.zero_testBit, Bool.false_or] at this
    exact this
  induction l with
  | nil => intro v; simp
  | cons x l ih =>
    intro v
    rw [List.foldl_cons, ih, List.any_cons]
    have := vWith_bit N v x j
    unfold vWith at this
    rw [this, Bool.or_assoc]
theorem ofV_bList {N : Int} {v : Nat} (h : Ok N v) : ofV N (bList v N) = v := by
  refine Nat.eq_of_testBit_eq fun j => ?_
  rw [ofV_bit, Bool.eq_iff_iff, List.any_eq_true]
  unfold bList
  constructor
  · rintro ⟨x, hx, hd⟩
    simp only [List.mem_map, List.mem_filter] at hx
    obtain ⟨i, ⟨_, hi⟩, rfl⟩ := hx
    simp only [decide_eq_true_eq] at hd
    obtain ⟨_, _, rfl⟩ := hd
    exact hi
  · intro hj
    have hlt : j < N.toNat := by
      by_cases hlt : j < N.toNat
      · exact hlt
      · rw [testBit_ge h.lt (by omega)] at hj; cases hj
    refine ⟨(j : Int), ?_, by simp only [decide_eq_true_eq]; omega⟩
    simp only [List.mem_map, List.mem_filter, List.mem_range]
    exact ⟨j, ⟨hlt, hj⟩, rfl⟩
theorem bList_len (v : Nat) (i : Int) (h : 0 ≤ i) : ((bList v i).length : Int) ≤ i := by
  unfold bList
  rw [List.length_map]
  have := List.length_filter_le (fun j => v.testBit j) (List.range i.toNat)
  rw [List.length_range] at this
  omega
end Go.Vm
namespace Go.Vm
end Go.Vm
end
