/- Rows of words that are one's own. -/
import Derived.Test.YtjegabeechopdaaVnE
set_option linter.unusedSimpArgs false
set_option linter.unusedVariables false
namespace Go.Vm
open Go Go.RowKit
section
variable {gl : Nat → Option PV} {s : Env} {H : Hp}
theorem soft_row {b g sz len : Nat} {ws : List Nat} (hb : H.f b = some ⟨g, sz, u64s ws⟩) (hl : len = ws.length) : soft1 H true (.ref b g 0 len) = some (.sl (u64s ws)) := by
  subst hl
  simp [soft1, elems, Hp.blk, hb, u64s_length, u64s_pure, List.take_of_length_le]
theorem soft_set {n : Int} {b g sz len : Nat} {ws : List Nat} (hb : H.f b = some ⟨g, sz, u64s ws⟩) (hl : len = ws.length) : soft H true (.agg [.int .i64 n, .ref b g 0 len]) = some (sv n ws) := by
  simp only [soft, soft0, softL, soft_row hb hl, Option.bind_eq_bind, Option.bind_some]
  rfl
theorem softs_set {n : Int} {b g sz len : Nat} {ws : List Nat} {r r' : List PV} (hb : H.f b = some ⟨g, sz, u64s ws⟩) (hl : len = ws.length) (hr : softs H true r = some r') : softs H true (.agg [.int .i64 n, .ref b g 0 len] :: r) = some (sv n ws :: r') := by
  simp only [softs, soft_set hb hl, hr, Option.bind_eq_bind, Option.bind_some]
  try rfl
theorem fnQ_ret_set {rs : List RRes} {n : Int} {b g sz len : Nat} {ws : List Nat} {rr : PV} (h : retOf rs H s = some (.agg [.int .i64 n, .ref b g 0 len])) (hb : H.f b = some ⟨g, sz, u64s ws⟩) (hl : len = ws.length) (h3 : sv n ws = rr) : FnQ rs (fun r0 H' => soft H' true r0 = some rr) .ret s H :=
  ⟨_, h, (soft_set hb hl).trans (congrArg some h3)⟩
end
end Go.Vm
namespace Go.Vm
theorem bSane_false_iff {n : Int} {ws : List Nat} : bSane n ws = false ↔ ¬ (0 ≤ n ∧ n ≤ 1024 ∧ ws.length = wN n ∧ val ws < 2 ^ n.toNat) := by simp [bSane]
theorem bSane_code {n : Int} {ws : List Nat} (hw : W64 ws) (h0 : 0 ≤ n) (h1 : n ≤ 1024) (hl : ws.length = wN n) : (n % 64 == 0 || ((ws.getD ((ws.length : Int) - 1).toNat 0 / 2 ^ (n % 64).toNat : Nat) : Int) == 0) = bSane n ws := by
  have := last_iff hw h0 hl
  rw [show ((ws.length : Int) - 1).toNat = ws.length - 1 by omega]
  rw [Bool.eq_iff_iff, bSane_iff, this]
  simp only [Bool.or_eq_true, beq_iff_eq]
  omega
end Go.Vm
namespace Go.Vm
theorem getD_lt {ws : List Nat} (h : W64 ws) (j : Nat) : ws.getD j 0 < 2 ^ 64 := by
  rw [List.getD_eq_getElem?_getD]
  by_cases hj : j < ws.length
  · rw [List.getElem?_eq_getElem hj]; exact h _ (List.getElem_mem hj)
  · rw [List.getElem?_eq_none (by omega)]; exact Nat.two_pow_pos 64
theorem pow_lt64 (i : Int) : 2 ^ (i % 64).toNat < 2 ^ 64 := Nat.pow_lt_pow_right (by omega) (by omega)
theorem has_bit {ws : List Nat} (h : W64 ws) {i : Int} (hi : 0 ≤ i) : (((ws.getD (i / 64).toNat 0 &&& 2 ^ (i % 64).toNat : Nat) : Int) != 0) = (val ws).testBit i.toNat := by
  rw [val_bit h, show (i / 64).toNat = i.toNat / 64 by omega, show (i % 64).toNat = i.toNat % 64 by omega]
  generalize ws.getD (i.toNat / 64) 0 = w
  generalize i.toNat % 64 = j
  rw [Bool.eq_iff_iff, bne_iff_ne]
  constructor
  · intro hne
    cases hb : w.testBit j with
    | true => rfl
    | false =>
      refine absurd ?_ hne
      have : w &&& 2 ^ j = 0 := by
        refine Nat.eq_of_testBit_eq fun t => ?_
        rw [Nat.testBit_and, bit_pow, Nat.zero_testBit]
        by_cases e : t = j
        · subst e; simp [hb]
        · simp [e]
      rw [this]; rfl
  · intro hb he
    have h0 : w &&& 2 ^ j = 0 := by omega
    have := congrArg (fun x => x.testBit j) h0
    simp [Nat.testBit_and, bit_pow, hb] at this
end Go.Vm
namespace Go.Vm
theorem set_with {k v : Nat} {i : Int} (h0 : 0 ≤ i) (h : i < 64 * k) : (words k v).set (i / 64).toNat ((words k v).getD (i / 64).toNat 0 ||| 2 ^ (i % 64).toNat) = words k (withB v i.toNat) := by
  rw [show (i / 64).toNat = i.toNat / 64 by omega, show (i % 64).toNat = i.toNat % 64 by omega, words_getD _ _ _ (by omega)]
  exact words_with (by omega)
theorem set_without {k v : Nat} {i : Int} (h0 : 0 ≤ i) (h : i < 64 * k) : (words k v).set (i / 64).toNat (minus ((words k v).getD (i / 64).toNat 0) (2 ^ (i % 64).toNat)) = words k (minus v (2 ^ i.toNat)) := by
  rw [show (i / 64).toNat = i.toNat / 64 by omega, show (i % 64).toNat = i.toNat % 64 by omega, words_getD _ _ _ (by omega)]
  exact words_without (by omega)
end Go.Vm
namespace Go.Vm
open Go
/-- Word by word, up to one of them. -/
def mixW (f : Nat → Nat → Nat) (k va vb : Nat) (i : Int) : List Nat := (List.range k).map fun (j : Nat) => if (j : Int) < i then f (wrd va j) (wrd vb j) else wrd va j
section
variable {f : Nat → Nat → Nat} {k va vb : Nat} {i : Int}
theorem mixW_length : (mixW f k va vb i).length = k := by simp [mixW]
theorem mixW_zero : mixW f k va vb 0 = words k va := by
  unfold mixW words
  refine List.map_congr_left fun j hj => ?_
  rw [if_neg (by omega)]
theorem mixW_full {F : Nat} (h : ∀ j, wrd F j = f (wrd va j) (wrd vb j)) (hi : i = k) : mixW f k va vb i = words k F := by
  subst hi
  unfold mixW words
  refine List.map_congr_left fun j hj => ?_
  rw [if_pos (by have := List.mem_range.1 hj; omega), h]
theorem mixW_getD {j : Nat} (h : j < k) : (mixW f k va vb i).getD j 0 = if (j : Int) < i then f (wrd va j) (wrd vb j) else wrd va j := by
  rw [List.getD_eq_getElem?_getD, List.getElem?_eq_getElem (by rw [mixW_length]; exact h)]
  simp [mixW]
theorem mixW_step (h0 : 0 ≤ i) (h : i < k) : (mixW f k va vb i).set i.toNat (f ((mixW f k va vb i).getD i.toNat 0) ((words k vb).getD i.toNat 0)) = mixW f k va vb (i + 1) := by
  have hik : i.toNat < k := by omega
  rw [mixW_getD hik, words_getD _ _ _ hik, if_neg (by omega)]
  refine List.ext_getElem (by simp [mixW_length]) fun j h1 h2 => ?_
  rw [List.getElem_set]
  split
  · rename_i e
    subst e
    simp only [mixW, List.getElem_map, List.getElem_range]
    rw [if_pos (by omega)]
  · rename_i e
    simp only [mixW, List.getElem_map, List.getElem_range]
    by_cases hj : (j : Int) < i
    · rw [if_pos hj, if_pos (by omega)]
    · rw [if_neg hj, if_neg (by omega)]
theorem mixW_lt (hf : ∀ a b, a < 2 ^ 64 → b < 2 ^ 64 → f a b < 2 ^ 64) : W64 (mixW f k va vb i) := by
  intro w hw
  simp only [mixW, List.mem_map] at hw
  obtain ⟨j, _, rfl⟩ := hw
  split
  · exact hf _ _ (wrd_lt _ _) (wrd_lt _ _)
  · exact wrd_lt _ _
end
theorem or64 (a b : Nat) (ha : a < 2 ^ 64) (hb : b < 2 ^ 64) : a ||| b < 2 ^ 64 := Nat.or_lt_two_pow ha hb
theorem and64 (a b : Nat) (ha : a < 2 ^ 64) (hb : b < 2 ^ 64) : a &&& b < 2 ^ 64 := Nat.and_lt_two_pow _ hb
theorem minus64 (a b : Nat) (ha : a < 2 ^ 64) (hb : b < 2 ^ 64) : minus a b < 2 ^ 64 := Nat.lt_of_le_of_lt (minus_le a b) ha
end Go.Vm
namespace Go.Vm
theorem fzP_u64 {H : Hp} {k : Nat} {a b : List Nat} (h : a = b) : fzP H k (u64s a) = some (u64s b) := by subst h; exact fzP_pure (u64s_pure _)
end Go.Vm
namespace Go.Vm
open Go
theorem pop_zero : ∀ k, pop k 0 = 0
  | 0 => rfl
  | k + 1 => by rw [pop_succ]; simp [pop_zero k]
theorem pop_more {a b x : Nat} (h : x < 2 ^ a) (hab : a ≤ b) : pop b x = pop a x := by
  obtain ⟨c, rfl⟩ := Nat.exists_eq_add_of_le hab
  rw [pop_add, Nat.div_eq_of_lt h, pop_zero, Nat.add_zero]
/-- How many numbers there are in a set. -/
def cn (v : Nat) : Nat := pop 1024 v
theorem cn_eq {n : Int} {v : Nat} (h0 : 0 ≤ n) (h1 : n ≤ 1024) (h : v < 2 ^ n.toNat) : pop (64 * wN n) v = cn v := by
  have := wN_small h1
  unfold cn
  rw [pop_more (b := 1024) (lt_words h0 h) (by omega)]
theorem cnt_step {i : Int} {k v : Nat} (h0 : 0 ≤ i) (h : i < k) : pop (64 * i.toNat) v + pop 64 ((words k v).getD i.toNat 0) = pop (64 * (i + 1).toNat) v := by
  have e : pop 64 (wrd v i.toNat) = pop 64 (v / 2 ^ (64 * i.toNat)) := by
    unfold wrd
    exact pop_mod 64 64 _ (Nat.le_refl _)
  rw [words_getD _ _ _ (by omega), show 64 * (i + 1).toNat = 64 * i.toNat + 64 by omega, pop_add, e]
theorem cn_zero {v : Nat} (h : v < 2 ^ 1024) : (((cn v : Nat) : Int) == 0) = decide (v = 0) := by
  rw [Bool.eq_iff_iff, beq_iff_eq, decide_eq_true_eq]
  constructor
  · intro hc
    have hc : cn v = 0 := by omega
    rw [cn, pop_bit, List.countP_eq_zero] at hc
    refine Nat.eq_of_testBit_eq fun i => ?_
    rw [Nat.zero_testBit]
    by_cases hi : i < 1024
    · have := hc i (List.mem_range.2 hi)
      simpa using this
    · exact testBit_ge h (by omega)
  · rintro rfl
    rw [cn, pop_zero]; rfl
theorem minus_lt {a b : Nat} {k : Nat} (h : a < 2 ^ k) : minus a b < 2 ^ k := Nat.lt_of_le_of_lt (minus_le a b) h
theorem max_lt2 {a b : Nat} {m n : Int} (h : a < 2 ^ m.toNat) : a < 2 ^ (max m n).toNat := Nat.lt_of_lt_of_le h (Nat.pow_le_pow_right (by omega) (by omega))
theorem max_lt2' {a b : Nat} {m n : Int} (h : a < 2 ^ n.toNat) : a < 2 ^ (max m n).toNat := Nat.lt_of_lt_of_le h (Nat.pow_le_pow_right (by omega) (by omega))
/-- The set of some numbers. -/
def ofV (N : Int) (l : List Int) : Nat := l.foldl (fun v i => if 0 ≤ i ∧ i < N then withB v i.toNat else v) 0
theorem ofV_snoc (N : Int) (l : List Int) (x : Int) : ofV N (l ++ [x]) = if 0 ≤ x ∧ x < N then withB (ofV N l) x.toNat else ofV N l := by simp [ofV]
theorem ofV_t {N : Int} {l : List Int} {i : Int} {k : Nat} (h0 : 0 ≤ i) (h : i < l.length) (hx : 0 ≤ l.getD i.toNat 0 ∧ l.getD i.toNat 0 < N) (hk : N ≤ 64 * k) :
    (words k (ofV N (l.take i.toNat))).set (l.getD i.toNat 0 / 64).toNat ((words k (ofV N (l.take i.toNat))).getD (l.getD i.toNat 0 / 64).toNat 0 ||| 2 ^ (l.getD i.toNat 0 % 64).toNat) = words k (ofV N (l.take (i + 1).toNat)) := by
  rw [take_snoc h0 h, ofV_snoc, if_pos hx]
  exact set_with hx.1 (by omega)
theorem ofV_f {N : Int} {l : List Int} {i : Int} {k : Nat} (h0 : 0 ≤ i) (h : i < l.length) (hx : ¬ (0 ≤ l.getD i.toNat 0 ∧ l.getD i.toNat 0 < N)) : words k (ofV N (l.take i.toNat)) = words k (ofV N (l.take (i + 1).toNat)) := by
  rw [take_snoc h0 h, ofV_snoc, if_neg hx]
theorem take_snocN {l : List Nat} {i : Int} (h0 : 0 ≤ i) (h : i < l.length) : l.take (i + 1).toNat = l.take i.toNat ++ [l.getD i.toNat 0] := by
  have hl : i.toNat < l.length := by omega
  rw [show (i + 1).toNat = i.toNat + 1 by omega, List.take_add_one, List.getElem?_eq_getElem hl]
  simp [hl]
end Go.Vm
namespace Go.Vm
open Go
theorem Pure.as {P : Program} {gl : Nat → Option PV} {f : FuncId} {args : List PV} {r r' : PV} (h : Pure P gl f args r) (e : r = r') : Pure P gl f args r' := by subst e; exact h
end Go.Vm
