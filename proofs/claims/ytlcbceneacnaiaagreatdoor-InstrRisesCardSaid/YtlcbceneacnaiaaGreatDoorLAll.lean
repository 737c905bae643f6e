/- Laid. -/
import Derived.Test.YtlcbceneacnaiaaGreatDoorLBitsAll
import Derived.Test.YtlcbceneacnaiaaGreatDoorVmThree
import Derived.Laws.BitsLemmas
section
/- Rows of values of one kind. -/
set_option linter.unusedSimpArgs false
set_option linter.unusedVariables false
namespace Go.Vm
open Go Go.RowKit
section
variable {α : Type}
def mixL (R O : List α) (k : Nat) : List α := R.take k ++ O.drop k
theorem mixL_full {R O : List α} {k : Nat} (h : O.length ≤ k) (h2 : R.length ≤ k) : mixL R O k = R := by
  unfold mixL
  rw [List.take_of_length_le h2, List.drop_of_length_le h, List.append_nil]
theorem mixL_length {R O : List α} {k : Nat} (h : R.length = O.length) : (mixL R O k).length = O.length := by
  simp [mixL]; omega
theorem mixL_getD {R O : List α} {k : Nat} (h : R.length = O.length) (hk : k < O.length) (d : α) : (mixL R O k).getD k d = O.getD k d := by
  unfold mixL
  simp only [List.getD_eq_getElem?_getD]
  rw [List.getElem?_append_right (by simp [Nat.min_le_left])]
  simp only [List.length_take, List.getElem?_drop]
  rw [show k + (k - min k R.length) = k by omega]
theorem mixL_set {R O : List α} {k : Nat} (h : R.length = O.length) (hk : k < O.length) (d : α) : (mixL R O k).set k (R.getD k d) = mixL R O (k + 1) := by
  unfold mixL
  have e : (R.take k).length = k := by simp; omega
  have e2 : R.take (k + 1) = R.take k ++ [R[k]'(by omega)] := by rw [List.take_add_one, List.getElem?_eq_getElem (by omega)]; rfl
  rw [List.set_append_right _ _ (by omega), e, Nat.sub_self, List.drop_eq_getElem_cons hk, List.set_cons_zero, List.getD_eq_getElem?_getD, List.getElem?_eq_getElem (by omega), e2, List.append_assoc]
  rfl
theorem take_snoc1 {l : List α} {k : Nat} (h : k < l.length) (d : α) : l.take k ++ [l.getD k d] = l.take (k + 1) := by
  rw [List.take_add_one, List.getElem?_eq_getElem h, List.getD_eq_getElem?_getD, List.getElem?_eq_getElem h]
  rfl
def tab (N : Nat) (F : Nat → α) : List α := (List.range N).map F
theorem tab_length {N : Nat} {F : Nat → α} : (tab N F).length = N := by simp [tab]
theorem tab_getD {N k : Nat} {F : Nat → α} (h : k < N) (d : α) : (tab N F).getD k d = F k := by
  rw [List.getD_eq_getElem?_getD, List.getElem?_eq_getElem (by rw [tab_length]; exact h)]
  simp [tab]
theorem tab_getD' {N k : Nat} {F : Nat → α} (d : α) : (tab N F).getD k d = if k < N then F k else d := by
  split
  · rename_i h; exact tab_getD h d
  · rename_i h
    rw [List.getD_eq_getElem?_getD, List.getElem?_eq_none (by rw [tab_length]; omega)]
    rfl
theorem tab_of (l : List α) (d : α) : tab l.length (fun k => l.getD k d) = l := by
  refine List.ext_getElem tab_length fun i h1 h2 => ?_
  simp [tab, h2]
theorem map_getD {β : Type} {f : α → β} {l : List α} {k : Nat} {d : α} {e : β} (h : f d = e) : (l.map f).getD k e = f (l.getD k d) := by
  subst h
  by_cases hk : k < l.length
  · simp [List.getD_eq_getElem?_getD, hk]
  · simp [List.getD_eq_getElem?_getD, List.getElem?_eq_none (show l.length ≤ k by omega)]
end
section
variable {P : Program} {gl : Nat → Option PV} {e : Bool} {s : Env} {H : Hp} {l : Nodes} {Q : Env → Hp → Prop} {d : Option Nat} {bf : Nat} {α : Type} {f : α → PV}
theorem getD_map {xs : List α} {k : Nat} (a0 : α) (h : k < xs.length) : (xs.map f)[k]? = some (f (xs.getD k a0)) := by
  simp [List.getD_eq_getElem?_getD, h]
theorem n_idx_vals {sz : Nat} {x i : RO} {k : IntKind} {xs : List α} {c : Int} (a0 : α) (hx : x.ev gl s = some (.sl (xs.map f))) (hi : i.ev gl s = some (.int k c)) (hz : ∀ a, (f a).cells.length = sz) (h : 0 ≤ c ∧ c < (xs.length : Nat)) (kk : WN P gl e l (s.put d (some (.fptr (f (xs.getD c.toNat a0)).cells))) H Q) : WN P gl e (.op d (.idxAddr sz x i) bf l) s H Q :=
  n_idx_sl hx hi h.1 (getD_map a0 (by omega)) (hz _) kk
theorem n_load_vals {es : Shape} {x : RO} {b g i sz : Nat} {xs : List α} (a0 : α) {r : PV} (hx : x.ev gl s = some (.ptr b g i 0)) (hb : H.f b = some ⟨g, sz, xs.map f⟩) (hr : subv es (f (xs.getD i a0)).cells = some r) (h : i < xs.length) (kk : WN P gl e l (s.put d (some r)) H Q) : WN P gl e (.op d (.load es x) bf l) s H Q :=
  n_load_at hx hb (getD_map a0 h) hr kk
theorem n_store_vals {b g i n sz : Nat} {x v : RO} {p : PV} {xs : List α} (a : α) (hx : x.ev gl s = some (.ptr b g i 0)) (hv : v.ev gl s = some p) (hb : H.f b = some ⟨g, sz, xs.map f⟩) (hp : p = f a) (hf : ∀ a, ((f a).cells.length == n && (f a).cells.all PV.one) = true) (h : i < xs.length) (k : WN P gl e l (s.put d none) (H.set b ⟨g, sz, (xs.set i a).map f⟩) Q) : WN P gl e (.op d (.store n x v) bf l) s H Q := by
  subst hp
  refine n_store (xs' := (xs.set i a).map f) hx hv hb (hf a) ?_ k
  have h1 := hf a
  have h2 := hf xs[i]
  simp only [Bool.and_eq_true, beq_iff_eq] at h1 h2
  have : (xs.map f)[i]? = some (f xs[i]) := by simp [h]
  simp only [putAt, this, Option.bind_eq_bind, Option.bind_some]
  rw [if_pos ⟨trivial, by omega⟩, List.map_set]
theorem n_mk_vals {sz : Nat} {x : RO} {c : Int} {n : Nat} {z : PV} (a : α) (hx : x.ev gl s = some (.int .i64 c)) (hn : H.n = n) (hz : z = f a) (hs : z.cells.length = sz) (hc : 0 ≤ c ∧ c ≤ 1048576) (k : WN P gl e l (s.put d (some (.ref n 0 0 c.toNat))) (H.add [⟨0, sz, (List.replicate c.toNat a).map f⟩]) Q) : WN P gl e (.op d (.mkslice sz z x) bf l) s H Q := by
  subst hz
  refine n_mkslice hx hs hc hn ?_
  rw [show List.replicate c.toNat (f a) = (List.replicate c.toNat a).map f by simp]
  exact k
theorem n_append_vals {sz b g k : Nat} {z : PV} {x v : RO} {q : PV} {xs : List α} (a : α) (hx : x.ev gl s = some (.ref b g 0 k)) (hv : v.ev gl s = some (.lit [q])) (hb : H.f b = some ⟨g, sz, xs.map f⟩) (hq : q = f a) (hz : cellsOk sz [q] = true) (hl : k = xs.length) (hm : k + 1 ≤ 1048576)
    (kk : WN P gl e l (s.put d (some (.ref b (g + 1) 0 (k + 1)))) (H.set b ⟨g + 1, sz, (xs ++ [a]).map f⟩) Q) : WN P gl e (.op d (.append sz z x v) bf l) s H Q := by
  subst hq hl
  refine n_append (ys := [f a]) hx hv hb (by simp) rfl hz (by simpa using hm) (len' := xs.length + 1) (by simp) ?_
  rw [show xs.map f ++ [f a] = (xs ++ [a]).map f by simp]
  exact kk
theorem vals_pure (hf : ∀ a, pureE (f a) = true) (xs : List α) : (xs.map f).all pureE = true := by simp [hf]
theorem fzP_vals {k : Nat} {xs ys : List α} (hf : ∀ a, pureE (f a) = true) (h : xs = ys) : fzP H k (xs.map f) = some (ys.map f) := by subst h; exact fzP_pure (vals_pure hf _)
theorem soft_vals {b g sz len : Nat} {xs : List α} (hb : H.f b = some ⟨g, sz, xs.map f⟩) (hf : ∀ a, pureE (f a) = true) (hl : len = xs.length) : soft1 H true (.ref b g 0 len) = some (.sl (xs.map f)) := by
  subst hl
  have hp := vals_pure hf xs
  have e : elems H (.ref b g 0 xs.length) = some (xs.map f) := by simp [elems, Hp.blk, hb, List.take_of_length_le]
  exact soft1_row e hp
theorem soft_env {o : Bool} {b g sz len : Nat} {xs : List α} (hb : H.f b = some ⟨g, sz, xs.map f⟩) (hf : ∀ a, pureE (f a) = true) (hl : len = xs.length) : soft H true (.agg [.bool o, .ref b g 0 len]) = some (.agg [.bool o, .sl (xs.map f)]) := by
  simp only [soft, soft0, softL, soft_vals hb hf hl, Option.bind_eq_bind, Option.bind_some]
  rfl
theorem fnQ_ret_env {rs : List RRes} {o : Bool} {b g sz len : Nat} {xs : List α} {rr : PV} (h : retOf rs H s = some (.agg [.bool o, .ref b g 0 len])) (hb : H.f b = some ⟨g, sz, xs.map f⟩) (hf : ∀ a, pureE (f a) = true) (hl : len = xs.length) (h3 : .agg [.bool o, .sl (xs.map f)] = rr) : FnQ rs (fun r0 H' => soft H' true r0 = some rr) .ret s H :=
  ⟨_, h, (soft_env hb hf hl).trans (congrArg some h3)⟩
end
end Go.Vm
namespace Go.Vm
section
variable {P : Program} {gl : Nat → Option PV} {e : Bool} {s : Env} {H : Hp} {l : Nodes} {Q : Env → Hp → Prop} {d : Option Nat} {bf : Nat}
theorem n_max_to {x y : RO} {k : IntKind} {a b c : Int} (hx : x.ev gl s = some (.int k a)) (hy : y.ev gl s = some (.int k b)) (h : max a b = c) (kk : WN P gl e l (s.put d (some (.int k c))) H Q) : WN P gl e (.op d (.mm true x [y]) bf l) s H Q := by
  subst h
  exact n_max hx hy kk
end
end Go.Vm
namespace Go.Vm
section
variable {P : Program} {gl : Nat → Option PV} {e : Bool} {s : Env} {H : Hp} {l : Nodes} {Q : Env → Hp → Prop} {d : Option Nat} {bf : Nat}
end
end Go.Vm
namespace Go.Vm
section
variable {P : Program} {gl : Nat → Option PV} {e : Bool} {s : Env} {H : Hp} {l : Nodes} {Q : Env → Hp → Prop} {d : Option Nat} {bf : Nat}
theorem n_nope (h : False) : WN P gl e (.op d .nope bf l) s H Q := h.elim
end
end Go.Vm
namespace Go.Vm
end Go.Vm
namespace Go.Vm
section
variable {P : Program} {gl : Nat → Option PV} {e : Bool} {s : Env} {H : Hp} {l : Nodes} {Q : Env → Hp → Prop} {d : Option Nat} {bf : Nat}
end
end Go.Vm
end
section
/- A call with the heap told as a list. -/
set_option linter.unusedSimpArgs false
set_option linter.unusedVariables false
open Go
namespace Go.Vm
section
variable {P : Program} {gl : Nat → Option PV} {s : Env} {H : Hp} {l : Nodes} {Q : Env → Hp → Prop} {d : Option Nat} {bf : Nat}
end
end Go.Vm
end
section
/- The lattice of bottom, one number of 32 bits, and top: its laws, no program in sight. -/
set_option linter.unusedSimpArgs false
set_option linter.unusedVariables false
namespace Go.Vm
open Go
inductive V3 where
  | bot | one (c : BitVec 32) | top
  deriving DecidableEq
def V3.k : V3 → Int
  | .bot => 0 | .one _ => 1 | .top => 2
def V3.c : V3 → Int
  | .one c => c.toInt
  | _ => 0
abbrev pv (v : V3) : PV := .agg [.int .i64 v.k, .int .i64 v.c]
def vSane (k c : Int) : Bool := if k == 1 then (if c ≥ -2147483648 then decide (c ≤ 2147483647) else false) else if k == 0 then c == 0 else if k == 2 then c == 0 else false
def toV (k c : Int) : V3 := if vSane k c then (if k = 0 then .bot else if k = 1 then .one (BitVec.ofInt 32 c) else .top) else .top
theorem i32_range (b : BitVec 32) : -2147483648 ≤ b.toInt ∧ b.toInt ≤ 2147483647 := by
  have h1 := BitVec.toInt_lt (x := b)
  have h2 := BitVec.le_toInt (x := b)
  simp at h1 h2
  omega
theorem vSane_kc (v : V3) : vSane v.k v.c = true := by
  cases v with
  | one b =>
    have := i32_range b
    simp [vSane, V3.k, V3.c, this.1, this.2]
  | _ => simp [vSane, V3.k, V3.c]
theorem toV_kc (v : V3) : toV v.k v.c = v := by
  unfold toV
  rw [if_pos (vSane_kc v)]
  cases v <;> simp [V3.k, V3.c]
theorem toInt_ofInt32 (n : Int) : (BitVec.ofInt 32 n).toInt = (n + 2147483648) % 4294967296 - 2147483648 := by
  rw [BitVec.toInt_ofInt]
  simp only [Int.bmod, show ((2 ^ 32 : Nat) : Int) = 4294967296 from rfl]
  split <;> omega
theorem toV_sane {k c : Int} (h : vSane k c = true) : (toV k c).k = k ∧ (toV k c).c = c := by
  unfold toV
  rw [if_pos h]
  unfold vSane at h
  by_cases h0 : k = 0
  · subst h0
    simp at h
    simp [V3.k, V3.c, h]
  · by_cases h1 : k = 1
    · subst h1
      simp at h
      have e : (BitVec.ofInt 32 c).toInt = c := by
        rw [toInt_ofInt32]
        omega
      simp only [if_true, show ¬ (1 : Int) = 0 by decide, if_false, V3.k, V3.c, e]
      exact ⟨trivial, trivial⟩
    · simp [h0, h1] at h
      simp [V3.k, V3.c, h0, h1, h]
theorem toV_unsane {k c : Int} (h : vSane k c = false) : toV k c = .top := by simp [toV, h]
theorem ofInt_wrap (n : Int) : BitVec.ofInt 32 (IntKind.i64.wrap n) = BitVec.ofInt 32 n := by
  apply BitVec.eq_of_toInt_eq
  rw [toInt_ofInt32, toInt_ofInt32, IntKind.wrap_i64]
  omega
def V3.join : V3 → V3 → V3
  | .bot, b => b
  | a, .bot => a
  | a, b => if a = b then b else .top
def V3.leq (a b : V3) : Bool := decide (a.join b = b)
def V3.each (f : BitVec 32 → BitVec 32 → BitVec 32) : V3 → V3 → V3
  | .bot, _ => .bot
  | _, .bot => .bot
  | .one x, .one y => .one (f x y)
  | _, _ => .top
def V3.add := V3.each (· + ·)
def V3.sub := V3.each (· - ·)
def V3.mul := V3.each (· * ·)
def V3.neg (a : V3) : V3 := V3.sub (.one 0) a
theorem V3.eq_iff (a b : V3) : a = b ↔ a.k = b.k ∧ a.c = b.c := by
  cases a <;> cases b <;> simp [V3.k, V3.c, BitVec.toInt_inj]
theorem V3.beq (a b : V3) : (a.k == b.k && (a.c == b.c && true)) = decide (a = b) := by
  rw [Bool.eq_iff_iff]
  simp [V3.eq_iff]
variable (a b c : V3)
theorem V3.leq_refl : a.leq a = true := by cases a <;> simp [V3.leq, V3.join]
theorem V3.join_comm : a.join b = b.join a := by
  cases a <;> cases b <;> simp [V3.join] 
  split <;> simp_all [eq_comm]
theorem V3.join_assoc : (a.join b).join c = a.join (b.join c) := by
  cases a with
  | bot => simp [V3.join]
  | top => cases b <;> cases c <;> simp [V3.join] <;> split <;> simp_all [V3.join]
  | one x =>
    cases b with
    | bot => simp [V3.join]
    | top => cases c <;> simp [V3.join]
    | one y =>
      cases c with
      | bot => by_cases h : x = y <;> simp [V3.join, h]
      | top => by_cases h : x = y <;> simp [V3.join, h]
      | one z => by_cases h : x = y <;> by_cases h2 : y = z <;> simp_all [V3.join]
end Go.Vm
namespace Go.Vm
theorem o_add (x y : BitVec 32) : BitVec.ofInt 32 (IntKind.i64.wrap (x.toInt + y.toInt)) = x + y := by
  rw [ofInt_wrap, BitVec.ofInt_add, BitVec.ofInt_toInt, BitVec.ofInt_toInt]
theorem o_sub (x y : BitVec 32) : BitVec.ofInt 32 (IntKind.i64.wrap (x.toInt - y.toInt)) = x - y := by
  rw [ofInt_wrap, Int.sub_eq_add_neg, BitVec.ofInt_add, BitVec.ofInt_neg, BitVec.ofInt_toInt, BitVec.ofInt_toInt, BitVec.sub_eq_add_neg]
theorem o_mul (x y : BitVec 32) : BitVec.ofInt 32 (IntKind.i64.wrap (x.toInt * y.toInt)) = x * y := by
  rw [ofInt_wrap, BitVec.ofInt_mul, BitVec.ofInt_toInt, BitVec.ofInt_toInt]
end Go.Vm
namespace Go.Vm
end Go.Vm
namespace Go.Vm
end Go.Vm
namespace Go.Vm
theorem V3.leq_join (a b : V3) : a.leq (a.join b) = true := by
  rcases a with _ | x | _ <;> rcases b with _ | y | _ <;> simp [V3.leq, V3.join]
  by_cases h : x = y <;> simp [h, V3.join]
theorem V3.leq_iff (a b : V3) : a.leq b = true ↔ a = .bot ∨ a = b ∨ b = .top := by
  cases a <;> cases b <;> simp [V3.leq, V3.join]
theorem V3.each_rises (o : BitVec 32 → BitVec 32 → BitVec 32) (a b c d : V3) (h : a.leq c = true) (k : b.leq d = true) : (V3.each o a b).leq (V3.each o c d) = true := by
  rw [V3.leq_iff] at *
  cases a <;> cases b <;> cases c <;> cases d <;> simp_all [V3.each]
theorem V3.add_rises (a b c d : V3) : (V3.add a b).leq (V3.add (a.join c) (b.join d)) = true := V3.each_rises _ _ _ _ _ (V3.leq_join a c) (V3.leq_join b d)
theorem V3.sub_rises (a b c d : V3) : (V3.sub a b).leq (V3.sub (a.join c) (b.join d)) = true := V3.each_rises _ _ _ _ _ (V3.leq_join a c) (V3.leq_join b d)
theorem V3.mul_rises (a b c d : V3) : (V3.mul a b).leq (V3.mul (a.join c) (b.join d)) = true := V3.each_rises _ _ _ _ _ (V3.leq_join a c) (V3.leq_join b d)
theorem V3.neg_rises (a c : V3) : (V3.neg a).leq (V3.neg (a.join c)) = true := V3.each_rises _ _ _ _ _ (V3.leq_refl _) (V3.leq_join a c)
end Go.Vm
end
section
/- Numbers of 32 bits: the laws that the statements ask. -/
namespace Go.Vm
section
variable (x y z : BitVec 32)
end
end Go.Vm
namespace Go.Vm
section
variable (a b c : V3)
end
end Go.Vm
end
section
/- Sets of signs: three bits; the laws, no program in sight. -/
set_option linter.unusedSimpArgs false
set_option linter.unusedVariables false
namespace Go.Vm
open Go
def i64r (n : Int) : Prop := -9223372036854775808 ≤ n ∧ n ≤ 9223372036854775807
def sn (s : Int) : Int := if 0 ≤ s ∧ s ≤ 7 then s else 7
theorem sn_cases (s : Int) : sn s = 0 ∨ sn s = 1 ∨ sn s = 2 ∨ sn s = 3 ∨ sn s = 4 ∨ sn s = 5 ∨ sn s = 6 ∨ sn s = 7 := by
  unfold sn
  split <;> omega
theorem sn_sn (s : Int) : sn (sn s) = sn s := by
  unfold sn
  split <;> rfl
theorem andNot7 (x : BitVec 64) : (x &&& ~~~(7#64)).toNat = x.toNat / 8 * 8 := by
  have : x &&& ~~~(7#64) = (x >>> 3) <<< 3 := by
    apply BitVec.eq_of_getLsbD_eq
    intro i hi
    simp only [BitVec.getLsbD_and, BitVec.getLsbD_not, BitVec.getLsbD_shiftLeft, BitVec.getLsbD_ushiftRight, hi, decide_true, Bool.true_and]
    by_cases h : i < 3
    · have : i = 0 ∨ i = 1 ∨ i = 2 := by omega
      rcases this with rfl | rfl | rfl <;> simp
    · have h7 : (7#64).getLsbD i = false := by
        have : (7#64).getLsbD i = (7 : Nat).testBit i := by simp [BitVec.getLsbD]
        rw [this]
        exact Nat.testBit_lt_two_pow (Nat.lt_of_lt_of_le (by decide : 7 < 2 ^ 3) (Nat.pow_le_pow_right (by decide) (by omega)))
      rw [h7]
      simp [h, show 3 + (i - 3) = i by omega]
  rw [this]
  simp only [BitVec.toNat_shiftLeft, BitVec.toNat_ushiftRight, Nat.shiftLeft_eq, Nat.shiftRight_eq_div_pow]
  have := x.isLt
  omega
theorem sane_bits (s : Int) (h : i64r s) : (IntKind.i64.wrap ((BitVec.ofInt 64 s &&& ~~~(BitVec.ofInt 64 7)).toNat : Int) == 0) = decide (0 ≤ s ∧ s ≤ 7) := by
  rw [show BitVec.ofInt 64 7 = 7#64 from rfl, andNot7, BitVec.toNat_ofInt, IntKind.wrap_i64]
  obtain ⟨h1, h2⟩ := h
  rw [Bool.eq_iff_iff, beq_iff_eq, decide_eq_true_iff]
  simp only [show ((2 ^ 64 : Nat) : Int) = 18446744073709551616 from rfl]
  omega
def sOr (a b : Int) : Int := IntKind.i64.wrap ((BitVec.ofInt 64 a ||| BitVec.ofInt 64 b).toNat : Int)
def sJoin (a b : Int) : Int := sOr (sn a) (sn b)
def sLeq (a b : Int) : Bool := IntKind.i64.wrap ((BitVec.ofInt 64 (sn a) &&& ~~~(BitVec.ofInt 64 (sn b))).toNat : Int) == 0
def sOf (c : Int) : Int := if c < 0 then 1 else if c > 0 then 4 else 2
def sList (s : Int) : List Int := (if (sn s) % 2 == 1 then [-1] else []) ++ (if (sn s) / 2 % 2 == 1 then [0] else []) ++ (if (sn s) / 4 % 2 == 1 then [1] else [])
end Go.Vm
end
section
/- What is known of variables: a value for each, or nothing. -/
set_option linter.unusedSimpArgs false
set_option linter.unusedVariables false
namespace Go.Vm
open Go
abbrev pq (q : Int × Int) : PV := .agg [.int .i64 q.1, .int .i64 q.2]
def fq (q : Int × Int) : V3 := toV q.1 q.2
section
variable {α T : Type}
abbrev eIn (f : α → PV) (on : Bool) (l : List α) : PV := .agg [.bool on, .sl (l.map f)]
def eAbs (g : α → T) (on : Bool) (l : List α) : Option (List T) := if on then some (l.map g) else none
def eOn : Option (List T) → Bool
  | none => false
  | some _ => true
def eV : Option (List T) → List T
  | none => []
  | some l => l
abbrev eOut (f : T → PV) (e : Option (List T)) : PV := .agg [.bool (eOn e), .sl ((eV e).map f)]
def eGet (z : T) (e : Option (List T)) (i : Int) : T := if 0 ≤ i then (eV e).getD i.toNat z else z
def eSet (e : Option (List T)) (i : Int) (x : T) : Option (List T) := e.map fun l => if 0 ≤ i then l.set i.toNat x else l
def eJoin (z : T) (j : T → T → T) (a b : Option (List T)) : Option (List T) :=
  match a, b with
  | none, b => b
  | some a, none => some a
  | some a, some b => some (tab (max a.length b.length) fun k => j (a.getD k z) (b.getD k z))
def eLeq (z : T) (le : T → T → Bool) (a b : Option (List T)) : Bool :=
  match a, b with
  | none, _ => true
  | some _, none => false
  | some a, some b => (List.range (max a.length b.length)).all fun k => le (a.getD k z) (b.getD k z)
theorem eAbs_on (g : α → T) (l : List α) : eAbs g true l = some (l.map g) := rfl
theorem eAbs_get {g : α → T} {on : Bool} {l : List α} {i : Int} {a : α} {z : T} (h : g a = z) : eGet z (eAbs g on l) i = if on = true ∧ 0 ≤ i ∧ i < (l.length : Nat) then g (l.getD i.toNat a) else z := by
  unfold eGet eAbs
  cases on with
  | false => simp [eV]
  | true =>
    simp only [if_true, eV, true_and]
    by_cases h0 : 0 ≤ i
    · rw [if_pos h0]
      by_cases h1 : i < (l.length : Nat)
      · rw [if_pos ⟨h0, h1⟩, map_getD h]
      · rw [if_neg (fun h => h1 h.2), List.getD_eq_getElem?_getD, List.getElem?_eq_none (by simp; omega)]
        rfl
    · rw [if_neg h0, if_neg (fun h => h0 h.1)]
end
theorem eAbs_out (e : Option (List V3)) : eAbs fq (eOn e) ((eV e).map fun v => (v.k, v.c)) = e := by
  cases e with
  | none => rfl
  | some l =>
    simp only [eOn, eV, eAbs_on, List.map_map]
    congr 1
    conv => rhs; rw [← List.map_id l]
    refine List.map_congr_left fun v _ => ?_
    show toV v.k v.c = v
    exact toV_kc v
theorem eOut_in (e : Option (List V3)) : eOut pv e = eIn pq (eOn e) ((eV e).map fun v => (v.k, v.c)) := by
  simp [eOut, eIn]
end Go.Vm
namespace Go.Vm
section
variable {α T : Type}
def eAll (n : Int) (x : T) : Option (List T) := some (List.replicate (max 0 (min n 64)).toNat x)
def RepE (f : α → PV) (g : α → T) (p : PV) (e : Option (List T)) : Prop := ∃ on l, p = eIn f on l ∧ eAbs g on l = e ∧ l.length ≤ 500
def Few (e : Option (List T)) : Prop := (eV e).length ≤ 500
theorem RepE.few {f : α → PV} {g : α → T} {p : PV} {e : Option (List T)} (h : RepE f g p e) : Few e := by
  obtain ⟨on, l, _, rfl, hl⟩ := h
  unfold Few eAbs
  cases on with
  | false => simp [eV]
  | true => simpa [eV] using hl
theorem few_join {z : T} {j : T → T → T} {a b : Option (List T)} (ha : Few a) (hb : Few b) : Few (eJoin z j a b) := by
  cases a with
  | none => exact hb
  | some a =>
    cases b with
    | none => exact ha
    | some b =>
      unfold Few at *
      simp only [eJoin, eV, tab_length] at *
      omega
theorem few_set {e : Option (List T)} {i : Int} {x : T} (h : Few e) : Few (eSet e i x) := by
  cases e with
  | none => exact h
  | some l =>
    unfold Few at *
    simp only [eSet, Option.map_some, eV] at *
    split
    · simpa using h
    · exact h
theorem few_all {n : Int} {x : T} : Few (eAll n x) := by
  unfold Few
  simp only [eAll, eV, List.length_replicate]
  omega
theorem few_none : Few (none : Option (List T)) := by simp [Few, eV]
end
theorem rep_outF {e : Option (List V3)} (h : Few e) : RepE pq fq (eOut pv e) e := ⟨eOn e, (eV e).map fun v => (v.k, v.c), eOut_in e, eAbs_out e, by unfold Few at h; simpa using h⟩
theorem rep_inF (on : Bool) (l : List (Int × Int)) (h : l.length ≤ 500) : RepE pq fq (eIn pq on l) (eAbs fq on l) := ⟨on, l, rfl, rfl, h⟩
end Go.Vm
end
section
/- What is known of variables' signs. -/
set_option linter.unusedSimpArgs false
set_option linter.unusedVariables false
namespace Go.Vm
open Go
abbrev I64 := {x : Int // i64r x}
abbrev S8 := {x : Int // 0 ≤ x ∧ x ≤ 7}
abbrev pi (x : I64) : PV := .int .i64 x.1
abbrev ps (x : S8) : PV := .int .i64 x.1
theorem sn_07 (x : Int) : 0 ≤ sn x ∧ sn x ≤ 7 := by unfold sn; split <;> omega
def s8 (x : I64) : S8 := ⟨sn x.1, sn_07 _⟩
def z8 : S8 := ⟨0, by omega⟩
def zi : I64 := ⟨0, by unfold i64r; omega⟩
def S8.i (x : S8) : I64 := ⟨x.1, by have := x.2; unfold i64r; omega⟩
theorem s8_i (v : S8) : s8 v.i = v := Subtype.ext (by show sn v.1 = v.1; unfold sn; rw [if_pos v.2])
theorem sOr_07 : ∀ a b : Fin 8, 0 ≤ sOr (a.1 : Int) (b.1 : Int) ∧ sOr (a.1 : Int) (b.1 : Int) ≤ 7 := by decide +kernel
theorem sOr_r {a b : Int} (ha : 0 ≤ a ∧ a ≤ 7) (hb : 0 ≤ b ∧ b ≤ 7) : 0 ≤ sOr a b ∧ sOr a b ≤ 7 := by
  have := sOr_07 ⟨a.toNat, by omega⟩ ⟨b.toNat, by omega⟩
  simp only [Int.toNat_of_nonneg ha.1, Int.toNat_of_nonneg hb.1] at this
  exact this
def S8.join (a b : S8) : S8 := ⟨sJoin a.1 b.1, sOr_r (sn_07 _) (sn_07 _)⟩
def S8.leq (a b : S8) : Bool := sLeq a.1 b.1
theorem S8.i64 (a : S8) : i64r a.1 := by have := a.2; unfold i64r; omega
theorem s8_zero : s8 zi = z8 := rfl
theorem eAbs_outS (e : Option (List S8)) : eAbs s8 (eOn e) ((eV e).map S8.i) = e := by
  cases e with
  | none => rfl
  | some l =>
    simp only [eOn, eV, eAbs_on, List.map_map]
    congr 1
    conv => rhs; rw [← List.map_id l]
    exact List.map_congr_left fun v _ => s8_i v
theorem eOutS_in (e : Option (List S8)) : eOut ps e = eIn pi (eOn e) ((eV e).map S8.i) := by
  simp only [eOut, eIn, List.map_map]
  rfl
theorem rep_outS {e : Option (List S8)} (h : Few e) : RepE pi s8 (eOut ps e) e := ⟨eOn e, (eV e).map S8.i, eOutS_in e, eAbs_outS e, by unfold Few at h; simpa using h⟩
theorem rep_inS (on : Bool) (l : List I64) (h : l.length ≤ 500) : RepE pi s8 (eIn pi on l) (eAbs s8 on l) := ⟨on, l, rfl, rfl, h⟩
end Go.Vm
namespace Go.Vm
end Go.Vm
end
section
/- The lattice of what is known of variables: its laws, no program in sight. -/
set_option linter.unusedSimpArgs false
set_option linter.unusedVariables false
namespace Go.Vm
open Go
structure Lat {T : Type} (z : T) (j : T → T → T) (le : T → T → Bool) : Prop where
  comm : ∀ a b, j a b = j b a
  assoc : ∀ a b c, j (j a b) c = j a (j b c)
  idem : ∀ a, j a a = a
  bot : ∀ a, j z a = a
  refl : ∀ a, le a a = true
  trans : ∀ a b c, le a b = true → le b c = true → le a c = true
  up : ∀ a b, le a (j a b) = true
  two : ∀ a b c, (le a c && le b c) = le (j a b) c
  least : ∀ a, le z a = true
section
variable {T : Type} {z : T} {j : T → T → T} {le : T → T → Bool}
theorem getD_ge {l : List T} {k : Nat} (h : l.length ≤ k) : l.getD k z = z := by
  rw [List.getD_eq_getElem?_getD, List.getElem?_eq_none h]; rfl
theorem Lat.getJ (h : Lat z j le) (a b : List T) (k : Nat) : (tab (max a.length b.length) fun k => j (a.getD k z) (b.getD k z)).getD k z = j (a.getD k z) (b.getD k z) := by
  rw [tab_getD']
  split
  · rfl
  · rename_i hk
    rw [getD_ge (by omega), getD_ge (by omega), h.bot]
theorem Lat.leq_iff (h : Lat z j le) (a b : List T) : eLeq z le (some a) (some b) = true ↔ ∀ k, le (a.getD k z) (b.getD k z) = true := by
  simp only [eLeq, List.all_eq_true, List.mem_range]
  constructor
  · intro hh k
    by_cases hk : k < max a.length b.length
    · exact hh k hk
    · rw [getD_ge (by omega), getD_ge (by omega)]
      exact h.refl z
  · exact fun hh k _ => hh k
theorem Lat.e_refl (h : Lat z j le) (a : Option (List T)) : eLeq z le a a = true := by
  cases a with
  | none => rfl
  | some a => exact (h.leq_iff a a).2 fun k => h.refl _
theorem Lat.e_trans (h : Lat z j le) {a b c : Option (List T)} (h1 : eLeq z le a b = true) (h2 : eLeq z le b c = true) : eLeq z le a c = true := by
  cases a with
  | none => rfl
  | some a =>
    cases b with
    | none => cases h1
    | some b =>
      cases c with
      | none => cases h2
      | some c =>
        rw [h.leq_iff] at *
        exact fun k => h.trans _ _ _ (h1 k) (h2 k)
theorem Lat.e_up (h : Lat z j le) (a b : Option (List T)) : eLeq z le a (eJoin z j a b) = true := by
  cases a with
  | none => rfl
  | some a =>
    cases b with
    | none => exact h.e_refl (some a)
    | some b =>
      simp only [eJoin]
      rw [h.leq_iff]
      intro k
      rw [h.getJ]
      exact h.up _ _
theorem eGet_some (l : List T) (i : Int) : eGet z (some l) i = if 0 ≤ i then l.getD i.toNat z else z := rfl
theorem Lat.get_join (h : Lat z j le) (a b : Option (List T)) (i : Int) : eGet z (eJoin z j a b) i = j (eGet z a i) (eGet z b i) := by
  cases a with
  | none =>
    have : eGet z (none : Option (List T)) i = z := by simp [eGet, eV]
    rw [this, h.bot]; rfl
  | some a =>
    cases b with
    | none =>
      have : eGet z (none : Option (List T)) i = z := by simp [eGet, eV]
      rw [this, h.comm, h.bot]; rfl
    | some b =>
      simp only [eJoin, eGet_some]
      split
      · exact h.getJ a b _
      · rw [h.bot]
theorem Lat.set_mono (h : Lat z j le) (e : Option (List T)) (i : Int) {x y : T} (hxy : le x y = true) : eLeq z le (eSet e i x) (eSet e i y) = true := by
  cases e with
  | none => rfl
  | some l =>
    simp only [eSet, Option.map_some]
    split
    · rw [h.leq_iff]
      intro k
      by_cases hk : k = i.toNat
      · subst hk
        by_cases hl : i.toNat < l.length
        · rw [List.getD_eq_getElem?_getD, List.getElem?_set_self hl, List.getD_eq_getElem?_getD, List.getElem?_set_self hl]
          exact hxy
        · rw [List.set_eq_of_length_le (by omega), List.set_eq_of_length_le (by omega)]
          exact h.refl _
      · rw [List.getD_eq_getElem?_getD, List.getElem?_set_ne (by omega), List.getD_eq_getElem?_getD, List.getElem?_set_ne (by omega)]
        exact h.refl _
    · exact h.e_refl (some l)
end
theorem latF : Lat V3.bot V3.join V3.leq where
  comm := V3.join_comm
  assoc := V3.join_assoc
  idem := fun a => by cases a <;> simp [V3.join]
  bot := fun a => rfl
  refl := V3.leq_refl
  trans := fun a b c h k => by
    rw [V3.leq_iff] at *
    cases a <;> cases b <;> cases c <;> simp_all
  up := V3.leq_join
  two := fun a b c => by
    rw [Bool.eq_iff_iff, Bool.and_eq_true, V3.leq_iff, V3.leq_iff, V3.leq_iff]
    rcases a with _ | x | _ <;> rcases b with _ | y | _ <;> rcases c with _ | w | _ <;> simp [V3.join] <;> (by_cases h : x = y <;> simp_all)
    exact fun e k => h (e.trans k.symm)
  least := fun a => by rw [V3.leq_iff]; left; rfl
theorem S8.all1 {p : S8 → Bool} (h : (List.range 8).all (fun n => if h : n < 8 then p ⟨n, by omega⟩ else true) = true) (a : S8) : p a = true := by
  obtain ⟨x, h0, h1⟩ := a
  obtain ⟨n, rfl⟩ := Int.eq_ofNat_of_zero_le h0
  have := List.all_eq_true.1 h n (List.mem_range.2 (by omega))
  rw [dif_pos (by omega)] at this
  exact this
theorem S8.all2 {p : S8 → S8 → Bool} (h : (List.range 8).all (fun n => if h : n < 8 then (List.range 8).all (fun m => if k : m < 8 then p ⟨n, by omega⟩ ⟨m, by omega⟩ else true) else true) = true) (a b : S8) : p a b = true :=
  S8.all1 (p := fun b => p a b) (S8.all1 (p := fun a => (List.range 8).all (fun m => if k : m < 8 then p a ⟨m, by omega⟩ else true)) h a) b
theorem S8.all3 {p : S8 → S8 → S8 → Bool} (h : (List.range 8).all (fun n => if h : n < 8 then (List.range 8).all (fun m => if k : m < 8 then (List.range 8).all (fun o => if l : o < 8 then p ⟨n, by omega⟩ ⟨m, by omega⟩ ⟨o, by omega⟩ else true) else true) else true) = true) (a b c : S8) : p a b c = true :=
  S8.all1 (p := fun c => p a b c) (S8.all2 (p := fun a b => (List.range 8).all (fun o => if l : o < 8 then p a b ⟨o, by omega⟩ else true)) h a b) c
theorem latS : Lat z8 S8.join S8.leq where
  comm := fun a b => by simpa using S8.all2 (p := fun a b => decide (a.join b = b.join a)) (by decide +kernel) a b
  assoc := fun a b c => by simpa using S8.all3 (p := fun a b c => decide ((a.join b).join c = a.join (b.join c))) (by decide +kernel) a b c
  idem := fun a => by simpa using S8.all1 (p := fun a => decide (a.join a = a)) (by decide +kernel) a
  bot := fun a => by simpa using S8.all1 (p := fun a => decide (z8.join a = a)) (by decide +kernel) a
  refl := fun a => by simpa using S8.all1 (p := fun a => a.leq a) (by decide +kernel) a
  trans := fun a b c h k => by
    have := S8.all3 (p := fun a b c => !(a.leq b && b.leq c) || a.leq c) (by decide +kernel) a b c
    simpa [h, k] using this
  up := fun a b => by simpa using S8.all2 (p := fun a b => a.leq (a.join b)) (by decide +kernel) a b
  two := fun a b c => by simpa using S8.all3 (p := fun a b c => decide ((a.leq c && b.leq c) = (a.join b).leq c)) (by decide +kernel) a b c
  least := fun a => by simpa using S8.all1 (p := fun a => z8.leq a) (by decide +kernel) a
end Go.Vm
namespace Go.Vm
section
variable {α T : Type} {z : T}
end
end Go.Vm
end
section
/- Arguments: what is known of variables. -/
set_option linter.unusedSimpArgs false
set_option linter.unusedVariables false
namespace Go.Vm
open Go
theorem list_of {α : Type} {f : α → PV} : ∀ {l : List PV}, (∀ x ∈ l, ∃ a, x = f a) → ∃ q : List α, l = q.map f
  | [], _ => ⟨[], rfl⟩
  | x :: l, h => by
    obtain ⟨a, rfl⟩ := h x (by simp)
    obtain ⟨q, rfl⟩ := list_of (l := l) fun y hy => h y (by simp [hy])
    exact ⟨a :: q, rfl⟩
theorem fits_envF {x : PV} (h : FitsV (.st (.cons .bool (.cons (.sl (.st (.cons (.int .i64) (.cons (.int .i64) .nil)))) .nil))) x) : ∃ on l, x = eIn pq on l := by
  rcases h with ⟨_, c, rfl, x, y, rfl, ⟨b, rfl⟩, z, u, rfl, ⟨l, rfl, hl, hx⟩, rfl⟩ | ⟨h, _⟩
  · obtain ⟨q, rfl⟩ := list_of (f := pq) fun y hy => by
      obtain ⟨k, c, rfl, _⟩ := fits_val (x := y) (hx y hy)
      exact ⟨(k, c), rfl⟩
    exact ⟨b, q, rfl⟩
  · cases h
theorem fits_i64 {x : PV} (h : FitsV (.int .i64) x) : ∃ n : I64, x = pi n := by
  obtain ⟨n, rfl, hn⟩ := fits_int h
  exact ⟨⟨n, i64_wf hn⟩, rfl⟩
theorem fits_envS {x : PV} (h : FitsV (.st (.cons .bool (.cons (.sl (.int .i64)) .nil))) x) : ∃ on l, x = eIn pi on l := by
  rcases h with ⟨_, c, rfl, x, y, rfl, ⟨b, rfl⟩, z, u, rfl, ⟨l, rfl, hl, hx⟩, rfl⟩ | ⟨h, _⟩
  · obtain ⟨q, rfl⟩ := list_of (f := pi) fun y hy => fits_i64 (x := y) (hx y hy)
    exact ⟨b, q, rfl⟩
  · cases h
end Go.Vm
end
section
/- Instructions: eleven numbers; what may be; no program in sight. -/
set_option linter.unusedSimpArgs false
set_option linter.unusedVariables false
namespace Go.Vm
open Go
structure In where
  id : Int
  kind : Int
  dst : Int
  a : Int
  b : Int
  c : Int
  f : Int
  n : Int
  x : Int
  y : Int
  z : Int
  deriving DecidableEq
abbrev pI (i : In) : PV := .agg [.int .i64 i.id, .int .i64 i.kind, .int .i64 i.dst, .int .i64 i.a, .int .i64 i.b, .int .i64 i.c, .int .i64 i.f, .int .i64 i.n, .int .i64 i.x, .int .i64 i.y, .int .i64 i.z]
def hD (k : Int) : Bool := decide (0 ≤ k) && decide (k ≤ 7)
def hA (k : Int) : Bool := decide (1 ≤ k) && decide (k ≤ 5) || k == 8 || k == 9
def hB (k : Int) : Bool := decide (3 ≤ k) && decide (k ≤ 5)
def hC (k : Int) : Bool := k == 0
def hF (k : Int) : Bool := k == 7
def bareI (i : In) : In := ⟨0, 0, if hD i.kind then 0 else i.dst, if hA i.kind then 0 else i.a, if hB i.kind then 0 else i.b, if hC i.kind then 0 else i.c, if hF i.kind then 0 else i.f, if hF i.kind then 0 else i.n,
  if hF i.kind && decide (0 < i.n) then 0 else i.x, if hF i.kind && decide (1 < i.n) then 0 else i.y, if hF i.kind && decide (2 < i.n) then 0 else i.z⟩
def i0 : In := ⟨0, 0, 0, 0, 0, 0, 0, 0, 0, 0, 0⟩
def form (i : In) : Bool :=
  decide (0 ≤ i.kind ∧ i.kind ≤ 9) && decide (0 ≤ i.id ∧ i.id ≤ 95) && decide (0 ≤ i.n ∧ i.n ≤ 3) && decide (-2147483648 ≤ i.c ∧ i.c ≤ 2147483647) &&
  decide (0 ≤ i.dst ∧ 0 ≤ i.a ∧ 0 ≤ i.b ∧ 0 ≤ i.f ∧ 0 ≤ i.x ∧ 0 ≤ i.y ∧ 0 ≤ i.z) && decide (bareI i = i0)
def defI (i : In) : Int := if form i && hD i.kind then i.dst else -1
def dedup (l : List Int) : List Int := l.foldl (fun o v => if o.contains v then o else o ++ [v]) []
def rawUses (i : In) : List Int := (if hA i.kind then [i.a] else []) ++ (if hB i.kind then [i.b] else []) ++ [i.x, i.y, i.z].take i.n.toNat
def usesI (i : In) : List Int := if form i then dedup (rawUses i) else []
def nmL : List ByteArray := [⟨#[99, 111, 110, 115, 116]⟩, ⟨#[99, 111, 112, 121]⟩, ⟨#[110, 101, 103]⟩, ⟨#[97, 100, 100]⟩, ⟨#[115, 117, 98]⟩, ⟨#[109, 117, 108]⟩, ⟨#[105, 110, 112, 117, 116]⟩, ⟨#[99, 97, 108, 108]⟩, ⟨#[117, 115, 101]⟩, ⟨#[114, 101, 116]⟩]
def bs0 : ByteArray := ⟨#[]⟩
def nm (k : Int) : ByteArray := if 0 ≤ k ∧ k ≤ 9 then nmL.getD k.toNat bs0 else bs0
def ptL : List ByteArray := [⟨#[100, 99]⟩, ⟨#[100, 97]⟩, ⟨#[100, 97]⟩, ⟨#[100, 97, 98]⟩, ⟨#[100, 97, 98]⟩, ⟨#[100, 97, 98]⟩, ⟨#[100]⟩, ⟨#[100, 102]⟩, ⟨#[97]⟩, ⟨#[97]⟩]
def pt (k : Int) : ByteArray := if 0 ≤ k ∧ k ≤ 9 then ptL.getD k.toNat bs0 else bs0
def asciiL : List PV := (List.range 256).map fun i => .int .u8 (if i = 9 ∨ i = 10 ∨ i = 11 ∨ i = 12 ∨ i = 13 ∨ i = 32 then 1 else 0)
theorem kind_cases (k : Int) : k = 0 ∨ k = 1 ∨ k = 2 ∨ k = 3 ∨ k = 4 ∨ k = 5 ∨ k = 6 ∨ k = 7 ∨ k = 8 ∨ k = 9 ∨ (k < 0 ∨ 9 < k) := by omega
end Go.Vm
namespace Go.Vm
section
variable {P : Program} {gl : Nat → Option PV} {e : Bool} {s : Env} {H : Hp} {l : Nodes} {Q : Env → Hp → Prop} {d : Option Nat} {bf : Nat}
theorem n_eprim {t : EPrim} {args : List RO} {r : PV} {H' : Hp} (h : stepE (RO.ev gl s) H (.eprim t args) = some (some r, H')) (k : WN P gl e l (s.put d (some r)) H' Q) : WN P gl e (.op d (.eprim t args) bf l) s H Q := ⟨some r, H', h, k⟩
end
end Go.Vm
namespace Go.Vm
section
variable {P : Program} {gl : Nat → Option PV} {e : Bool} {s : Env} {H : Hp} {l : Nodes} {Q : Env → Hp → Prop} {d : Option Nat} {bf : Nat}
theorem mm2_min {k : IntKind} {a b : Int} : mm2 false (.int k a) (.int k b) = some (.int k (min a b)) := by
  simp only [mm2, Bool.false_eq_true, if_false]
  congr 2
  omega
theorem n_min5 {x y1 y2 y3 y4 : RO} {k : IntKind} {a b1 b2 b3 b4 : Int} (hx : x.ev gl s = some (.int k a)) (h1 : y1.ev gl s = some (.int k b1)) (h2 : y2.ev gl s = some (.int k b2)) (h3 : y3.ev gl s = some (.int k b3)) (h4 : y4.ev gl s = some (.int k b4))
    (kk : WN P gl e l (s.put d (some (.int k (min (min (min (min a b1) b2) b3) b4)))) H Q) : WN P gl e (.op d (.mm false x [y1, y2, y3, y4]) bf l) s H Q := by
  refine n_val (r := .int k (min (min (min (min a b1) b2) b3) b4)) rfl ?_ kk
  simp only [stepN, hx, h1, h2, h3, h4, mmL, mm2_min, Option.bind_eq_bind, Option.bind_some, Option.pure_def]
end
theorem nm_empty (k : Int) : ((nm k).toList == bs0.toList) = !decide (0 ≤ k ∧ k ≤ 9) := by
  rcases kind_cases k with rfl | rfl | rfl | rfl | rfl | rfl | rfl | rfl | rfl | rfl | h
  any_goals decide +kernel
  rw [nm, if_neg (by omega), decide_eq_false (by omega : ¬ (0 ≤ k ∧ k ≤ 9))]
  decide +kernel
theorem eq_i0 (j : In) : (j.id == 0 && (j.kind == 0 && (j.dst == 0 && (j.a == 0 && (j.b == 0 && (j.c == 0 && (j.f == 0 && (j.n == 0 && (j.x == 0 && (j.y == 0 && (j.z == 0 && true))))))))))) = decide (j = i0) := by
  obtain ⟨id, k, dst, a, b, c, f, n, x, y, z⟩ := j
  rw [Bool.eq_iff_iff, decide_eq_true_eq]
  simp [i0]
theorem form_f {i : In} (h : ((nm i.kind).toList == bs0.toList || decide (i.id < 0) || decide (i.id ≥ 96) || decide (i.n < 0) || decide (i.n > 3) || decide (i.c < -2147483648) || decide (i.c > 2147483647)) = true) : form i = false := by
  rw [nm_empty] at h
  cases hf : form i with
  | false => rfl
  | true =>
    simp only [form, Bool.and_eq_true, decide_eq_true_eq] at hf
    simp only [Bool.or_eq_true, Bool.not_eq_true', decide_eq_false_iff_not, decide_eq_true_eq] at h
    omega
theorem form_t {i : In} (h : ((nm i.kind).toList == bs0.toList || decide (i.id < 0) || decide (i.id ≥ 96) || decide (i.n < 0) || decide (i.n > 3) || decide (i.c < -2147483648) || decide (i.c > 2147483647)) = false) : form i = (decide (min (min (min (min i.dst i.a) i.b) i.f) (min (min i.x i.y) i.z) ≥ 0) && decide (bareI i = i0)) := by
  rw [nm_empty] at h
  simp only [Bool.or_eq_false_iff, Bool.not_eq_false', decide_eq_true_eq, decide_eq_false_iff_not] at h
  rw [form, decide_eq_true (by omega : 0 ≤ i.kind ∧ i.kind ≤ 9), decide_eq_true (by omega : 0 ≤ i.id ∧ i.id ≤ 95), decide_eq_true (by omega : 0 ≤ i.n ∧ i.n ≤ 3), decide_eq_true (by omega : -2147483648 ≤ i.c ∧ i.c ≤ 2147483647)]
  simp only [Bool.true_and]
  congr 1
  rw [decide_eq_decide]
  omega
end Go.Vm
end
section
/- Rows of numbers; where one is; each once. -/
set_option linter.unusedSimpArgs false
set_option linter.unusedVariables false
namespace Go.Vm
open Go
abbrev pint (n : Int) : PV := .int .i64 n
section
variable {P : Program} {gl : Nat → Option PV} {e : Bool} {s : Env} {H : Hp} {l : Nodes} {Q : Env → Hp → Prop} {d : Option Nat} {bf : Nat} {α : Type} {f : α → PV}
theorem softs_vals {b g sz len : Nat} {xs : List α} {r r' : List PV} (hb : H.f b = some ⟨g, sz, xs.map f⟩) (hf : ∀ a, pureE (f a) = true) (hl : len = xs.length) (hr : softs H true r = some r') : softs H true (.ref b g 0 len :: r) = some (.sl (xs.map f) :: r') := by
  simp only [softs, soft, soft0, soft_vals hb hf hl, hr, Option.bind_eq_bind, Option.bind_some]
theorem fzP_eqp {k : Nat} {xs ys : List PV} (h : xs = ys) (hp : xs.all pureE = true) : fzP H k xs = some ys := by subst h; exact fzP_pure hp
end
def ixOf (l : List Int) (v : Int) : Int := if l.findIdx (· == v) < l.length then (l.findIdx (· == v) : Nat) else -1
theorem ixOf_at {l : List Int} {v : Int} {k : Nat} (hk : k < l.length) (h : l.getD k 0 = v) (hn : ∀ j, j < k → l.getD j 0 ≠ v) : ixOf l v = k := by
  have e : l.findIdx (· == v) = k := by
    rw [List.findIdx_eq hk]
    refine ⟨?_, fun j hj => ?_⟩
    · simp only [List.getD_eq_getElem?_getD, List.getElem?_eq_getElem hk, Option.getD_some] at h
      simpa using h
    · have := hn j hj
      simp only [List.getD_eq_getElem?_getD, List.getElem?_eq_getElem (show j < l.length by omega), Option.getD_some] at this
      simpa using this
  rw [ixOf, e, if_pos hk]
theorem ixOf_no {l : List Int} {v : Int} (hn : ∀ j, j < l.length → l.getD j 0 ≠ v) : ixOf l v = -1 := by
  rw [ixOf, if_neg]
  rw [List.findIdx_lt_length]
  rintro ⟨x, hx, he⟩
  obtain ⟨j, hj, rfl⟩ := List.mem_iff_getElem.1 hx
  have := hn j hj
  simp only [List.getD_eq_getElem?_getD, List.getElem?_eq_getElem hj, Option.getD_some] at this
  exact this (by simpa using he)
theorem ixOf_in (l : List Int) (v : Int) : decide (ixOf l v ≥ 0) = l.contains v := by
  unfold ixOf
  by_cases h : l.findIdx (· == v) < l.length
  · rw [if_pos h]
    rw [List.findIdx_lt_length] at h
    obtain ⟨x, hx, he⟩ := h
    have : x = v := by simpa using he
    subst this
    rw [List.contains_iff_mem.2 hx]
    simp
  · rw [if_neg h]
    rw [List.findIdx_lt_length] at h
    have : l.contains v = false := by
      rw [Bool.eq_false_iff]
      intro hc
      exact h ⟨v, List.contains_iff_mem.1 hc, by simp⟩
    rw [this]; rfl
def dd (o : List Int) (v : Int) : List Int := if o.contains v then o else o ++ [v]
theorem dedup_snoc (l : List Int) (v : Int) : dedup (l ++ [v]) = dd (dedup l) v := by simp [dedup, dd, List.foldl_append]
end Go.Vm
namespace Go.Vm
section
variable {P : Program} {gl : Nat → Option PV} {e : Bool} {s : Env} {H : Hp} {l : Nodes} {Q : Env → Hp → Prop} {d : Option Nat} {bf : Nat} {α : Type} {f : α → PV}
theorem n_append_valsL {sz b g k len' : Nat} {z : PV} {x v : RO} {q : PV} {xs : List α} (a : α) (hx : x.ev gl s = some (.ref b g 0 k)) (hv : v.ev gl s = some (.lit [q])) (hb : H.f b = some ⟨g, sz, xs.map f⟩) (hq : q = f a) (hz : cellsOk sz [q] = true) (hl : k = xs.length) (hm : k + 1 ≤ 1048576) (hl' : (xs ++ [a]).length = len')
    (kk : WN P gl e l (s.put d (some (.ref b (g + 1) 0 len'))) (H.set b ⟨g + 1, sz, (xs ++ [a]).map f⟩) Q) : WN P gl e (.op d (.append sz z x v) bf l) s H Q := by
  subst hl'
  exact n_append_vals a hx hv hb hq hz hl hm (by rw [hl]; simpa using kk)
end
end Go.Vm
end
section
/- What is live; what reaches; as numbers. -/
set_option linter.unusedSimpArgs false
set_option linter.unusedVariables false
set_option exponentiation.threshold 2000
namespace Go.Vm
open Go
def liveV (M : Int) (a : Nat) (i : In) : Nat := vWout M a (defI i) ||| ofV M (usesI i)
def reachV (M : Int) (a : Nat) (i : In) (ids : List Int) : Nat := if defI i = -1 then a else vWith M (minus a (ofV M ids)) i.id
theorem ok_live {M : Int} {a : Nat} (h : Ok M a) (i : In) : Ok M (liveV M a i) := by
  have := ok_or (ok_wout (i := defI i) h) (ok_ofV M (usesI i) h.r)
  rwa [show max M M = M by omega] at this
theorem ok_reach {M : Int} {a : Nat} (h : Ok M a) (i : In) (ids : List Int) : Ok M (reachV M a i ids) := by
  unfold reachV
  split
  · exact h
  · have := ok_minus h (ok_ofV M ids h.r)
    rw [show max M M = M by omega] at this
    exact ok_with this
end Go.Vm
end
section
/- What an instruction makes, of numbers. -/
set_option linter.unusedSimpArgs false
set_option linter.unusedVariables false
namespace Go.Vm
open Go
def numV (e : Option (List V3)) (i : In) : V3 :=
  if i.kind = 0 then .one (BitVec.ofInt 32 i.c) else if i.kind = 1 then eGet .bot e i.a else if i.kind = 2 then (eGet .bot e i.a).neg
  else if i.kind = 3 then (eGet .bot e i.a).add (eGet .bot e i.b) else if i.kind = 4 then (eGet .bot e i.a).sub (eGet .bot e i.b) else if i.kind = 5 then (eGet .bot e i.a).mul (eGet .bot e i.b) else .top
def flatE (e : Option (List V3)) (i : In) : Option (List V3) := eSet e (defI i) (numV e i)
theorem few_flatE {e : Option (List V3)} (h : Few e) (i : In) : Few (flatE e i) := few_set h
end Go.Vm
namespace Go.Vm
end Go.Vm
namespace Go.Vm
end Go.Vm
end
section
/- A row without repeats; its room behind cleared. -/
set_option linter.unusedSimpArgs false
set_option linter.unusedVariables false
namespace Go.Vm
open Go
def cpS (o : List Int) (v : Int) : List Int := if o.getLast? = some v then o else o ++ [v]
def cp (l : List Int) : List Int := l.foldl cpS []
theorem cp_snoc (l : List Int) (v : Int) : cp (l ++ [v]) = cpS (cp l) v := by simp [cp, List.foldl_append]
theorem cp_last : ∀ (n : Nat) (l : List Int), l.length = n → (cp l).getLast? = l.getLast?
  | 0, l, h => by
    obtain rfl := List.length_eq_zero_iff.1 h
    rfl
  | n + 1, l, h => by
    have hne : l ≠ [] := by rintro rfl; simp at h
    obtain ⟨l', v, rfl⟩ : ∃ l' v, l = l' ++ [v] := ⟨l.dropLast, l.getLast hne, (List.dropLast_concat_getLast hne).symm⟩
    rw [cp_snoc, cpS]
    split
    · rename_i e
      rw [e]
      simp
    · simp
theorem last_take {l : List Int} {k : Nat} (h : k < l.length) : (l.take (k + 1)).getLast? = some (l.getD k 0) := by
  rw [← take_snoc1 h 0]
  simp
theorem cp_step_ne {l : List Int} {k : Nat} (h : k + 1 < l.length) (e : l.getD (k + 1) 0 ≠ l.getD k 0) : cp (l.take (k + 1 + 1)) = cp (l.take (k + 1)) ++ [l.getD (k + 1) 0] := by
  rw [← take_snoc1 h 0, cp_snoc, cpS, if_neg]
  rw [cp_last _ _ rfl, last_take (by omega)]
  intro c
  exact e (Option.some.inj c).symm
section
variable {P : Program} {gl : Nat → Option PV} {e : Bool} {s : Env} {H : Hp} {l : Nodes} {Q : Env → Hp → Prop} {d : Option Nat} {bf : Nat} {α : Type} {f : α → PV}
end
structure Cpk (l : List Int) (k0 k j : Nat) (ys : List Int) : Prop where
  hj : 1 ≤ j
  hl : k0 + j ≤ l.length
  hk : k = (cp (l.take (k0 + j))).length
  hy : ys = cp (l.take (k0 + j)) ++ l.drop k
  hb : k < k0 + j
  h0 : 1 ≤ k0
  hm : 1 ≤ k
theorem Cpk.len {l : List Int} {k0 k j : Nat} {ys : List Int} (h : Cpk l k0 k j ys) : ys.length = l.length := by
  have h1 := h.hk
  have h2 := h.hb
  have h3 := h.hl
  rw [h.hy, List.length_append, List.length_drop, ← h.hk]
  omega
theorem Cpk.get {l : List Int} {k0 k j : Nat} {ys : List Int} (h : Cpk l k0 k j ys) (n : Nat) (hn : k ≤ n) : ys.getD n 0 = l.getD n 0 := by
  rw [h.hy, List.getD_eq_getElem?_getD, List.getD_eq_getElem?_getD, List.getElem?_append_right (by rw [← h.hk]; exact hn), List.getElem?_drop, ← h.hk]
  congr 2
  omega
theorem Cpk.ne {l : List Int} {k0 k j : Nat} {ys : List Int} (h : Cpk l k0 k j ys) (hlt : k0 + j < l.length) (e : ys.getD (k0 + j) 0 ≠ ys.getD (k0 + (j - 1)) 0) : Cpk l k0 (k + 1) (j + 1) (ys.set k (ys.getD (k0 + j) 0)) := by
  have h1 := h.hj
  have h2 := h.hb
  have h3 := h.hk
  have h4 := h.hy
  have e0 := h.get (k0 + j) (by omega)
  rw [e0, h.get (k0 + (j - 1)) (by omega)] at e
  rw [e0]
  obtain ⟨i, hi⟩ : ∃ i, k0 + j = i + 1 := ⟨k0 + j - 1, by omega⟩
  have e2 : cp (l.take (k0 + (j + 1))) = cp (l.take (k0 + j)) ++ [l.getD (k0 + j) 0] := by
    rw [show k0 + (j + 1) = i + 1 + 1 by omega, hi]
    refine cp_step_ne (by omega) ?_
    rw [← hi]
    intro c
    apply e
    rw [c]
    congr 1
    omega
  refine ⟨by omega, by omega, by rw [e2, List.length_append, ← h3]; rfl, ?_, by omega, h.h0, by have := h.hm; omega⟩
  rw [e2, h4, List.set_append_right _ _ (by rw [← h3]; exact Nat.le_refl _), ← h3, Nat.sub_self, List.append_assoc]
  congr 1
  rw [List.drop_eq_getElem_cons (by omega : k < l.length)]
  rfl
theorem Cpk.fin {l : List Int} {k0 k j : Nat} {ys : List Int} (h : Cpk l k0 k j ys) (hge : ¬ k0 + j < l.length) : cp l = ys.take k ∧ k = (cp l).length ∧ k < l.length := by
  have h1 := h.hl
  have h2 := h.hb
  have h3 := h.hk
  have h4 := h.hy
  rw [List.take_of_length_le (by omega)] at h3 h4
  refine ⟨?_, h3, by omega⟩
  rw [h4, h3, List.take_left]
end Go.Vm
end
section
/- What an instruction tells: plain laws. -/
set_option linter.unusedSimpArgs false
set_option linter.unusedVariables false
set_option exponentiation.threshold 2000
open Go
namespace Go.Vm
end Go.Vm
end
section
/- The document's form of instructions. -/
set_option linter.unusedSimpArgs false
set_option linter.unusedVariables false
namespace Go.Vm
open Go
end Go.Vm
end
section
/- The sorted row without repeats: strictly rising, the same members. -/
set_option linter.unusedSimpArgs false
set_option linter.unusedVariables false
namespace Go.Vm
open Go
end Go.Vm
end
section
/- All variables of an instruction, as the document gathers them. -/
set_option linter.unusedSimpArgs false
set_option linter.unusedVariables false
namespace Go.Vm
open Go
end Go.Vm
end
section
/- The least above the last, again and again. -/
set_option linter.unusedSimpArgs false
set_option linter.unusedVariables false
namespace Go.Vm
open Go
def abv (S : List Int) (k : Nat) (x : Int) : Prop := k = 0 ∨ S.getD (k - 1) 0 < x
structure Bst (l S : List Int) (k j : Nat) (b : Int) : Prop where
  hj : j ≤ l.length
  hb : (b = -1 ∧ ∀ m, m < j → ¬ abv S k (l.getD m 0)) ∨ (b ∈ l ∧ abv S k b ∧ ∀ m, m < j → abv S k (l.getD m 0) → b ≤ l.getD m 0)
theorem getD_mem' {l : List Int} {m : Nat} (h : m < l.length) : l.getD m 0 ∈ l := by
  rw [List.getD_eq_getElem?_getD, List.getElem?_eq_getElem h, Option.getD_some]
  exact List.getElem_mem h
theorem Bst.take {l S : List Int} {k j : Nat} {b : Int} (h : Bst l S k j b) (hl : ∀ x ∈ l, 0 ≤ x) (hj : j < l.length) (ha : abv S k (l.getD j 0)) (hc : b < 0 ∨ l.getD j 0 < b) : Bst l S k (j + 1) (l.getD j 0) := by
  refine ⟨by omega, Or.inr ⟨getD_mem' hj, ha, fun m hm hab => ?_⟩⟩
  by_cases e : m = j
  · subst e; exact Int.le_refl _
  · rcases h.hb with ⟨_, h2⟩ | ⟨h1, _, h3⟩
    · exact absurd hab (h2 m (by omega))
    · have := h3 m (by omega) hab
      have := hl b h1
      omega
theorem rise_lt {S : List Int} (hs : S.Pairwise (· < ·)) {m n : Nat} (h : m < n) (hn : n < S.length) : S.getD m 0 < S.getD n 0 := by
  rw [List.getD_eq_getElem?_getD, List.getD_eq_getElem?_getD, List.getElem?_eq_getElem hn, List.getElem?_eq_getElem (by omega : m < S.length), Option.getD_some, Option.getD_some]
  exact List.pairwise_iff_getElem.1 hs m n (by omega) hn h
theorem Bst.fin {l S : List Int} {k j : Nat} {b : Int} (h : Bst l S k j b) (hs : S.Pairwise (· < ·)) (hm : ∀ x, x ∈ S ↔ x ∈ l) (hk : k < S.length) (hj : ¬ j < l.length) : b = S.getD k 0 := by
  have ha : abv S k (S.getD k 0) := by
    by_cases e : k = 0
    · exact Or.inl e
    · exact Or.inr (rise_lt hs (by omega) hk)
  have hS : S.getD k 0 ∈ l := (hm _).1 (getD_mem' hk)
  obtain ⟨m, hml, hme⟩ := List.mem_iff_getElem.1 hS
  have hme' : l.getD m 0 = S.getD k 0 := by
    rw [← hme, List.getD_eq_getElem?_getD, List.getElem?_eq_getElem hml, Option.getD_some]
  rcases h.hb with ⟨_, h2⟩ | ⟨h1, h3, h4⟩
  · exact absurd (by rw [hme']; exact ha) (h2 m (by omega))
  · have h5 := h4 m (by omega) (by rw [hme']; exact ha)
    rw [hme'] at h5
    obtain ⟨n, hnl, hne⟩ := List.mem_iff_getElem.1 ((hm _).2 h1)
    have hne' : S.getD n 0 = b := by
      rw [← hne, List.getD_eq_getElem?_getD, List.getElem?_eq_getElem hnl, Option.getD_some]
    by_cases c1 : k < n
    · have := rise_lt hs c1 hnl
      omega
    · by_cases c2 : n < k
      · exfalso
        rcases h3 with h3 | h3
        · omega
        · by_cases e : n = k - 1
          · subst e; omega
          · have := rise_lt hs (show n < k - 1 by omega) (by omega)
            omega
      · have : n = k := by omega
        subst this
        exact hne'.symm
end Go.Vm
end
