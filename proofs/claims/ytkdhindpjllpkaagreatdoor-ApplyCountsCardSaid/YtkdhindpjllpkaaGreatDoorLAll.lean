/- Laid. -/
import Derived.Test.YtkdhindpjllpkaaGreatDoorLBitsAll
import Derived.Sort.Grow
import Derived.Test.YtkdhindpjllpkaaGreatDoorVmThree
import Derived.Laws.BitsLemmas
set_option linter.unusedSimpArgs false
set_option linter.unusedVariables false
set_option maxRecDepth 100000
set_option maxHeartbeats 4000000
set_option exponentiation.threshold 2000
namespace Go.Vm
open Go Go.RowKit
section
variable {α : Type}
def mixL (R O : List α) (k : Nat) : List α := R.take k ++ O.drop k
theorem mixL_full {R O : List α} {k : Nat} (h : O.length ≤ k) (h2 : R.length ≤ k) : mixL R O k = R := by
  unfold mixL
  rw [List.take_of_length_le h2, List.drop_of_length_le h, List.append_nil]
theorem mixL_length {R O : List α} {k : Nat} (h : R.length = O.length) : (mixL R O k).length = O.length := by
  simp [mixL]; omega
theorem mixL_getD {R O : List α} {k : Nat} (h : R.length = O.length) (hk : k < O.length) (d : α) : (mixL R O k).getD k d = O.getD k d := by
  unfold mixL
  simp only [List.getD_eq_getElem?_getD]
  rw [List.getElem?_append_right (by simp [Nat.min_le_left])]
  simp only [List.length_take, List.getElem?_drop]
  rw [show k + (k - min k R.length) = k by omega]
theorem mixL_set {R O : List α} {k : Nat} (h : R.length = O.length) (hk : k < O.length) (d : α) : (mixL R O k).set k (R.getD k d) = mixL R O (k + 1) := by
  unfold mixL
  have e : (R.take k).length = k := by simp; omega
  have e2 : R.take (k + 1) = R.take k ++ [R[k]'(by omega)] := by rw [List.take_add_one, List.getElem?_eq_getElem (by omega)]; rfl
  rw [List.set_append_right _ _ (by omega), e, Nat.sub_self, List.drop_eq_getElem_cons hk, List.set_cons_zero, List.getD_eq_getElem?_getD, List.getElem?_eq_getElem (by omega), e2, List.append_assoc]
  rfl
theorem take_snoc1 {l : List α} {k : Nat} (h : k < l.length) (d : α) : l.take k ++ [l.getD k d] = l.take (k + 1) := by
  rw [List.take_add_one, List.getElem?_eq_getElem h, List.getD_eq_getElem?_getD, List.getElem?_eq_getElem h]
  rfl
def tab (N : Nat) (F : Nat → α) : List α := (List.range N).map F
theorem tab_length {N : Nat} {F : Nat → α} : (tab N F).length = N := by simp [tab]
theorem ext_getD {l m : List α} (d : α) (h : l.length = m.length) (k : ∀ i, i < l.length → l.getD i d = m.getD i d) : l = m := by
  refine List.ext_getElem h fun i h1 h2 => ?_
  have := k i h1
  simpa [List.getD_eq_getElem?_getD, h1, h2] using this
theorem map_getD {β : Type} {f : α → β} {l : List α} {k : Nat} {d : α} {e : β} (h : f d = e) : (l.map f).getD k e = f (l.getD k d) := by
  subst h
  by_cases hk : k < l.length
  · simp [List.getD_eq_getElem?_getD, hk]
  · simp [List.getD_eq_getElem?_getD, List.getElem?_eq_none (show l.length ≤ k by omega)]
end
section
variable {P : Program} {gl : Nat → Option PV} {e : Bool} {s : Env} {H : Hp} {l : Nodes} {Q : Env → Hp → Prop} {d : Option Nat} {bf : Nat} {α : Type} {f : α → PV}
theorem getD_map {xs : List α} {k : Nat} (a0 : α) (h : k < xs.length) : (xs.map f)[k]? = some (f (xs.getD k a0)) := by
  simp [List.getD_eq_getElem?_getD, h]
theorem n_idx_vals {sz : Nat} {x i : RO} {k : IntKind} {xs : List α} {c : Int} (a0 : α) (hx : x.ev gl s = some (.sl (xs.map f))) (hi : i.ev gl s = some (.int k c)) (hz : ∀ a, (f a).cells.length = sz) (h : 0 ≤ c ∧ c < (xs.length : Nat)) (kk : WN P gl e l (s.put d (some (.fptr (f (xs.getD c.toNat a0)).cells))) H Q) : WN P gl e (.op d (.idxAddr sz x i) bf l) s H Q :=
  n_idx_sl hx hi h.1 (getD_map a0 (by omega)) (hz _) kk
theorem n_load_vals {es : Shape} {x : RO} {b g i sz : Nat} {xs : List α} (a0 : α) {r : PV} (hx : x.ev gl s = some (.ptr b g i 0)) (hb : H.f b = some ⟨g, sz, xs.map f⟩) (hr : subv es (f (xs.getD i a0)).cells = some r) (h : i < xs.length) (kk : WN P gl e l (s.put d (some r)) H Q) : WN P gl e (.op d (.load es x) bf l) s H Q :=
  n_load_at hx hb (getD_map a0 h) hr kk
theorem n_store_vals {b g i n sz : Nat} {x v : RO} {p : PV} {xs : List α} (a : α) (hx : x.ev gl s = some (.ptr b g i 0)) (hv : v.ev gl s = some p) (hb : H.f b = some ⟨g, sz, xs.map f⟩) (hp : p = f a) (hf : ∀ a, ((f a).cells.length == n && (f a).cells.all PV.one) = true) (h : i < xs.length) (k : WN P gl e l (s.put d none) (H.set b ⟨g, sz, (xs.set i a).map f⟩) Q) : WN P gl e (.op d (.store n x v) bf l) s H Q := by
  subst hp
  refine n_store (xs' := (xs.set i a).map f) hx hv hb (hf a) ?_ k
  have h1 := hf a
  have h2 := hf xs[i]
  simp only [Bool.and_eq_true, beq_iff_eq] at h1 h2
  have : (xs.map f)[i]? = some (f xs[i]) := by simp [h]
  simp only [putAt, this, Option.bind_eq_bind, Option.bind_some]
  rw [if_pos ⟨trivial, by omega⟩, List.map_set]
theorem n_append_vals {sz b g k : Nat} {z : PV} {x v : RO} {q : PV} {xs : List α} (a : α) (hx : x.ev gl s = some (.ref b g 0 k)) (hv : v.ev gl s = some (.lit [q])) (hb : H.f b = some ⟨g, sz, xs.map f⟩) (hq : q = f a) (hz : cellsOk sz [q] = true) (hl : k = xs.length) (hm : k + 1 ≤ 1048576)
    (kk : WN P gl e l (s.put d (some (.ref b (g + 1) 0 (k + 1)))) (H.set b ⟨g + 1, sz, (xs ++ [a]).map f⟩) Q) : WN P gl e (.op d (.append sz z x v) bf l) s H Q := by
  subst hq hl
  refine n_append (ys := [f a]) hx hv hb (by simp) rfl hz (by simpa using hm) (len' := xs.length + 1) (by simp) ?_
  rw [show xs.map f ++ [f a] = (xs ++ [a]).map f by simp]
  exact kk
theorem vals_pure (hf : ∀ a, pureE (f a) = true) (xs : List α) : (xs.map f).all pureE = true := by simp [hf]
theorem fzP_vals {k : Nat} {xs ys : List α} (hf : ∀ a, pureE (f a) = true) (h : xs = ys) : fzP H k (xs.map f) = some (ys.map f) := by subst h; exact fzP_pure (vals_pure hf _)
theorem soft_vals {b g sz len : Nat} {xs : List α} (hb : H.f b = some ⟨g, sz, xs.map f⟩) (hf : ∀ a, pureE (f a) = true) (hl : len = xs.length) : soft1 H true (.ref b g 0 len) = some (.sl (xs.map f)) := by
  subst hl
  have hp := vals_pure hf xs
  have e : elems H (.ref b g 0 xs.length) = some (xs.map f) := by simp [elems, Hp.blk, hb, List.take_of_length_le]
  exact soft1_row e hp
theorem fnQ_ret_vals {rs : List RRes} {b g sz len : Nat} {xs : List α} {rr : PV} (h : retOf rs H s = some (.ref b g 0 len)) (hb : H.f b = some ⟨g, sz, xs.map f⟩) (hf : ∀ a, pureE (f a) = true) (hl : len = xs.length) (h3 : .sl (xs.map f) = rr) : FnQ rs (fun r0 H' => soft H' true r0 = some rr) .ret s H :=
  ⟨_, h, (soft_vals hb hf hl).trans (congrArg some h3)⟩
end
end Go.Vm
namespace Go.Vm
section
variable {P : Program} {gl : Nat → Option PV} {e : Bool} {s : Env} {H : Hp} {l : Nodes} {Q : Env → Hp → Prop} {d : Option Nat} {bf : Nat}
end
end Go.Vm
namespace Go.Vm
section
variable {P : Program} {gl : Nat → Option PV} {e : Bool} {s : Env} {H : Hp} {l : Nodes} {Q : Env → Hp → Prop} {d : Option Nat} {bf : Nat}
theorem n_slice_lo {x i : RO} {sz b g off len : Nat} {k : IntKind} {c : Int} {xs : List PV} (hx : x.ev gl s = some (.ref b g off len)) (hi : i.ev gl s = some (.int k c)) (hb : H.f b = some ⟨g, sz, xs⟩) (h : 0 ≤ c ∧ c < len) (kk : WN P gl e l (s.put d (some (.ref b g (off + c.toNat) (len - c.toNat)))) H Q) : WN P gl e (.op d (.prim (.sliceSl sz true false false) [x, i]) bf l) s H Q := by
  refine n_val rfl ?_ kk
  have e1 : bnd len (.int k c) = some c.toNat := by simp only [bnd]; rw [if_pos ⟨h.1, by omega⟩]
  simp only [stepN, evs, hx, hi, Option.bind_eq_bind, Option.bind_some, Option.pure_def, primF, PV.lenP, bnds, e1, Option.map_some, Hp.blk, hb, if_true]
  rw [if_neg (by omega)]
  rfl
theorem n_slice_hi {x i : RO} {sz b g off len : Nat} {k : IntKind} {c : Int} {xs : List PV} (hx : x.ev gl s = some (.ref b g off len)) (hi : i.ev gl s = some (.int k c)) (hb : H.f b = some ⟨g, sz, xs⟩) (h : 0 < c ∧ c ≤ len) (kk : WN P gl e l (s.put d (some (.ref b g off c.toNat))) H Q) : WN P gl e (.op d (.prim (.sliceSl sz false true false) [x, i]) bf l) s H Q := by
  refine n_val rfl ?_ kk
  have e1 : bnd len (.int k c) = some c.toNat := by simp only [bnd]; rw [if_pos ⟨by omega, by omega⟩]
  simp only [stepN, evs, hx, hi, Option.bind_eq_bind, Option.bind_some, Option.pure_def, primF, PV.lenP, bnds, e1, Option.map_some, Hp.blk, hb, if_true, Nat.add_zero, Nat.sub_zero]
  rw [if_neg (by omega)]
  rfl
theorem n_slice_lo_sl {x i : RO} {sz : Nat} {k : IntKind} {c : Int} {xs : List PV} (hx : x.ev gl s = some (.sl xs)) (hi : i.ev gl s = some (.int k c)) (hz : (xs.all fun e => e.cells.length == sz) = true) (h : 0 ≤ c ∧ c ≤ xs.length) (kk : WN P gl e l (s.put d (some (.sl (xs.drop c.toNat)))) H Q) : WN P gl e (.op d (.prim (.sliceSl sz true false false) [x, i]) bf l) s H Q := by
  refine n_val rfl ?_ kk
  have e1 : bnd xs.length (.int k c) = some c.toNat := by simp only [bnd]; rw [if_pos ⟨h.1, by omega⟩]
  simp only [stepN, evs, hx, hi, Option.bind_eq_bind, Option.bind_some, Option.pure_def, primF, PV.lenP, bnds, e1, Option.map_some, hz, if_true]
  split
  · rename_i h2
    rw [List.drop_of_length_le (by omega)]; rfl
  · rw [List.take_of_length_le (by simp)]; rfl
theorem n_slice_hi_sl {x i : RO} {sz : Nat} {k : IntKind} {c : Int} {xs : List PV} (hx : x.ev gl s = some (.sl xs)) (hi : i.ev gl s = some (.int k c)) (hz : (xs.all fun e => e.cells.length == sz) = true) (h : 0 ≤ c ∧ c ≤ xs.length) (kk : WN P gl e l (s.put d (some (.sl (xs.take c.toNat)))) H Q) : WN P gl e (.op d (.prim (.sliceSl sz false true false) [x, i]) bf l) s H Q := by
  refine n_val rfl ?_ kk
  have e1 : bnd xs.length (.int k c) = some c.toNat := by simp only [bnd]; rw [if_pos ⟨h.1, by omega⟩]
  simp only [stepN, evs, hx, hi, Option.bind_eq_bind, Option.bind_some, Option.pure_def, primF, PV.lenP, bnds, e1, Option.map_some, hz, if_true]
  split
  · rename_i h2
    rw [← h2]; rfl
  · simp
end
end Go.Vm
namespace Go.Vm
section
variable {P : Program} {gl : Nat → Option PV} {e : Bool} {s : Env} {H : Hp} {l : Nodes} {Q : Env → Hp → Prop} {d : Option Nat} {bf : Nat}
theorem n_nope (h : False) : WN P gl e (.op d .nope bf l) s H Q := h.elim
end
end Go.Vm
namespace Go.Vm
end Go.Vm
namespace Go.Vm
section
variable {P : Program} {gl : Nat → Option PV} {e : Bool} {s : Env} {H : Hp} {l : Nodes} {Q : Env → Hp → Prop} {d : Option Nat} {bf : Nat}
theorem n_slice_lo0 {x i : RO} {sz b g len : Nat} {k : IntKind} {c : Int} {xs : List PV} (hx : x.ev gl s = some (.ref b g 0 len)) (hi : i.ev gl s = some (.int k c)) (hb : H.f b = some ⟨g, sz, xs⟩) (h : 0 ≤ c ∧ c < len) (kk : WN P gl e l (s.put d (some (.ref b g c.toNat (len - c.toNat)))) H Q) : WN P gl e (.op d (.prim (.sliceSl sz true false false) [x, i]) bf l) s H Q :=
  n_slice_lo hx hi hb h (by rw [Nat.zero_add]; exact kk)
end
end Go.Vm
open Go
namespace Go.Vm
def sameL (H : Hp) : List (Option Blk) → Nat → Prop
  | [], _ => True
  | k :: l, b => H.f b = k ∧ sameL H l (b + 1)
theorem sameL_get {H : Hp} : ∀ {l : List (Option Blk)} {b : Nat}, sameL H l b → ∀ i, i < l.length → H.f (b + i) = (l[i]?).join
  | k :: l, b, h, 0, _ => by simpa using h.1
  | k :: l, b, h, i + 1, hi => by
    have := sameL_get h.2 i (by simpa using hi)
    rw [show b + 1 + i = b + (i + 1) by omega] at this
    simpa using this
theorem hp_ofL {H : Hp} {l : List (Option Blk)} (hn : H.n = l.length) (h : sameL H l 0) : H = Hp.ofL l := by
  obtain ⟨n, f, wf⟩ := H
  simp only at hn
  subst hn
  have e : f = fun b => (l[b]?).join := by
    funext b
    by_cases hb : b < l.length
    · have := sameL_get h b hb
      simpa using this
    · rw [List.getElem?_eq_none (by omega), wf b (by omega)]; rfl
  subst e
  rfl
section
variable {P : Program} {gl : Nat → Option PV} {s : Env} {H : Hp} {l : Nodes} {Q : Env → Hp → Prop} {d : Option Nat} {bf : Nat}
theorem n_specL {f : FuncId} {args : List RO} {as : List PV} {r : PV} {H' : Hp} {l0 : List (Option Blk)} (h1 : evs (RO.ev gl s) args = some as) (h3 : HSpec P gl f as (Hp.ofL l0) (fun r0 G => r0 = r ∧ G = H')) (hs : H.n = l0.length) (hq : sameL H l0 0) (hn : l0.length ≤ H'.n) (k : WN P gl true l (s.put d (some r)) H' Q) : WN P gl true (.op d (.call f args) bf l) s H Q := by
  have e := hp_ofL hs hq
  subst e
  exact n_spec h1 h3 hn k
end
end Go.Vm
namespace Go.Vm
open Go Go.RowKit
mutual
def PV.ren (ρ : Nat → Nat) : PV → PV
  | .agg l => .agg (renL ρ l)
  | .tup l => .tup (renL ρ l)
  | .lit l => .lit (renL ρ l)
  | .fptr l => .fptr (renL ρ l)
  | .fn f l => .fn f (renL ρ l)
  | .ifc t p => .ifc t (p.ren ρ)
  | .ref b g o n => .ref (ρ b) g o n
  | .ptr b g i o => .ptr (ρ b) g i o
  | .cref b g i o n => .cref (ρ b) g i o n
  | .mp b => .mp (ρ b)
  | .yld b => .yld (ρ b)
  | .lp L ts => .lp L ts
  | .int k n => .int k n
  | .bool b => .bool b
  | .str s => .str s
  | .nilp => .nilp
  | .nilf => .nilf
  | .nili => .nili
  | .nilm => .nilm
  | .sl l => .sl l
  | .raw v => .raw v
def renL (ρ : Nat → Nat) : List PV → List PV
  | [] => []
  | x :: r => x.ren ρ :: renL ρ r
end
theorem renL_length {ρ : Nat → Nat} : ∀ (l : List PV), (renL ρ l).length = l.length
  | [] => rfl
  | x :: r => by simp [renL, renL_length r]
theorem renL_get {ρ : Nat → Nat} : ∀ (l : List PV) (i : Nat) (h : i < (renL ρ l).length) (h2 : i < l.length), (renL ρ l)[i] = (l[i]).ren ρ
  | [], i, h, _ => absurd h (by simp [renL])
  | x :: r, i, h, h2 => by
    cases i with
    | zero => rfl
    | succ i => exact renL_get r i (by simpa [renL] using h) (by simpa using h2)
theorem ren_cells {ρ : Nat → Nat} (p : PV) : (p.ren ρ).cells = renL ρ p.cells := by
  cases p <;> first | rfl
section
variable {P : Program} {gl : Nat → Option PV} {A : Nat → Prop} {w0 : World} {F : Nat → Prop} {m m1 m2 : Nat → Slot} {w : World} {G H K : Hp} {p : PV} {ρ : Nat → Nat}
theorem ren_rel {v : Value} {p : PV} (h : VRel F w m v p) : ∀ {m2 : Nat → Slot}, (∀ b, m b ≠ .unborn → m2 (ρ b) = m b) → VRel F w m2 v (p.ren ρ) := by
  induction h with
  | int => exact fun _ => .int _ _
  | bool => exact fun _ => .bool _
  | str => exact fun _ => .str _
  | nilp => exact fun _ => .nilp
  | nilf => exact fun _ => .nilf
  | nili => exact fun _ => .nili
  | nilm => exact fun _ => .nilm
  | slnil A c hc => exact fun _ => .slnil A c hc
  | litnil => exact fun _ => .litnil
  | raw t v => exact fun _ => .raw t v
  | sl ad c sz l cs hF hc hm hz hcell h _ => exact fun _ => .sl ad c sz l cs hF hc hm hz hcell h
  | agg a l hs _ ih => exact fun h2 => .agg a _ (by rw [renL_length]; exact hs) fun i q1 q2 => by rw [renL_get l i q2 (by rw [renL_length] at q2; exact q2)]; exact ih i q1 _ h2
  | tup a l hs _ ih => exact fun h2 => .tup a _ (by rw [renL_length]; exact hs) fun i q1 q2 => by rw [renL_get l i q2 (by rw [renL_length] at q2; exact q2)]; exact ih i q1 _ h2
  | fptr ad l cs hF hcell _ ih => exact fun h2 => .fptr ad _ cs hF (fun j hj => hcell j (by rw [renL_length] at hj; exact hj)) fun j q => by rw [renL_get l j q (by rw [renL_length] at q; exact q)]; exact ih j _ h2
  | fn f first captured caps h0 hs _ ih => exact fun h2 => .fn f first captured _ h0 (by rw [renL_length]; exact hs) fun i q1 q2 => by rw [renL_get caps i q2 (by rw [renL_length] at q2; exact q2)]; exact ih i q1 _ h2
  | ifc t v p _ ih => exact fun h2 => .ifc t v _ (ih h2)
  | lit ad sz l cs hF hm hz hcell _ ih =>
    intro m2 h2
    have e : (renL ρ l).length = l.length := renL_length l
    show VRel F w m2 (.slice (some ad) l.length l.length) (.lit (renL ρ l))
    rw [← e]
    refine .lit ad sz (renL ρ l) cs hF (by omega) (fun x hx => ?_) (fun i hi j hj => hcell i (by omega) j hj) (fun i q1 j q2 => ?_)
    · obtain ⟨i, hi, rfl⟩ := List.mem_iff_getElem.1 hx
      rw [renL_get l i hi (by omega), ren_cells, renL_length]
      exact hz _ (List.getElem_mem _)
    · have e1 := renL_get (ρ := ρ) l i q1 (by omega)
      have e2 : ((renL ρ l)[i]).cells = renL ρ (l[i]'(by omega)).cells := by rw [e1, ren_cells]
      have q3 : j < (l[i]'(by omega)).cells.length := by rw [e2, renL_length] at q2; exact q2
      have e3 : ((renL ρ l)[i]).cells[j] = ((l[i]'(by omega)).cells[j]).ren ρ := by
        simp only [e2]
        exact renL_get _ j _ q3
      rw [e3]
      exact ih i (by omega) j q3 h2
  | ref A c b g off len h =>
    intro m2 h2
    refine .ref A c _ g off len ?_
    rw [h2 b (fun e => by rw [e] at h; exact h)]
    exact h
  | ptr ad b g i off h =>
    intro m2 h2
    refine .ptr ad _ g i off ?_
    rw [h2 b (fun e => by rw [e] at h; exact h)]
    exact h
  | cref A c b g i off len h =>
    intro m2 h2
    refine .cref A c _ g i off len ?_
    rw [h2 b (fun e => by rw [e] at h; exact h)]
    exact h
  | mp β b h =>
    intro m2 h2
    refine .mp β _ ?_
    rw [h2 b (fun e => by rw [e] at h; simp at h)]
    exact h
  | yld β b h =>
    intro m2 h2
    refine .yld β _ ?_
    rw [h2 b (fun e => by rw [e] at h; simp at h)]
    exact h
theorem sizeOf_cells {p x : PV} (h : x ∈ p.cells) : SizeOf.sizeOf x ≤ SizeOf.sizeOf p := by
  have one : p.cells = [p] → SizeOf.sizeOf x ≤ SizeOf.sizeOf p := fun e => by
    rw [e, List.mem_singleton] at h
    subst h
    exact Nat.le_refl _
  cases p
  case agg l =>
    simp only [PV.cells] at h
    have := List.sizeOf_lt_of_mem h
    simp only [PV.agg.sizeOf_spec]
    omega
  all_goals exact one rfl
theorem ren_back {n : Nat} (h1 : ∀ b, b < n → m1 b = m (ρ b)) (p : PV) (v : Value) (hu : p.under n = true) (h : VRel F w m v (p.ren ρ)) : VRel F w m1 v p := by
  match p, hu, h with
  | .int _ _, _, h => simp only [PV.ren] at h; cases h; exact .int _ _
  | .bool _, _, h => simp only [PV.ren] at h; cases h; exact .bool _
  | .str _, _, h => simp only [PV.ren] at h; cases h; exact .str _
  | .nilp, _, h => simp only [PV.ren] at h; cases h; exact .nilp
  | .nilf, _, h => simp only [PV.ren] at h; cases h; exact .nilf
  | .nili, _, h => simp only [PV.ren] at h; cases h; exact .nili
  | .nilm, _, h => simp only [PV.ren] at h; cases h; exact .nilm
  | .raw _, _, h => simp only [PV.ren] at h; cases h; exact .raw _ _
  | .sl l, _, h =>
    simp only [PV.ren] at h
    cases h with
    | slnil A c hc => exact .slnil A c hc
    | sl ad c sz _ cs hF hc hm hz hcell hk => exact .sl ad c sz l cs hF hc hm hz hcell hk
  | .ref b g o len, hu, h =>
    simp only [PV.ren] at h
    cases h with
    | ref A c _ _ _ _ h => exact .ref A c b g o len (by rw [h1 b (by simpa [PV.under] using hu)]; exact h)
  | .ptr b g i o, hu, h =>
    simp only [PV.ren] at h
    cases h with
    | ptr ad _ _ _ _ h => exact .ptr ad b g i o (by rw [h1 b (by simpa [PV.under] using hu)]; exact h)
  | .cref b g i o len, hu, h =>
    simp only [PV.ren] at h
    cases h with
    | cref A c _ _ _ _ _ h => exact .cref A c b g i o len (by rw [h1 b (by simpa [PV.under] using hu)]; exact h)
  | .mp b, hu, h =>
    simp only [PV.ren] at h
    cases h with
    | mp β _ h => exact .mp β b (by rw [h1 b (by simpa [PV.under] using hu)]; exact h)
  | .yld b, hu, h =>
    simp only [PV.ren] at h
    cases h with
    | yld β _ h => exact .yld β b (by rw [h1 b (by simpa [PV.under] using hu)]; exact h)
  | .lp _ _, _, h => simp only [PV.ren] at h; cases h
  | .agg l, hu, h =>
    simp only [PV.ren] at h
    cases h with
    | agg a _ hs h =>
      rw [renL_length] at hs
      refine .agg a l hs fun i q1 q2 => ?_
      have := h i q1 (by rw [renL_length]; exact q2)
      rw [renL_get l i _ q2] at this
      have hlt := List.sizeOf_lt_of_mem (List.getElem_mem q2)
      exact ren_back h1 l[i] _ (underL_get (by simpa [PV.under] using hu) i q2) this
  | .tup l, hu, h =>
    simp only [PV.ren] at h
    cases h with
    | tup a _ hs h =>
      rw [renL_length] at hs
      refine .tup a l hs fun i q1 q2 => ?_
      have := h i q1 (by rw [renL_length]; exact q2)
      rw [renL_get l i _ q2] at this
      have hlt := List.sizeOf_lt_of_mem (List.getElem_mem q2)
      exact ren_back h1 l[i] _ (underL_get (by simpa [PV.under] using hu) i q2) this
  | .fn f l, hu, h =>
    simp only [PV.ren] at h
    cases h with
    | fn _ first a _ h0 hs h =>
      rw [renL_length] at hs
      refine .fn f first a l h0 hs fun i q1 q2 => ?_
      have := h i q1 (by rw [renL_length]; exact q2)
      rw [renL_get l i _ q2] at this
      have hlt := List.sizeOf_lt_of_mem (List.getElem_mem q2)
      exact ren_back h1 l[i] _ (underL_get (by simpa [PV.under] using hu) i q2) this
  | .fptr l, hu, h =>
    simp only [PV.ren] at h
    cases h with
    | fptr ad _ cs hF hcell h =>
      rw [renL_length] at hcell
      refine .fptr ad l cs hF hcell fun j q2 => ?_
      have := h j (by rw [renL_length]; exact q2)
      rw [renL_get l j _ q2] at this
      have hlt := List.sizeOf_lt_of_mem (List.getElem_mem q2)
      exact ren_back h1 l[j] _ (underL_get (by simpa [PV.under] using hu) j q2) this
  | .ifc t q, hu, h =>
    simp only [PV.ren] at h
    cases h with
    | ifc _ v' _ h => exact .ifc t v' q (ren_back h1 q v' (by simpa [PV.under] using hu) h)
  | .lit l, hu, h =>
    simp only [PV.ren] at h
    generalize hq : renL ρ l = q at h
    cases h with
    | litnil =>
      have : l = [] := List.eq_nil_of_length_eq_zero (by rw [← renL_length (ρ := ρ) l, hq]; rfl)
      subst this
      exact .litnil
    | lit ad sz _ cs hF hm hz hcell hk =>
      subst hq
      have e := renL_length (ρ := ρ) l
      rw [e]
      refine .lit ad sz l cs hF (by omega) (fun x hx => ?_) (fun i hi j hj => hcell i (by omega) j hj) (fun i q1 j q2 => ?_)
      · obtain ⟨i, hi, rfl⟩ := List.mem_iff_getElem.1 hx
        have := hz ((renL ρ l)[i]'(by omega)) (List.getElem_mem _)
        rw [renL_get l i _ hi, ren_cells, renL_length] at this
        exact this
      · have e1 := renL_get (ρ := ρ) l i (by omega) q1
        have e2 : ((renL ρ l)[i]'(by omega)).cells = renL ρ (l[i]).cells := by rw [e1, ren_cells]
        have q3 : j < ((renL ρ l)[i]'(by omega)).cells.length := by rw [e2, renL_length]; exact q2
        have e3 : ((renL ρ l)[i]'(by omega)).cells[j] = ((l[i]).cells[j]).ren ρ := by
          simp only [e2]
          exact renL_get _ j _ q2
        have := hk i (by omega) j q3
        rw [e3] at this
        have hlt := List.sizeOf_lt_of_mem (List.getElem_mem q1)
        have hle := sizeOf_cells (List.getElem_mem q2)
        exact ren_back h1 (l[i]).cells[j] _ (below_cells (underL_get (by simpa [PV.under] using hu) i q1) j q2) this
termination_by SizeOf.sizeOf p
decreasing_by all_goals (simp_wf; try omega)
def posOf (c : Nat) : List Nat → Nat → Option Nat
  | [], _ => none
  | x :: r, i => if x = c then some i else posOf c r (i + 1)
theorem posOf_some {c : Nat} : ∀ {l : List Nat} {i j : Nat}, posOf c l i = some j → i ≤ j ∧ l[j - i]? = some c
  | [], i, j, h => by simp [posOf] at h
  | x :: r, i, j, h => by
    unfold posOf at h
    split at h
    · rename_i e
      injection h with h
      subst h e
      simp
    · obtain ⟨h1, h2⟩ := posOf_some h
      refine ⟨by omega, ?_⟩
      rw [show j - i = (j - (i + 1)) + 1 by omega]
      exact h2
theorem posOf_get {c : Nat} : ∀ {l : List Nat} {i b : Nat}, l.Nodup → l[b]? = some c → posOf c l i = some (i + b)
  | [], i, b, _, h => by simp at h
  | x :: r, i, b, hd, h => by
    rw [List.nodup_cons] at hd
    unfold posOf
    cases b with
    | zero =>
      simp only [List.getElem?_cons_zero, Option.some.injEq] at h
      rw [if_pos h]; rfl
    | succ b =>
      simp only [List.getElem?_cons_succ] at h
      rw [if_neg (fun e => hd.1 (by subst e; exact List.mem_of_getElem? h)), posOf_get hd.2 h]
      congr 1; omega
def rho (l : List Nat) (n : Nat) (b : Nat) : Nat := match l[b]? with | some c => c | none => n + (b - l.length)
def renB (ρ : Nat → Nat) (k : Blk) : Blk := ⟨k.g, k.sz, renL ρ k.xs⟩
def Hp.graft (K : Hp) (l : List Nat) (H : Hp) : Hp := ⟨K.n + (H.n - l.length), fun c => if c < K.n then (match posOf c l 0 with | some b => (H.f b).map (renB (rho l K.n)) | .none => K.f c) else (H.f (c - K.n + l.length)).map (renB (rho l K.n)), fun c hc => by
  rw [if_neg (by omega), H.wf _ (by omega)]
  rfl⟩
theorem HSpec.frame {f : FuncId} {as : List PV} {R : PV → Hp → Prop} {l : List Nat} (hS : HSpec P gl f as H R) (hn : H.n = l.length) (hd : l.Nodup) (hlt : ∀ c ∈ l, c < K.n) (hblk : ∀ b k, H.f b = some k → ∃ c, l[b]? = some c ∧ K.f c = some (renB (rho l K.n) k) ∧ underL H.n k.xs = true) (has : underL H.n as = true) :
    HSpec P gl f (renL (rho l K.n) as) K (fun r K' => ∃ r0 H', R r0 H' ∧ r = r0.ren (rho l K.n) ∧ K' = K.graft l H') := by
  refine ⟨hS.1, fun A w0 F m w vs sim hU hvs => ?_⟩
  let ρ := rho l K.n
  have hρ : ∀ b c, l[b]? = some c → ρ b = c := fun b c h => by simp only [ρ, rho, h]
  have hρ2 : ∀ b, l.length ≤ b → ρ b = K.n + (b - l.length) := fun b h => by simp only [ρ, rho, List.getElem?_eq_none h]
  have hget : ∀ b, b < l.length → l[b]? = some (ρ b) := fun b h => by
    have e : l[b]? = some l[b] := List.getElem?_eq_getElem h
    rw [e, hρ b _ e]
  have hρlt : ∀ b, b < l.length → ρ b < K.n := fun b h => hlt _ (List.mem_of_getElem? (hget b h))
  have hinj : ∀ b b', b < l.length → b' < l.length → ρ b = ρ b' → b = b' := fun b b' h h' e => by
    have e1 := posOf_get (i := 0) hd (hget b h)
    have e2 := posOf_get (i := 0) hd (hget b' h')
    rw [e, e2] at e1
    have := Option.some.inj e1
    omega
  let m1 : Nat → Slot := fun b => if b < l.length then m (ρ b) else .unborn
  have m1lt : ∀ b, b < l.length → m1 b = m (ρ b) := fun b h => if_pos h
  have m1ge : ∀ b, l.length ≤ b → m1 b = .unborn := fun b h => if_neg (by omega)
  have at1 : ∀ {b β}, (m1 b).at = some β → b < l.length ∧ (m (ρ b)).at = some β := by
    intro b β h
    by_cases hb : b < l.length
    · rw [m1lt b hb] at h; exact ⟨hb, h⟩
    · rw [m1ge b (by omega)] at h; cases h
  -- the callee's heap
  have sim1 : Sim gl A w0 F m1 w H := by
    refine ⟨sim.below, fun b β h => sim.live _ β (at1 h).2, fun b b' β h h' => hinj b b' (at1 h).1 (at1 h').1 (sim.inj _ _ β (at1 h).2 (at1 h').2), sim.frz, sim.frzlt, fun b k hk hnu => ?_, sim.glob⟩
    obtain ⟨c, hc, hK, hund⟩ := hblk b k hk
    have hb : b < l.length := (List.getElem?_eq_some_iff.1 hc).1
    have hcρ : ρ b = c := hρ b c hc
    rw [m1lt b hb, hcρ] at hnu ⊢
    rcases sim.blk c _ hK hnu with ⟨β, hm, ⟨cs, T, h1, h2, h3, h4⟩⟩ | ⟨hv, hx⟩ | ⟨β, hm, es, cc, h1, h2, h3⟩ | ⟨β, hm, L, ts, ps, h1, h2, h3, h4⟩
    · simp only [renB] at h2 h3 h4 hm
      refine .inl ⟨β, hm, cs, T, h1, by rw [renL_length] at h2; exact h2, fun x hx => ?_, fun i hi j hj => ?_⟩
      · obtain ⟨i, hi, rfl⟩ := List.mem_iff_getElem.1 hx
        have := h3 ((renL ρ k.xs)[i]'(by rw [renL_length]; exact hi)) (List.getElem_mem _)
        rw [renL_get k.xs i _ hi, ren_cells, renL_length] at this
        exact this
      · have e2 : ((renL ρ k.xs)[i]'(by rw [renL_length]; exact hi)).cells = renL ρ (k.xs[i]).cells := by rw [renL_get k.xs i _ hi, ren_cells]
        obtain ⟨v, hv, hr⟩ := h4 i (by rw [renL_length]; exact hi) j (by rw [show ((renL (rho l K.n) k.xs)[i]'(by rw [renL_length]; exact hi)).cells = renL ρ (k.xs[i]).cells from e2, renL_length]; exact hj)
        refine ⟨v, hv, ?_⟩
        have e3 : ((renL ρ k.xs)[i]'(by rw [renL_length]; exact hi)).cells[j]'(by rw [e2, renL_length]; exact hj) = ((k.xs[i]).cells[j]).ren ρ := by
          simp only [e2]
          exact renL_get _ j _ hj
        have hr2 : VRel F w m v (((k.xs[i]).cells[j]).ren ρ) := by rw [← e3]; exact hr
        exact ren_back (n := l.length) (fun b hb => m1lt b hb) _ v (by rw [← hn]; exact below_cells (underL_get hund i hi) j hj) hr2
    · simp only [renB] at hv hx
      refine .inr (.inl ⟨hv, ?_⟩)
      exact List.eq_nil_of_length_eq_zero (by rw [← renL_length (ρ := rho l K.n) k.xs, hx]; rfl)
    · simp only [renB] at h2 h3
      refine .inr (.inr (.inl ⟨β, hm, es, cc, h1, by rw [h2, renL_length], fun i q1 q2 => ?_⟩))
      obtain ⟨nn, bb, a1, a2, a3⟩ := h3 i q1 (by rw [renL_length]; exact q2)
      refine ⟨nn, bb, a1, a2, ?_⟩
      rw [renL_get k.xs i _ q2] at a3
      generalize k.xs[i] = y at a3
      cases y <;> simp only [PV.ren, reduceCtorEq] at a3
      rename_i ly
      simp only [PV.agg.injEq] at a3
      match ly, a3 with
      | [y1, y2], a3 =>
        simp only [renL, List.cons.injEq, and_true] at a3
        obtain ⟨a4, a5⟩ := a3
        cases y1 <;> simp only [PV.ren, reduceCtorEq] at a4
        cases y2 <;> simp only [PV.ren, reduceCtorEq] at a5
        rw [a4, a5]
      | [], a3 => simp [renL] at a3
      | [_], a3 => simp [renL] at a3
      | _ :: _ :: _ :: _, a3 => simp [renL] at a3
    · simp only [renB] at h1
      generalize hk : k.xs = xs at h1
      rw [hk] at hund
      match xs, h1, hund with
      | [], h1, _ => simp [renL] at h1
      | x :: r, h1, hund =>
        simp only [renL, List.cons.injEq] at h1
        obtain ⟨a1, a2⟩ := h1
        have hx : x = .lp L ts := by
          cases x <;> simp only [PV.ren, reduceCtorEq] at a1
          exact a1
        refine .inr (.inr (.inr ⟨β, hm, L, ts, r, by rw [hk, hx], h2, by rw [h3, ← a2, renL_length], fun i q1 q2 => ?_⟩))
        have := h4 i q1 (by rw [← a2, renL_length]; exact q2)
        simp only [← a2] at this
        rw [renL_get r i _ q2] at this
        exact ren_back (n := l.length) (fun b hb => m1lt b hb) _ _ (by rw [← hn]; exact underL_get hund (i + 1) (by simpa using q2)) this
  have hvs1 : CsRel F m1 w vs as := by
    refine ⟨by rw [hvs.1, renL_length], fun i q1 q2 => ?_⟩
    have := hvs.2 i q1 (by rw [renL_length]; exact q2)
    rw [renL_get as i _ q2] at this
    exact ren_back (n := l.length) (fun b hb => m1lt b hb) _ _ (by rw [← hn]; exact underL_get has i q2) this
  refine (hS.2 A w0 F m1 w vs sim1 (fun b hb => m1ge b (by omega)) hvs1).mono ?_
  rintro e w' ⟨v, F', m1', r, H', rfl, hR, s, hu, ev, hv⟩
  let m' : Nat → Slot := fun c => if c < K.n then (match posOf c l 0 with | some b => m1' b | none => m c) else m1' (c - K.n + l.length)
  have m'ρ : ∀ b, b < l.length → m' (ρ b) = m1' b := fun b hb => by
    show (if ρ b < K.n then (match posOf (ρ b) l 0 with | some b => m1' b | none => m (ρ b)) else m1' (ρ b - K.n + l.length)) = m1' b
    rw [if_pos (hρlt b hb), posOf_get (i := 0) hd (hget b hb)]
    simp
  have m'no : ∀ c, c < K.n → posOf c l 0 = none → m' c = m c := fun c hc hp => by
    show (if c < K.n then (match posOf c l 0 with | some b => m1' b | none => m c) else m1' (c - K.n + l.length)) = m c
    rw [if_pos hc, hp]
  have m'new : ∀ c, K.n ≤ c → m' c = m1' (c - K.n + l.length) := fun c hc => if_neg (by omega)
  have pos : ∀ c b, posOf c l 0 = some b → b < l.length ∧ ρ b = c := fun c b h => by
    obtain ⟨_, h2⟩ := posOf_some h
    rw [Nat.sub_zero] at h2
    exact ⟨(List.getElem?_eq_some_iff.1 h2).1, hρ b c h2⟩
  -- each number of the caller's is one of three kinds
  have kind : ∀ c, (∃ b, b < l.length ∧ ρ b = c ∧ c < K.n ∧ posOf c l 0 = some b ∧ m' c = m1' b) ∨ (c < K.n ∧ posOf c l 0 = none ∧ m' c = m c) ∨ (K.n ≤ c ∧ m' c = m1' (c - K.n + l.length)) := by
    intro c
    by_cases hc : c < K.n
    · cases hp : posOf c l 0 with
      | some b =>
        obtain ⟨h1, h2⟩ := pos c b hp
        exact .inl ⟨b, h1, h2, hc, rfl, by rw [← h2, m'ρ b h1]⟩
      | none => exact .inr (.inl ⟨hc, rfl, m'no c hc hp⟩)
    · exact .inr (.inr ⟨by omega, m'new c (by omega)⟩)
  have m'all : ∀ b, m1' b ≠ .unborn → m' (ρ b) = m1' b := by
    intro b hb
    by_cases h : b < l.length
    · exact m'ρ b h
    · rw [hρ2 b (by omega), m'new _ (by omega)]
      congr 1; omega
  have live1 : ∀ β, LiveIn m1 β → LiveIn m β := fun β ⟨b, h⟩ => ⟨_, (at1 h).2⟩
  -- what is not the callee's stays
  have other : ∀ c β, posOf c l 0 = none → (m c).at = some β → β < w.heap.size ∧ ¬ LiveIn m1 β := fun c β hp h => ⟨(sim.live c β h).2.1, fun ⟨b, hb⟩ => by
    have := sim.inj c (ρ b) β h (at1 hb).2
    rw [this, posOf_get (i := 0) hd (hget b (at1 hb).1)] at hp
    cases hp⟩
  have ev' : Ev F m w F' m' w' := by
    refine ⟨ev.grow, ev.frz, sim.fnl, fun β hb hl => ev.keep β hb fun h => hl (live1 β h), fun β ⟨c, hc⟩ => ?_, ev.size, fun c => ?_, sim.liv, fun β hb => ?_⟩
    · rcases kind c with ⟨b, h1, h2, h3, h4, h5⟩ | ⟨h1, h2, h3⟩ | ⟨h1, h2⟩
      · rw [h5] at hc
        rcases ev.fresh β ⟨b, hc⟩ with h | h
        · exact .inl (live1 β h)
        · exact .inr h
      · rw [h3] at hc; exact .inl ⟨c, hc⟩
      · rw [h2] at hc
        rcases ev.fresh β ⟨_, hc⟩ with h | h
        · exact .inl (live1 β h)
        · exact .inr h
    · rcases kind c with ⟨b, h1, h2, h3, h4, h5⟩ | ⟨h1, h2, h3⟩ | ⟨h1, h2⟩
      · rw [h5]
        have := ev.slot b
        rw [m1lt b h1, h2] at this
        exact this
      · rw [h3]; exact slot_refl _
      · rw [hU c h1]; trivial
    · rcases ev.nfz β hb with h | h | h
      · exact .inl h
      · exact .inr (.inl (live1 β h))
      · exact .inr (.inr h)
  refine ⟨v, F', m', r.ren ρ, K.graft l H', rfl, ⟨r, H', hR, rfl, rfl⟩, ?_, fun c hc => ?_, ev', ren_rel hv m'all⟩
  · refine ⟨s.below, fun c β hc => ?_, fun c c' β hc hc' => ?_, s.frz, s.frzlt, fun c k hk hnu => ?_, fun g p hp => (sim.glob g p hp).monoNo ev'⟩
    · rcases kind c with ⟨b, h1, h2, h3, h4, h5⟩ | ⟨h1, h2, h3⟩ | ⟨h1, h2⟩
      · rw [h5] at hc; exact s.live b β hc
      · rw [h3] at hc
        obtain ⟨a1, a2, a3⟩ := sim.live c β hc
        refine ⟨a1, Nat.lt_of_lt_of_le a2 ev.grow, fun hf => ?_⟩
        rcases ev.nfz β hf with h | h | h
        · exact a3 h
        · exact (other c β h2 hc).2 h
        · omega
      · rw [h2] at hc; exact s.live _ β hc
    · have one : ∀ c, (m' c).at = some β → (∃ b, (m1' b).at = some β ∧ ρ b = c) ∨ ((m c).at = some β ∧ posOf c l 0 = none) := by
        intro c hc
        rcases kind c with ⟨b, h1, h2, h3, h4, h5⟩ | ⟨h1, h2, h3⟩ | ⟨h1, h2⟩
        · rw [h5] at hc; exact .inl ⟨b, hc, h2⟩
        · rw [h3] at hc; exact .inr ⟨hc, h2⟩
        · rw [h2] at hc; exact .inl ⟨_, hc, by rw [hρ2 _ (by omega)]; omega⟩
      have cross : ∀ c b, (m c).at = some β → posOf c l 0 = none → (m1' b).at = some β → False := by
        intro c b h1 h2 h3
        obtain ⟨a1, a2⟩ := other c β h2 h1
        rcases ev.fresh β ⟨b, h3⟩ with h | h
        · exact a2 h
        · omega
      rcases one c hc with ⟨b, h1, h2⟩ | ⟨h1, h2⟩ <;> rcases one c' hc' with ⟨b', h1', h2'⟩ | ⟨h1', h2'⟩
      · rw [← h2, ← h2', s.inj b b' β h1 h1']
      · exact (cross c' b h1' h2' h1).elim
      · exact (cross c b' h1 h2 h1').elim
      · exact sim.inj c c' β h1 h1'
    · -- the blocks
      have back : ∀ b k0, H'.f b = some k0 → m1' b ≠ .unborn → (∃ β, m1' b = .live β (renB ρ k0).sz (renB ρ k0).g ∧ BlkOk F' m' w' β (renB ρ k0)) ∨ Odd F' m' w' (m1' b) (renB ρ k0) := by
        intro b k0 hk0 hnu
        rcases s.blk b k0 hk0 hnu with ⟨β, hm, ⟨cs, T, h1, h2, h3, h4⟩⟩ | ⟨hv, hx⟩ | ⟨β, hm, es, cc, h1, h2, h3⟩ | ⟨β, hm, L, ts, ps, h1, h2, h3, h4⟩
        · refine .inl ⟨β, hm, cs, T, h1, by simp only [renB]; rw [renL_length]; exact h2, fun x hx => ?_, fun i hi j hj => ?_⟩
          · simp only [renB] at hx ⊢
            obtain ⟨i, hi, rfl⟩ := List.mem_iff_getElem.1 hx
            rw [renL_get k0.xs i hi (by rw [renL_length] at hi; exact hi), ren_cells, renL_length]
            exact h3 _ (List.getElem_mem _)
          · simp only [renB] at hi hj ⊢
            have hi' : i < k0.xs.length := by rw [renL_length] at hi; exact hi
            have e2 : ((renL ρ k0.xs)[i]).cells = renL ρ (k0.xs[i]).cells := by rw [renL_get k0.xs i _ hi', ren_cells]
            have hj' : j < (k0.xs[i]).cells.length := by rw [e2, renL_length] at hj; exact hj
            obtain ⟨v, hv, hr⟩ := h4 i hi' j hj'
            refine ⟨v, hv, ?_⟩
            have e3 : ((renL ρ k0.xs)[i]).cells[j] = ((k0.xs[i]).cells[j]).ren ρ := by
              simp only [e2]
              exact renL_get _ j _ hj'
            rw [e3]
            exact ren_rel hr m'all
        · exact .inr (.inl ⟨hv, by simp only [renB]; rw [hx]; rfl⟩)
        · refine .inr (.inr (.inl ⟨β, hm, es, cc, h1, by simp only [renB]; rw [h2, renL_length], fun i q1 q2 => ?_⟩))
          simp only [renB] at q2 ⊢
          obtain ⟨nn, bb, a1, a2, a3⟩ := h3 i q1 (by rw [renL_length] at q2; exact q2)
          refine ⟨nn, bb, a1, a2, ?_⟩
          rw [renL_get k0.xs i q2 (by rw [renL_length] at q2; exact q2), a3]
          rfl
        · refine .inr (.inr (.inr ⟨β, hm, L, ts, renL ρ ps, by simp only [renB]; rw [h1]; rfl, h2, by rw [renL_length]; exact h3, fun i q1 q2 => ?_⟩))
          rw [renL_get ps i q2 (by rw [renL_length] at q2; exact q2)]
          exact ren_rel (h4 i q1 (by rw [renL_length] at q2; exact q2)) m'all
      rcases kind c with ⟨b, h1, h2, h3, h4, h5⟩ | ⟨h1, h2, h3⟩ | ⟨h1, h2⟩
      · simp only [Hp.graft, if_pos h3, h4, Option.map_eq_some_iff] at hk
        obtain ⟨k0, hk0, rfl⟩ := hk
        rw [h5] at hnu ⊢
        exact back b k0 hk0 hnu
      · simp only [Hp.graft, if_pos h1, h2] at hk
        rw [h3] at hnu ⊢
        have same : ∀ β, (m c).at = some β → w'.heap[β]? = w.heap[β]? := fun β h => ev.keep β (other c β h2 h).1 (other c β h2 h).2
        rcases sim.blk c k hk hnu with ⟨β, hm, hok⟩ | hv
        · exact .inl ⟨β, hm, hok.mono ev' (same β (at_live hm))⟩
        · exact .inr (hv.mono ev' fun β e => same β (at_mp e))
      · simp only [Hp.graft, if_neg (show ¬ c < K.n by omega), Option.map_eq_some_iff] at hk
        obtain ⟨k0, hk0, rfl⟩ := hk
        rw [h2] at hnu ⊢
        exact back _ k0 hk0 hnu
  · rw [m'new c (by simp only [Hp.graft] at hc; omega)]
    refine hu _ ?_
    simp only [Hp.graft] at hc
    omega
end
end Go.Vm
namespace Go.Vm
open Go Go.RowKit
abbrev pM (q : Int × Bool) : PV := .agg [.int .i64 q.1, .bool q.2]
def look : List (Int × Bool) → Int → Bool
  | [], _ => false
  | q :: r, n => if q.1 = n then q.2 else look r n
def upd : List (Int × Bool) → Int → Bool → List (Int × Bool)
  | [], n, v => [(n, v)]
  | q :: r, n, v => if q.1 = n then (n, v) :: r else q :: upd r n v
theorem mapLook_ents (n : Int) : ∀ es : List (Int × Bool), mapLook (es.map pM) n = look es n
  | [] => rfl
  | q :: r => by
    simp only [List.map_cons, mapLook, look]
    split
    · rfl
    · exact mapLook_ents n r
theorem mapPut_ents (n : Int) (v : Bool) : ∀ es : List (Int × Bool), mapPut (es.map pM) n v = (upd es n v).map pM
  | [] => rfl
  | q :: r => by
    simp only [List.map_cons, mapPut, upd]
    split
    · rfl
    · rw [mapPut_ents n v r]; rfl
theorem upd_new {es : List (Int × Bool)} {n : Int} {v : Bool} (h : ∀ q ∈ es, q.1 ≠ n) : upd es n v = es ++ [(n, v)] := by
  induction es with
  | nil => rfl
  | cons q r ih =>
    rw [upd, if_neg (h q (by simp)), ih fun q hq => h q (by simp [hq])]
    rfl
theorem look_true {ids : List Int} {n : Int} : look (ids.map fun i => (i, true)) n = ids.contains n := by
  induction ids with
  | nil => rfl
  | cons i r ih =>
    simp only [List.map_cons, look, ih, List.contains_cons]
    by_cases h : i = n
    · simp [h]
    · rw [if_neg h]
      have : (n == i) = false := by simpa using fun e : n = i => h e.symm
      rw [this]; simp
section
variable {P : Program} {gl : Nat → Option PV} {e : Bool} {s : Env} {H : Hp} {l : Nodes} {Q : Env → Hp → Prop} {d : Option Nat} {bf : Nat}
theorem n_mapget {x y : RO} {b g sz : Nat} {n : Int} {es : List (Int × Bool)} (hx : x.ev gl s = some (.mp b)) (hy : y.ev gl s = some (.int .i64 n)) (hb : H.f b = some ⟨g, sz, es.map pM⟩) (k : WN P gl e l (s.put d (some (.bool (look es n)))) H Q) : WN P gl e (.op d (.prim .mapget [x, y]) bf l) s H Q := by
  refine n_val rfl ?_ k
  have hB : mapB (es.map pM) = true := by cases es <;> rfl
  simp only [stepN, evs, hx, hy, Option.bind_eq_bind, Option.bind_some, Option.pure_def, primF, hb, hB, if_true, mapLook_ents]
theorem n_mapset {x y z : RO} {b g sz : Nat} {n : Int} {v : Bool} {es : List (Int × Bool)} (hx : x.ev gl s = some (.mp b)) (hy : y.ev gl s = some (.int .i64 n)) (hz : z.ev gl s = some (.bool v)) (hb : H.f b = some ⟨g, sz, es.map pM⟩) (k : WN P gl e l (s.put d none) (H.set b ⟨g, sz, (upd es n v).map pM⟩) Q) : WN P gl e (.op d (.eprim .mapset [x, y, z]) bf l) s H Q := by
  refine ⟨none, _, ?_, k⟩
  have hB : mapB (es.map pM) = true := by cases es <;> rfl
  simp only [stepE, evs, hx, hy, hz, Option.bind_eq_bind, Option.bind_some, eprimF, hb, hB, if_true, mapPut_ents]
theorem n_mkmap {n : Nat} (hn : H.n = n) (k : WN P gl e l (s.put d (some (.mp n))) (H.add [⟨0, 2, ([] : List (Int × Bool)).map pM⟩]) Q) : WN P gl e (.op d (.eprim .mkmap []) bf l) s H Q := by
  subst hn
  exact ⟨_, _, rfl, k⟩
theorem soft_pure1 {bor : Bool} {p : PV} (h : pure1 p = true) : soft H bor p = some p := by
  have key : softN H (fun _ => bor) 5 p = some p := by
    unfold softN
    cases p <;> simp_all [pure1]
  cases p <;> first | exact key | (simp [pure1] at h)
theorem softs_pure {bor : Bool} : ∀ {caps : List PV}, caps.all pure1 = true → softs H bor caps = some caps
  | [], _ => rfl
  | c :: r, h => by
    simp only [List.all_cons, Bool.and_eq_true] at h
    simp only [softs, soft_pure1 h.1, softs_pure h.2, Option.bind_eq_bind, Option.bind_some]
theorem softs_app {bor : Bool} {caps : List PV} (hc : caps.all pure1 = true) : ∀ {as as' : List PV}, softs H bor as = some as' → softs H bor (as ++ caps) = some (as' ++ caps)
  | [], as', h => by
    simp only [softs, Option.some.injEq] at h
    subst h
    exact softs_pure hc
  | a :: as, as', h => by
    simp only [softs, Option.bind_eq_bind, Option.bind_eq_some_iff, Option.some.injEq] at h
    obtain ⟨x, hx, q, hq, rfl⟩ := h
    simp only [List.cons_append, softs, hx, softs_app hc hq, Option.bind_eq_bind, Option.bind_some]
theorem n_callv_p {f : FuncId} {x : RO} {caps : List PV} {args : List RO} {as as' : List PV} {r : PV} (h0 : x.ev gl s = some (.fn f caps)) (h1 : evs (RO.ev gl s) args = some as) (h2 : softs H false as = some as') (hc : caps.all pure1 = true) (h3 : Pure P gl f (as' ++ caps) r) (k : WN P gl e l (s.put d (some r)) H Q) : WN P gl e (.op d (.callv x args) bf l) s H Q :=
  n_callv h0 h1 (softs_app hc h2) h3 k
end
def Wk (p q : PV) : Prop := p = q ∨ ∃ t l, p = .ifc t (.fptr l) ∧ q = .ifc t (.fptr [])
theorem Wk.rfl {p : PV} : Wk p p := .inl _root_.rfl
theorem Wk.ptr {t : TypeId} {l : List PV} : Wk (.ifc t (.fptr l)) (.ifc t (.fptr [])) := .inr ⟨t, l, _root_.rfl, _root_.rfl⟩
theorem Wk.rel {F : Nat → Prop} {m : Nat → Slot} {w : World} {v : Value} {p q : PV} (h : VRel F w m v p) (k : Wk p q) : VRel F w m v q := by
  rcases k with rfl | ⟨t, l, rfl, rfl⟩
  · exact h
  · cases h with
    | ifc _ v' _ h =>
      cases h with
      | fptr ad _ cs hF hc hv => exact .ifc _ _ _ (.fptr ad [] cs hF (fun j hj => absurd hj (by simp)) fun j hj => absurd hj (by simp))
section
variable {P : Program} {gl : Nat → Option PV}
theorem Pure.fnW {ow : Nat → Nat → Bool} {f : FuncId} {c : RCode} {rs : List RRes} {args : List PV} {r : PV} (hmix : P.follows .mixedOrders = true) (hf : fnOf P ow f = some ⟨c, rs⟩) (h : Tr P gl 0 c (envOf args) Hp.none (FnQ rs fun r0 H' => ∃ r1, soft H' true r0 = some r1 ∧ Wk r1 r)) : Pure P gl f args r := by
  refine ⟨(fnOf_spec hf).1, fun A w vs hA hg hvs => ?_⟩
  refine (calls_tr (H := Hp.none) (K := ⟨c, rs⟩) hmix hf h (Sim.none hA hg) (fun _ _ => rfl) hvs).mono ?_
  rintro e w' ⟨v, F', m', r0, H', rfl, ⟨r1, hR, hk⟩, sim, hU, ev, hrel⟩
  refine ⟨v, rfl, sim.below, hk.rel ?_⟩
  exact soft_rel sim (fun _ _ h => h) (fun β h => by
    rcases sim.frz β h with h' | h'
    · exact .inl h'
    · exact .inr ⟨h', sim.frzlt β h⟩) (fun _ β h1 h2 => .inr ⟨h1, h2⟩) hrel hR
theorem fnQ_ret_wk {H : Hp} {s : Env} {rs : List RRes} {r r' rr : PV} (h : retOf rs H s = some r) (h2 : soft H true r = some r') (h3 : Wk r' rr) : FnQ rs (fun r0 H' => ∃ r1, soft H' true r0 = some r1 ∧ Wk r1 rr) .ret s H := ⟨r, h, r', h2, h3⟩
end
end Go.Vm
namespace Go.Vm
theorem pure1s_all : ∀ {l : List PV}, l.all pure1 = true → pure1s l = true
  | [], _ => rfl
  | x :: r, h => by
    simp only [List.all_cons, Bool.and_eq_true] at h
    simp only [pure1s, h.1, pure1s_all h.2, Bool.and_self]
theorem pure1_fn {f : FuncId} {l : List PV} (h : l.all pure1 = true) : pure1 (.fn f l) = true := by
  simp only [pure1]
  exact pure1s_all h
theorem softs_fn1 {H : Hp} {bor : Bool} {x x' : PV} {f : FuncId} {caps : List PV} (h : soft H bor x = some x') (hc : caps.all pure1 = true) : softs H bor [x, .fn f caps] = some [x', .fn f caps] := by
  simp only [softs, h, soft_pure1 (pure1_fn hc), Option.bind_eq_bind, Option.bind_some]
end Go.Vm
namespace Go.Vm
open Go Go.RowKit
mutual
theorem ren_pure (ρ : Nat → Nat) : ∀ (p : PV), pureI p = true → p.ren ρ = p
  | .int .., _ => rfl
  | .bool _, _ => rfl
  | .str _, _ => rfl
  | .nilp, _ => rfl
  | .nilf, _ => rfl
  | .nili, _ => rfl
  | .nilm, _ => rfl
  | .sl _, _ => rfl
  | .raw _, _ => rfl
  | .agg l, h => by
    simp only [PV.ren]
    rw [ren_pures ρ l (by simpa [pureI] using h)]
  | .fn _ l, h => by
    simp only [PV.ren]
    rw [ren_pures ρ l (by simpa [pureI, pure1] using h)]
  | .fptr l, h => by
    simp only [PV.ren]
    rw [ren_pures ρ l (by simpa [pureI, pure1] using h)]
  | .ifc t p, h => by
    simp only [PV.ren]
    rw [ren_pure ρ p (by rw [← pure1_ifc t p]; exact h)]
  | .tup _, h => by simp [pureI, pure1] at h
  | .lit _, h => by simp [pureI, pure1] at h
  | .ref .., h => by simp [pureI, pure1] at h
  | .ptr .., h => by simp [pureI, pure1] at h
  | .cref .., h => by simp [pureI, pure1] at h
  | .mp _, h => by simp [pureI, pure1] at h
  | .yld _, h => by simp [pureI, pure1] at h
  | .lp .., h => by simp [pureI, pure1] at h
theorem ren_pures (ρ : Nat → Nat) : ∀ (l : List PV), pure1s l = true → renL ρ l = l
  | [], _ => rfl
  | x :: r, h => by
    simp only [pure1s, Bool.and_eq_true] at h
    simp only [renL]
    rw [ren_pure ρ x (pure1_I h.1), ren_pures ρ r h.2]
end
theorem renL_pure {ρ : Nat → Nat} : ∀ {l : List PV}, l.all pureE = true → renL ρ l = l
  | [], _ => rfl
  | x :: r, h => by
    simp only [List.all_cons, Bool.and_eq_true] at h
    have hx : pureI x = true := by
      cases x <;> first | exact h.1 | (exact pure1s_all h.1) | (simp [pureE] at h)
    simp only [renL, ren_pure ρ x hx, renL_pure h.2]
def chkR (ρ : Nat → Nat) (n : Nat) (K : Hp) : List (Option Blk) → List Nat → Prop
  | [], _ => True
  | _ :: _, [] => False
  | none :: l, _ :: r => True ∧ chkR ρ n K l r
  | some k :: l, c :: r => (∃ k', K.f c = some k' ∧ k'.g = k.g ∧ k'.sz = k.sz ∧ k'.xs = renL ρ k.xs ∧ underL n k.xs = true) ∧ chkR ρ n K l r
theorem chkR_get {ρ : Nat → Nat} {n : Nat} {K : Hp} : ∀ {l : List (Option Blk)} {r : List Nat}, chkR ρ n K l r → ∀ (b : Nat) (k : Blk), (l[b]?).join = some k → ∃ c, r[b]? = some c ∧ K.f c = some (renB ρ k) ∧ underL n k.xs = true
  | [], _, _, b, k, h => by simp at h
  | o :: l, [], h, b, k, hk => by cases o <;> exact h.elim
  | none :: l, c :: r, h, b, k, hk => by
    cases b with
    | zero => simp at hk
    | succ b => exact chkR_get h.2 b k (by simpa using hk)
  | some k0 :: l, c :: r, h, b, k, hk => by
    cases b with
    | zero =>
      simp only [List.getElem?_cons_zero, Option.join_some, Option.some.injEq] at hk
      subst hk
      obtain ⟨⟨g', z', x'⟩, h1, h2, h3, h4, h5⟩ := h.1
      simp only at h2 h3 h4
      subst h2 h3 h4
      exact ⟨c, rfl, h1, h5⟩
    | succ b => exact chkR_get h.2 b k (by simpa using hk)
inductive RenL (ρ : Nat → Nat) : List (Option Blk) → List (Option Blk) → Prop
  | nil : RenL ρ [] []
  | none {l l' : List (Option Blk)} (h : RenL ρ l l') : RenL ρ (none :: l) (none :: l')
  | some {g sz : Nat} {xs xs' : List PV} {l l' : List (Option Blk)} (hx : renL ρ xs = xs') (h : RenL ρ l l') : RenL ρ (.some ⟨g, sz, xs⟩ :: l) (.some ⟨g, sz, xs'⟩ :: l')
theorem RenL.length {ρ : Nat → Nat} {l l' : List (Option Blk)} (h : RenL ρ l l') : l.length = l'.length := by
  induction h <;> simp [*]
theorem RenL.get {ρ : Nat → Nat} {l l' : List (Option Blk)} (h : RenL ρ l l') : ∀ i : Nat, (l'[i]?).join = ((l[i]?).join).map (renB ρ) := by
  induction h with
  | nil => intro i; simp
  | none h ih => intro i; cases i with
    | zero => rfl
    | succ i => simpa using ih i
  | some hx h ih => intro i; cases i with
    | zero => simp [renB, hx]
    | succ i => simpa using ih i
def Hp.graftL (K : Hp) (l : List Nat) (l' : List (Option Blk)) : Hp := ⟨K.n + (l'.length - l.length), fun c => if c < K.n then (match posOf c l 0 with | some b => (l'[b]?).join | .none => K.f c) else (l'[c - K.n + l.length]?).join, fun c hc => by
  rw [if_neg (by omega), List.getElem?_eq_none (by omega)]
  rfl⟩
theorem hn6 (K : Hp) (l : List Nat) (l' : List (Option Blk)) : (K.graftL l l').n = K.n + (l'.length - l.length) := rfl
theorem graft_ofL {K : Hp} {l : List Nat} {l1 l1' : List (Option Blk)} (h : RenL (rho l K.n) l1 l1') : K.graft l (Hp.ofL l1) = K.graftL l l1' := by
  refine Hp.ext ?_ ?_
  · show K.n + (l1.length - l.length) = K.n + (l1'.length - l.length)
    rw [h.length]
  · funext c
    simp only [Hp.graft, Hp.graftL, Hp.ofL]
    split
    · cases posOf c l 0 with
      | none => rfl
      | some b => exact (h.get b).symm
    · exact (h.get _).symm
section
variable {P : Program} {gl : Nat → Option PV} {s : Env} {H : Hp} {l : Nodes} {Q : Env → Hp → Prop} {d : Option Nat} {bf : Nat}
theorem frame_spec {f : FuncId} {as as0 : List PV} {r0 r' : PV} {l0 l1 l1' : List (Option Blk)} {ρ : List Nat} {n : Nat} (hn : H.n = n) (h3 : HSpec P gl f as0 (Hp.ofL l0) (fun r G => r = r0 ∧ G = Hp.ofL l1)) (ha : renL (rho ρ n) as0 = as) (hu : underL l0.length as0 = true) (hl : l0.length = ρ.length) (hd : ρ.Nodup) (hlt : ∀ c ∈ ρ, c < n)
    (hq : chkR (rho ρ n) l0.length H l0 ρ) (hr : r0.ren (rho ρ n) = r') (hl1 : RenL (rho ρ n) l1 l1') : HSpec P gl f as H (fun r G => r = r' ∧ G = H.graftL ρ l1') := by
  subst hn ha hr
  have := h3.frame (K := H) (l := ρ) hl hd hlt (fun b k hk => chkR_get hq b k hk) hu
  refine ⟨this.1, fun A w0 F m w vs sim hU hvs => (this.2 A w0 F m w vs sim hU hvs).mono ?_⟩
  rintro e w' ⟨v, F', m', r, H', h1, ⟨r1, G, ⟨rfl, rfl⟩, rfl, rfl⟩, h2⟩
  exact ⟨v, F', m', _, _, h1, ⟨rfl, graft_ofL hl1⟩, by rw [graft_ofL hl1] at h2 ⊢; exact h2⟩
theorem n_frameL {f : FuncId} {args : List RO} {as as0 : List PV} {r0 r' : PV} {l0 l1 l1' : List (Option Blk)} (ρ : List Nat) {n : Nat} (hn : H.n = n) (h1 : evs (RO.ev gl s) args = some as) (h3 : HSpec P gl f as0 (Hp.ofL l0) (fun r G => r = r0 ∧ G = Hp.ofL l1)) (ha : renL (rho ρ n) as0 = as) (hu : underL l0.length as0 = true) (hl : l0.length = ρ.length) (hd : ρ.Nodup) (hlt : ∀ c ∈ ρ, c < n)
    (hq : chkR (rho ρ n) l0.length H l0 ρ) (hr : r0.ren (rho ρ n) = r') (hl1 : RenL (rho ρ n) l1 l1') (k : WN P gl true l (s.put d (some r')) (H.graftL ρ l1') Q) : WN P gl true (.op d (.call f args) bf l) s H Q :=
  n_spec h1 (frame_spec hn h3 ha hu hl hd hlt hq hr hl1) (by rw [hn6]; omega) k
theorem n_frameLv {f : FuncId} {x : RO} {caps : List PV} {args : List RO} {as as0 : List PV} {r0 r' : PV} {l0 l1 l1' : List (Option Blk)} (ρ : List Nat) {n : Nat} (hn : H.n = n) (h0 : x.ev gl s = some (.fn f caps)) (h1 : evs (RO.ev gl s) args = some as) (h3 : HSpec P gl f as0 (Hp.ofL l0) (fun r G => r = r0 ∧ G = Hp.ofL l1)) (ha : renL (rho ρ n) as0 = as ++ caps) (hu : underL l0.length as0 = true) (hl : l0.length = ρ.length) (hd : ρ.Nodup) (hlt : ∀ c ∈ ρ, c < n)
    (hq : chkR (rho ρ n) l0.length H l0 ρ) (hr : r0.ren (rho ρ n) = r') (hl1 : RenL (rho ρ n) l1 l1') (k : WN P gl true l (s.put d (some r')) (H.graftL ρ l1') Q) : WN P gl true (.op d (.callv x args) bf l) s H Q :=
  n_specv h0 h1 (frame_spec hn h3 ha hu hl hd hlt hq hr hl1) (by rw [hn6]; omega) k
end
section
variable {P : Program} {gl : Nat → Option PV} {e : Bool} {s : Env} {H : Hp} {l : Nodes} {Q : Env → Hp → Prop} {d : Option Nat} {bf : Nat} {α : Type} {f : α → PV}
theorem cellsOk_vals {sz : Nat} (hf : ∀ a, ((f a).cells.length == sz && (f a).cells.all PV.one) = true) (ys : List α) : cellsOk sz (ys.map f) = true := by
  rw [cellsOk, List.all_map, List.all_eq_true]
  exact fun a _ => hf a
theorem n_append_row {sz b g k k' : Nat} {z : PV} {x v : RO} {xs ys : List α} {p : PV} (hx : x.ev gl s = some (.ref b g 0 k)) (hv : v.ev gl s = some p) (he : elems H p = some (ys.map f)) (hb : H.f b = some ⟨g, sz, xs.map f⟩) (hf : ∀ a, ((f a).cells.length == sz && (f a).cells.all PV.one) = true) (hl : k = xs.length) (hm : k + ys.length ≤ 1048576) (hk : k + ys.length = k')
    (kk : WN P gl e l (s.put d (some (.ref b (g + 1) 0 k'))) (H.set b ⟨g + 1, sz, (xs ++ ys).map f⟩) Q) : WN P gl e (.op d (.append sz z x v) bf l) s H Q := by
  subst hl hk
  refine n_append (ys := ys.map f) hx hv hb (by simp) he (cellsOk_vals hf ys) (by simpa using hm) (len' := xs.length + ys.length) (by simp) ?_
  rw [← List.map_append]
  exact kk
end
section
variable {P : Program} {gl : Nat → Option PV} {n0 : Nat} {s : Env} {H : Hp} {Q : Ex → Env → Hp → Prop}
end
abbrev pz : Int → PV := fun n => .int .i64 n
section
variable {P : Program} {gl : Nat → Option PV} {A : Nat → Prop} {w0 : World} {F : Nat → Prop} {m : Nat → Slot} {w : World} {H : Hp}
theorem Sim.ahead (sim : Sim gl A w0 F m w H) : ∀ n, Sim gl A w0 F m (Sort.ahead w n) H ∧ Ev F m w F m (Sort.ahead w n)
  | 0 => ⟨sim, Ev.refl sim.fnl sim.liv⟩
  | n + 1 => by
    obtain ⟨s1, e1⟩ := Sim.ahead sim n
    obtain ⟨s2, e2⟩ := s1.drew
    exact ⟨s2, e1.trans e2⟩
end
end Go.Vm
namespace Go.Vm
open Go Go.RowKit
section
variable {P : Program} {gl : Nat → Option PV} {n0 : Nat} {s s' : Env} {H H' : Hp} {Q : Ex → Env → Hp → Prop} {A : Nat → Prop} {w0 : World} {F : Nat → Prop} {m : Nat → Slot} {w : World}
def Hp.del (H : Hp) (b : Nat) : Hp := ⟨H.n, fun c => if c = b then Option.none else H.f c, fun c hc => by
  show (if c = b then Option.none else H.f c) = Option.none
  split
  · rfl
  · exact H.wf c hc⟩
theorem Sim.del (sim : Sim gl A w0 F m w H) (b : Nat) : Sim gl A w0 F m w (H.del b) :=
  ⟨sim.below, sim.live, sim.inj, sim.frz, sim.frzlt, fun c k hk hnu => by
    simp only [Hp.del] at hk
    split at hk
    · cases hk
    · exact sim.blk c k hk hnu, sim.glob⟩
def _root_.Go.Loop.fin (L : Loop) (j : Option Code) : Loop := { L with state := if j.isNone then .ready else .done, pending := j }
end
section
variable {P : Program} {gl : Nat → Option PV} {s : Env} {H : Hp} {l : Nodes} {Q : Env → Hp → Prop} {d : Option Nat} {bf : Nat}
end
inductive V3 where
  | bot | one (c : BitVec 32) | top
  deriving DecidableEq
def V3.k : V3 → Int
  | .bot => 0 | .one _ => 1 | .top => 2
def V3.c : V3 → Int
  | .one c => c.toInt
  | _ => 0
abbrev pv (v : V3) : PV := .agg [.int .i64 v.k, .int .i64 v.c]
def V3.join : V3 → V3 → V3
  | .bot, b => b
  | a, .bot => a
  | a, b => if a = b then b else .top
def V3.leq (a b : V3) : Bool := decide (a.join b = b)
def V3.each (f : BitVec 32 → BitVec 32 → BitVec 32) : V3 → V3 → V3
  | .bot, _ => .bot
  | _, .bot => .bot
  | .one x, .one y => .one (f x y)
  | _, _ => .top
def V3.add := V3.each (· + ·)
def V3.sub := V3.each (· - ·)
def V3.mul := V3.each (· * ·)
def V3.neg (a : V3) : V3 := V3.sub (.one 0) a
variable (a b c : V3)
end Go.Vm
namespace Go.Vm
end Go.Vm
namespace Go.Vm
end Go.Vm
namespace Go.Vm
end Go.Vm
namespace Go.Vm
end Go.Vm
namespace Go.Vm
section
variable (x y z : BitVec 32)
end
end Go.Vm
namespace Go.Vm
section
variable (a b c : V3)
end
def i64r (n : Int) : Prop := -9223372036854775808 ≤ n ∧ n ≤ 9223372036854775807
def sn (s : Int) : Int := if 0 ≤ s ∧ s ≤ 7 then s else 7
def sOr (a b : Int) : Int := IntKind.i64.wrap ((BitVec.ofInt 64 a ||| BitVec.ofInt 64 b).toNat : Int)
def sJoin (a b : Int) : Int := sOr (sn a) (sn b)
def sLeq (a b : Int) : Bool := IntKind.i64.wrap ((BitVec.ofInt 64 (sn a) &&& ~~~(BitVec.ofInt 64 (sn b))).toNat : Int) == 0
abbrev pq (q : Int × Int) : PV := .agg [.int .i64 q.1, .int .i64 q.2]
section
variable {α T : Type}
abbrev eIn (f : α → PV) (on : Bool) (l : List α) : PV := .agg [.bool on, .sl (l.map f)]
def eAbs (g : α → T) (on : Bool) (l : List α) : Option (List T) := if on then some (l.map g) else none
def eV : Option (List T) → List T
  | none => []
  | some l => l
end
end Go.Vm
namespace Go.Vm
section
variable {α T : Type}
def eAll (n : Int) (x : T) : Option (List T) := some (List.replicate (max 0 (min n 64)).toNat x)
def RepE (f : α → PV) (g : α → T) (p : PV) (e : Option (List T)) : Prop := ∃ on l, p = eIn f on l ∧ eAbs g on l = e ∧ l.length ≤ 500
def Few (e : Option (List T)) : Prop := (eV e).length ≤ 500
theorem RepE.few {f : α → PV} {g : α → T} {p : PV} {e : Option (List T)} (h : RepE f g p e) : Few e := by
  obtain ⟨on, l, _, rfl, hl⟩ := h
  unfold Few eAbs
  cases on with
  | false => simp [eV]
  | true => simpa [eV] using hl
end
abbrev I64 := {x : Int // i64r x}
abbrev S8 := {x : Int // 0 ≤ x ∧ x ≤ 7}
abbrev ps (x : S8) : PV := .int .i64 x.1
theorem sn_07 (x : Int) : 0 ≤ sn x ∧ sn x ≤ 7 := by unfold sn; split <;> omega
def S8.i (x : S8) : I64 := ⟨x.1, by have := x.2; unfold i64r; omega⟩
theorem sOr_07 : ∀ a b : Fin 8, 0 ≤ sOr (a.1 : Int) (b.1 : Int) ∧ sOr (a.1 : Int) (b.1 : Int) ≤ 7 := by decide +kernel
theorem sOr_r {a b : Int} (ha : 0 ≤ a ∧ a ≤ 7) (hb : 0 ≤ b ∧ b ≤ 7) : 0 ≤ sOr a b ∧ sOr a b ≤ 7 := by
  have := sOr_07 ⟨a.toNat, by omega⟩ ⟨b.toNat, by omega⟩
  simp only [Int.toNat_of_nonneg ha.1, Int.toNat_of_nonneg hb.1] at this
  exact this
def S8.join (a b : S8) : S8 := ⟨sJoin a.1 b.1, sOr_r (sn_07 _) (sn_07 _)⟩
def S8.leq (a b : S8) : Bool := sLeq a.1 b.1
theorem S8.i64 (a : S8) : i64r a.1 := by have := a.2; unfold i64r; omega
end Go.Vm
namespace Go.Vm
structure Lat {T : Type} (z : T) (j : T → T → T) (le : T → T → Bool) : Prop where
  comm : ∀ a b, j a b = j b a
  assoc : ∀ a b c, j (j a b) c = j a (j b c)
  idem : ∀ a, j a a = a
  bot : ∀ a, j z a = a
  refl : ∀ a, le a a = true
  trans : ∀ a b c, le a b = true → le b c = true → le a c = true
  up : ∀ a b, le a (j a b) = true
  two : ∀ a b c, (le a c && le b c) = le (j a b) c
  least : ∀ a, le z a = true
section
variable {T : Type} {z : T} {j : T → T → T} {le : T → T → Bool}
end
end Go.Vm
namespace Go.Vm
section
variable {α T : Type} {z : T}
end
theorem list_of {α : Type} {f : α → PV} : ∀ {l : List PV}, (∀ x ∈ l, ∃ a, x = f a) → ∃ q : List α, l = q.map f
  | [], _ => ⟨[], rfl⟩
  | x :: l, h => by
    obtain ⟨a, rfl⟩ := h x (by simp)
    obtain ⟨q, rfl⟩ := list_of (l := l) fun y hy => h y (by simp [hy])
    exact ⟨a :: q, rfl⟩
structure In where
  id : Int
  kind : Int
  dst : Int
  a : Int
  b : Int
  c : Int
  f : Int
  n : Int
  x : Int
  y : Int
  z : Int
  deriving DecidableEq
abbrev pI (i : In) : PV := .agg [.int .i64 i.id, .int .i64 i.kind, .int .i64 i.dst, .int .i64 i.a, .int .i64 i.b, .int .i64 i.c, .int .i64 i.f, .int .i64 i.n, .int .i64 i.x, .int .i64 i.y, .int .i64 i.z]
def hD (k : Int) : Bool := decide (0 ≤ k) && decide (k ≤ 7)
def hA (k : Int) : Bool := decide (1 ≤ k) && decide (k ≤ 5) || k == 8 || k == 9
def hB (k : Int) : Bool := decide (3 ≤ k) && decide (k ≤ 5)
def hC (k : Int) : Bool := k == 0
def hF (k : Int) : Bool := k == 7
def bareI (i : In) : In := ⟨0, 0, if hD i.kind then 0 else i.dst, if hA i.kind then 0 else i.a, if hB i.kind then 0 else i.b, if hC i.kind then 0 else i.c, if hF i.kind then 0 else i.f, if hF i.kind then 0 else i.n,
  if hF i.kind && decide (0 < i.n) then 0 else i.x, if hF i.kind && decide (1 < i.n) then 0 else i.y, if hF i.kind && decide (2 < i.n) then 0 else i.z⟩
def i0 : In := ⟨0, 0, 0, 0, 0, 0, 0, 0, 0, 0, 0⟩
def form (i : In) : Bool :=
  decide (0 ≤ i.kind ∧ i.kind ≤ 9) && decide (0 ≤ i.id ∧ i.id ≤ 95) && decide (0 ≤ i.n ∧ i.n ≤ 3) && decide (-2147483648 ≤ i.c ∧ i.c ≤ 2147483647) &&
  decide (0 ≤ i.dst ∧ 0 ≤ i.a ∧ 0 ≤ i.b ∧ 0 ≤ i.f ∧ 0 ≤ i.x ∧ 0 ≤ i.y ∧ 0 ≤ i.z) && decide (bareI i = i0)
def defI (i : In) : Int := if form i && hD i.kind then i.dst else -1
def dedup (l : List Int) : List Int := l.foldl (fun o v => if o.contains v then o else o ++ [v]) []
def rawUses (i : In) : List Int := (if hA i.kind then [i.a] else []) ++ (if hB i.kind then [i.b] else []) ++ [i.x, i.y, i.z].take i.n.toNat
def usesI (i : In) : List Int := if form i then dedup (rawUses i) else []
def nmL : List ByteArray := [⟨#[99, 111, 110, 115, 116]⟩, ⟨#[99, 111, 112, 121]⟩, ⟨#[110, 101, 103]⟩, ⟨#[97, 100, 100]⟩, ⟨#[115, 117, 98]⟩, ⟨#[109, 117, 108]⟩, ⟨#[105, 110, 112, 117, 116]⟩, ⟨#[99, 97, 108, 108]⟩, ⟨#[117, 115, 101]⟩, ⟨#[114, 101, 116]⟩]
def bs0 : ByteArray := ⟨#[]⟩
def nm (k : Int) : ByteArray := if 0 ≤ k ∧ k ≤ 9 then nmL.getD k.toNat bs0 else bs0
def ptL : List ByteArray := [⟨#[100, 99]⟩, ⟨#[100, 97]⟩, ⟨#[100, 97]⟩, ⟨#[100, 97, 98]⟩, ⟨#[100, 97, 98]⟩, ⟨#[100, 97, 98]⟩, ⟨#[100]⟩, ⟨#[100, 102]⟩, ⟨#[97]⟩, ⟨#[97]⟩]
def pt (k : Int) : ByteArray := if 0 ≤ k ∧ k ≤ 9 then ptL.getD k.toNat bs0 else bs0
def asciiL : List PV := (List.range 256).map fun i => .int .u8 (if i = 9 ∨ i = 10 ∨ i = 11 ∨ i = 12 ∨ i = 13 ∨ i = 32 then 1 else 0)
theorem kind_cases (k : Int) : k = 0 ∨ k = 1 ∨ k = 2 ∨ k = 3 ∨ k = 4 ∨ k = 5 ∨ k = 6 ∨ k = 7 ∨ k = 8 ∨ k = 9 ∨ (k < 0 ∨ 9 < k) := by omega
end Go.Vm
namespace Go.Vm
section
variable {P : Program} {gl : Nat → Option PV} {e : Bool} {s : Env} {H : Hp} {l : Nodes} {Q : Env → Hp → Prop} {d : Option Nat} {bf : Nat}
theorem n_eprim {t : EPrim} {args : List RO} {r : PV} {H' : Hp} (h : stepE (RO.ev gl s) H (.eprim t args) = some (some r, H')) (k : WN P gl e l (s.put d (some r)) H' Q) : WN P gl e (.op d (.eprim t args) bf l) s H Q := ⟨some r, H', h, k⟩
end
end Go.Vm
namespace Go.Vm
section
variable {P : Program} {gl : Nat → Option PV} {e : Bool} {s : Env} {H : Hp} {l : Nodes} {Q : Env → Hp → Prop} {d : Option Nat} {bf : Nat}
theorem mm2_min {k : IntKind} {a b : Int} : mm2 false (.int k a) (.int k b) = some (.int k (min a b)) := by
  simp only [mm2, Bool.false_eq_true, if_false]
  congr 2
  omega
theorem n_min5 {x y1 y2 y3 y4 : RO} {k : IntKind} {a b1 b2 b3 b4 : Int} (hx : x.ev gl s = some (.int k a)) (h1 : y1.ev gl s = some (.int k b1)) (h2 : y2.ev gl s = some (.int k b2)) (h3 : y3.ev gl s = some (.int k b3)) (h4 : y4.ev gl s = some (.int k b4))
    (kk : WN P gl e l (s.put d (some (.int k (min (min (min (min a b1) b2) b3) b4)))) H Q) : WN P gl e (.op d (.mm false x [y1, y2, y3, y4]) bf l) s H Q := by
  refine n_val (r := .int k (min (min (min (min a b1) b2) b3) b4)) rfl ?_ kk
  simp only [stepN, hx, h1, h2, h3, h4, mmL, mm2_min, Option.bind_eq_bind, Option.bind_some, Option.pure_def]
end
theorem nm_empty (k : Int) : ((nm k).toList == bs0.toList) = !decide (0 ≤ k ∧ k ≤ 9) := by
  rcases kind_cases k with rfl | rfl | rfl | rfl | rfl | rfl | rfl | rfl | rfl | rfl | h
  any_goals decide +kernel
  rw [nm, if_neg (by omega), decide_eq_false (by omega : ¬ (0 ≤ k ∧ k ≤ 9))]
  decide +kernel
theorem eq_i0 (j : In) : (j.id == 0 && (j.kind == 0 && (j.dst == 0 && (j.a == 0 && (j.b == 0 && (j.c == 0 && (j.f == 0 && (j.n == 0 && (j.x == 0 && (j.y == 0 && (j.z == 0 && true))))))))))) = decide (j = i0) := by
  obtain ⟨id, k, dst, a, b, c, f, n, x, y, z⟩ := j
  rw [Bool.eq_iff_iff, decide_eq_true_eq]
  simp [i0]
theorem form_f {i : In} (h : ((nm i.kind).toList == bs0.toList || decide (i.id < 0) || decide (i.id ≥ 96) || decide (i.n < 0) || decide (i.n > 3) || decide (i.c < -2147483648) || decide (i.c > 2147483647)) = true) : form i = false := by
  rw [nm_empty] at h
  cases hf : form i with
  | false => rfl
  | true =>
    simp only [form, Bool.and_eq_true, decide_eq_true_eq] at hf
    simp only [Bool.or_eq_true, Bool.not_eq_true', decide_eq_false_iff_not, decide_eq_true_eq] at h
    omega
theorem form_t {i : In} (h : ((nm i.kind).toList == bs0.toList || decide (i.id < 0) || decide (i.id ≥ 96) || decide (i.n < 0) || decide (i.n > 3) || decide (i.c < -2147483648) || decide (i.c > 2147483647)) = false) : form i = (decide (min (min (min (min i.dst i.a) i.b) i.f) (min (min i.x i.y) i.z) ≥ 0) && decide (bareI i = i0)) := by
  rw [nm_empty] at h
  simp only [Bool.or_eq_false_iff, Bool.not_eq_false', decide_eq_true_eq, decide_eq_false_iff_not] at h
  rw [form, decide_eq_true (by omega : 0 ≤ i.kind ∧ i.kind ≤ 9), decide_eq_true (by omega : 0 ≤ i.id ∧ i.id ≤ 95), decide_eq_true (by omega : 0 ≤ i.n ∧ i.n ≤ 3), decide_eq_true (by omega : -2147483648 ≤ i.c ∧ i.c ≤ 2147483647)]
  simp only [Bool.true_and]
  congr 1
  rw [decide_eq_decide]
  omega
abbrev pint (n : Int) : PV := .int .i64 n
section
variable {P : Program} {gl : Nat → Option PV} {e : Bool} {s : Env} {H : Hp} {l : Nodes} {Q : Env → Hp → Prop} {d : Option Nat} {bf : Nat} {α : Type} {f : α → PV}
theorem softs_vals {b g sz len : Nat} {xs : List α} {r r' : List PV} (hb : H.f b = some ⟨g, sz, xs.map f⟩) (hf : ∀ a, pureE (f a) = true) (hl : len = xs.length) (hr : softs H true r = some r') : softs H true (.ref b g 0 len :: r) = some (.sl (xs.map f) :: r') := by
  simp only [softs, soft, soft0, soft_vals hb hf hl, hr, Option.bind_eq_bind, Option.bind_some]
theorem fzP_eqp {k : Nat} {xs ys : List PV} (h : xs = ys) (hp : xs.all pureE = true) : fzP H k xs = some ys := by subst h; exact fzP_pure hp
end
def ixOf (l : List Int) (v : Int) : Int := if l.findIdx (· == v) < l.length then (l.findIdx (· == v) : Nat) else -1
theorem ixOf_at {l : List Int} {v : Int} {k : Nat} (hk : k < l.length) (h : l.getD k 0 = v) (hn : ∀ j, j < k → l.getD j 0 ≠ v) : ixOf l v = k := by
  have e : l.findIdx (· == v) = k := by
    rw [List.findIdx_eq hk]
    refine ⟨?_, fun j hj => ?_⟩
    · simp only [List.getD_eq_getElem?_getD, List.getElem?_eq_getElem hk, Option.getD_some] at h
      simpa using h
    · have := hn j hj
      simp only [List.getD_eq_getElem?_getD, List.getElem?_eq_getElem (show j < l.length by omega), Option.getD_some] at this
      simpa using this
  rw [ixOf, e, if_pos hk]
theorem ixOf_no {l : List Int} {v : Int} (hn : ∀ j, j < l.length → l.getD j 0 ≠ v) : ixOf l v = -1 := by
  rw [ixOf, if_neg]
  rw [List.findIdx_lt_length]
  rintro ⟨x, hx, he⟩
  obtain ⟨j, hj, rfl⟩ := List.mem_iff_getElem.1 hx
  have := hn j hj
  simp only [List.getD_eq_getElem?_getD, List.getElem?_eq_getElem hj, Option.getD_some] at this
  exact this (by simpa using he)
theorem ixOf_in (l : List Int) (v : Int) : decide (ixOf l v ≥ 0) = l.contains v := by
  unfold ixOf
  by_cases h : l.findIdx (· == v) < l.length
  · rw [if_pos h]
    rw [List.findIdx_lt_length] at h
    obtain ⟨x, hx, he⟩ := h
    have : x = v := by simpa using he
    subst this
    rw [List.contains_iff_mem.2 hx]
    simp
  · rw [if_neg h]
    rw [List.findIdx_lt_length] at h
    have : l.contains v = false := by
      rw [Bool.eq_false_iff]
      intro hc
      exact h ⟨v, List.contains_iff_mem.1 hc, by simp⟩
    rw [this]; rfl
def dd (o : List Int) (v : Int) : List Int := if o.contains v then o else o ++ [v]
theorem dedup_snoc (l : List Int) (v : Int) : dedup (l ++ [v]) = dd (dedup l) v := by simp [dedup, dd, List.foldl_append]
end Go.Vm
namespace Go.Vm
section
variable {P : Program} {gl : Nat → Option PV} {e : Bool} {s : Env} {H : Hp} {l : Nodes} {Q : Env → Hp → Prop} {d : Option Nat} {bf : Nat} {α : Type} {f : α → PV}
theorem n_append_valsL {sz b g k len' : Nat} {z : PV} {x v : RO} {q : PV} {xs : List α} (a : α) (hx : x.ev gl s = some (.ref b g 0 k)) (hv : v.ev gl s = some (.lit [q])) (hb : H.f b = some ⟨g, sz, xs.map f⟩) (hq : q = f a) (hz : cellsOk sz [q] = true) (hl : k = xs.length) (hm : k + 1 ≤ 1048576) (hl' : (xs ++ [a]).length = len')
    (kk : WN P gl e l (s.put d (some (.ref b (g + 1) 0 len'))) (H.set b ⟨g + 1, sz, (xs ++ [a]).map f⟩) Q) : WN P gl e (.op d (.append sz z x v) bf l) s H Q := by
  subst hl'
  exact n_append_vals a hx hv hb hq hz hl hm (by rw [hl]; simpa using kk)
end
end Go.Vm
namespace Go.Vm
/-! ### Sorting by insertion -/
def swp (ys : List Int) (j : Nat) : List Int := (ys.set (j + 1) (ys.getD j 0)).set j (ys.getD (j + 1) 0)
def inn : Nat → List Int → List Int
  | 0, ys => ys
  | j + 1, ys => if ys.getD (j + 1) 0 < ys.getD j 0 then inn j (swp ys j) else ys
def srt : Nat → List Int → List Int
  | 0, xs => xs
  | k + 1, xs => inn (k + 1) (srt k xs)
theorem swp_length (ys : List Int) (j : Nat) : (swp ys j).length = ys.length := by simp [swp]
theorem inn_length : ∀ (j : Nat) (ys : List Int), (inn j ys).length = ys.length
  | 0, _ => rfl
  | j + 1, ys => by
    unfold inn
    split
    · rw [inn_length j, swp_length]
    · rfl
theorem srt_length : ∀ (k : Nat) (xs : List Int), (srt k xs).length = xs.length
  | 0, _ => rfl
  | k + 1, xs => by rw [srt, inn_length, srt_length k]
end Go.Vm
namespace Go.Vm
theorem inn_stop {j : Int} {ys : List Int} (h0 : 0 ≤ j) (h : (decide (j > 0) && decide (ys.getD j.toNat 0 < ys.getD (j - 1).toNat 0)) = false) : inn j.toNat ys = ys := by
  generalize hn : j.toNat = n at *
  cases n with
  | zero => rfl
  | succ n =>
    rw [inn, if_neg]
    intro hc
    have e : (j - 1).toNat = n := by omega
    rw [e] at h
    simp only [Bool.and_eq_false_iff, decide_eq_false_iff_not] at h
    rcases h with h | h
    · omega
    · exact h hc
theorem inn_go {j : Int} {ys : List Int} (h : (decide (j > 0) && decide (ys.getD j.toNat 0 < ys.getD (j - 1).toNat 0)) = true) :
    inn (j - 1).toNat ((ys.set j.toNat (ys.getD (j - 1).toNat 0)).set (j - 1).toNat (ys.getD j.toNat 0)) = inn j.toNat ys := by
  simp only [Bool.and_eq_true, decide_eq_true_eq] at h
  have e : j.toNat = (j - 1).toNat + 1 := by omega
  generalize (j - 1).toNat = n at *
  generalize j.toNat = m at *
  subst e
  rw [show inn (n + 1) ys = if ys.getD (n + 1) 0 < ys.getD n 0 then inn n (swp ys n) else ys from rfl, if_pos h.2]
  rfl
theorem srt_fin {i : Nat} {j : Int} {ys l : List Int} (ho : 1 ≤ i ∧ i ≤ max l.length 1) (hx : 0 ≤ j ∧ j ≤ i ∧ ys.length = l.length ∧ inn j.toNat ys = inn i (srt (i - 1) l)) (h : (decide (j > 0) && decide (ys.getD j.toNat 0 < ys.getD (j - 1).toNat 0)) = false) : ys = srt (i + 1 - 1) l := by
  rw [inn_stop hx.1 h] at hx
  rw [hx.2.2.2]
  obtain ⟨k, rfl⟩ : ∃ k, i = k + 1 := ⟨i - 1, by omega⟩
  rfl
def cpS (o : List Int) (v : Int) : List Int := if o.getLast? = some v then o else o ++ [v]
def cp (l : List Int) : List Int := l.foldl cpS []
theorem cp_snoc (l : List Int) (v : Int) : cp (l ++ [v]) = cpS (cp l) v := by simp [cp, List.foldl_append]
theorem cp_last : ∀ (n : Nat) (l : List Int), l.length = n → (cp l).getLast? = l.getLast?
  | 0, l, h => by
    obtain rfl := List.length_eq_zero_iff.1 h
    rfl
  | n + 1, l, h => by
    have hne : l ≠ [] := by rintro rfl; simp at h
    obtain ⟨l', v, rfl⟩ : ∃ l' v, l = l' ++ [v] := ⟨l.dropLast, l.getLast hne, (List.dropLast_concat_getLast hne).symm⟩
    rw [cp_snoc, cpS]
    split
    · rename_i e
      rw [e]
      simp
    · simp
theorem last_take {l : List Int} {k : Nat} (h : k < l.length) : (l.take (k + 1)).getLast? = some (l.getD k 0) := by
  rw [← take_snoc1 h 0]
  simp
theorem cp_step_eq {l : List Int} {k : Nat} (h : k + 1 < l.length) (e : l.getD (k + 1) 0 = l.getD k 0) : cp (l.take (k + 1 + 1)) = cp (l.take (k + 1)) := by
  rw [← take_snoc1 h 0, cp_snoc, cpS, if_pos]
  rw [cp_last _ _ rfl, last_take (by omega), e]
theorem cp_step_ne {l : List Int} {k : Nat} (h : k + 1 < l.length) (e : l.getD (k + 1) 0 ≠ l.getD k 0) : cp (l.take (k + 1 + 1)) = cp (l.take (k + 1)) ++ [l.getD (k + 1) 0] := by
  rw [← take_snoc1 h 0, cp_snoc, cpS, if_neg]
  rw [cp_last _ _ rfl, last_take (by omega)]
  intro c
  exact e (Option.some.inj c).symm
theorem cp_len (l : List Int) : (cp l).length ≤ l.length := by
  suffices h : ∀ (l o : List Int), (l.foldl cpS o).length ≤ o.length + l.length by
    have := h l []
    simp only [List.length_nil, Nat.zero_add] at this
    exact this
  intro l
  induction l with
  | nil => intro o; simp
  | cons x l ih =>
    intro o
    have := ih (cpS o x)
    have h2 : (cpS o x).length ≤ o.length + 1 := by unfold cpS; split <;> simp
    simp only [List.foldl_cons, List.length_cons]
    exact Nat.le_trans this (by omega)
theorem cp_short {l : List Int} (h : l.length < 2) : cp l = l := by
  match l, h with
  | [], _ => rfl
  | [x], _ => rfl
section
variable {P : Program} {gl : Nat → Option PV} {e : Bool} {s : Env} {H : Hp} {l : Nodes} {Q : Env → Hp → Prop} {d : Option Nat} {bf : Nat} {α : Type} {f : α → PV}
theorem n_clear_vals {sz b g off len : Nat} {z : PV} {x : RO} {xs : List α} (a : α) (hx : x.ev gl s = some (.ref b g off len)) (hb : H.f b = some ⟨g, sz, xs.map f⟩) (hz : z = f a) (hc : ((f a).cells.length == sz && (f a).cells.all PV.one) = true) (h0 : 0 < len) (hl : off + len ≤ xs.length)
    (kk : WN P gl e l (s.put d (some (.tup []))) (H.set b ⟨g, sz, (xs.take off ++ List.replicate len a ++ xs.drop (off + len)).map f⟩) Q) : WN P gl e (.op d (.eprim (.clear sz z) [x]) bf l) s H Q := by
  subst hz
  simp only [Bool.and_eq_true, beq_iff_eq] at hc
  refine n_eprim (r := .tup []) ?_ kk
  have h1 : off + len ≤ (xs.map f).length := by simpa using hl
  simp only [stepE, evs, hx, Option.bind_eq_bind, Option.bind_some, Option.pure_def, eprimF, hc, and_self, if_true, Hp.blk, hb, h0, h1, true_and, splice]
  simp [List.map_take, List.map_drop]
theorem soft_vals_pre {b g sz len : Nat} {xs : List α} (hb : H.f b = some ⟨g, sz, xs.map f⟩) (hf : ∀ a, pureE (f a) = true) (hl : len ≤ xs.length) : soft1 H true (.ref b g 0 len) = some (.sl ((xs.take len).map f)) := by
  have hp := vals_pure hf (xs.take len)
  have e : elems H (.ref b g 0 len) = some ((xs.take len).map f) := by
    simp only [elems, Hp.blk, hb, Option.bind_eq_bind, Option.bind_some, if_true, List.length_map, Nat.zero_add, hl, List.drop_zero, List.map_take]
  exact soft1_row e hp
end
theorem len_le_app {α : Type} (a b : List α) : a.length ≤ (a ++ b).length := by simp
theorem fnQ_ret_pre {s : Env} {H : Hp} {α : Type} {f : α → PV} {rs : List RRes} {b g sz len : Nat} {xs : List α} {rr : PV} (h : retOf rs H s = some (.ref b g 0 len)) (hb : H.f b = some ⟨g, sz, xs.map f⟩) (hf : ∀ a, pureE (f a) = true) (hl : len ≤ xs.length) (h3 : .sl ((xs.take len).map f) = rr) : FnQ rs (fun r0 H' => soft H' true r0 = some rr) .ret s H :=
  fnQ_ret_soft h (soft_vals_pre hb hf hl) h3
structure Cpk (l : List Int) (k0 k j : Nat) (ys : List Int) : Prop where
  hj : 1 ≤ j
  hl : k0 + j ≤ l.length
  hk : k = (cp (l.take (k0 + j))).length
  hy : ys = cp (l.take (k0 + j)) ++ l.drop k
  hb : k < k0 + j
  h0 : 1 ≤ k0
  hm : 1 ≤ k
theorem Cpk.len {l : List Int} {k0 k j : Nat} {ys : List Int} (h : Cpk l k0 k j ys) : ys.length = l.length := by
  have h1 := h.hk
  have h2 := h.hb
  have h3 := h.hl
  rw [h.hy, List.length_append, List.length_drop, ← h.hk]
  omega
theorem Cpk.get {l : List Int} {k0 k j : Nat} {ys : List Int} (h : Cpk l k0 k j ys) (n : Nat) (hn : k ≤ n) : ys.getD n 0 = l.getD n 0 := by
  rw [h.hy, List.getD_eq_getElem?_getD, List.getD_eq_getElem?_getD, List.getElem?_append_right (by rw [← h.hk]; exact hn), List.getElem?_drop, ← h.hk]
  congr 2
  omega
theorem Cpk.eq {l : List Int} {k0 k j : Nat} {ys : List Int} (h : Cpk l k0 k j ys) (hlt : k0 + j < l.length) (e : ys.getD (k0 + j) 0 = ys.getD (k0 + (j - 1)) 0) : Cpk l k0 k (j + 1) ys := by
  have h1 := h.hj
  have h2 := h.hb
  have h3 := h.hk
  have h4 := h.hy
  rw [h.get _ (by omega), h.get _ (by omega)] at e
  obtain ⟨i, hi⟩ : ∃ i, k0 + j = i + 1 := ⟨k0 + j - 1, by omega⟩
  have e2 : cp (l.take (k0 + (j + 1))) = cp (l.take (k0 + j)) := by
    rw [show k0 + (j + 1) = i + 1 + 1 by omega, hi]
    refine cp_step_eq (by omega) ?_
    rw [← hi, e]
    congr 1
    omega
  exact ⟨by omega, by omega, by rw [e2]; exact h3, by rw [e2]; exact h4, by omega, h.h0, by have := h.hm; omega⟩
theorem Cpk.ne {l : List Int} {k0 k j : Nat} {ys : List Int} (h : Cpk l k0 k j ys) (hlt : k0 + j < l.length) (e : ys.getD (k0 + j) 0 ≠ ys.getD (k0 + (j - 1)) 0) : Cpk l k0 (k + 1) (j + 1) (ys.set k (ys.getD (k0 + j) 0)) := by
  have h1 := h.hj
  have h2 := h.hb
  have h3 := h.hk
  have h4 := h.hy
  have e0 := h.get (k0 + j) (by omega)
  rw [e0, h.get (k0 + (j - 1)) (by omega)] at e
  rw [e0]
  obtain ⟨i, hi⟩ : ∃ i, k0 + j = i + 1 := ⟨k0 + j - 1, by omega⟩
  have e2 : cp (l.take (k0 + (j + 1))) = cp (l.take (k0 + j)) ++ [l.getD (k0 + j) 0] := by
    rw [show k0 + (j + 1) = i + 1 + 1 by omega, hi]
    refine cp_step_ne (by omega) ?_
    rw [← hi]
    intro c
    apply e
    rw [c]
    congr 1
    omega
  refine ⟨by omega, by omega, by rw [e2, List.length_append, ← h3]; rfl, ?_, by omega, h.h0, by have := h.hm; omega⟩
  rw [e2, h4, List.set_append_right _ _ (by rw [← h3]; exact Nat.le_refl _), ← h3, Nat.sub_self, List.append_assoc]
  congr 1
  rw [List.drop_eq_getElem_cons (by omega : k < l.length)]
  rfl
theorem Cpk.fin {l : List Int} {k0 k j : Nat} {ys : List Int} (h : Cpk l k0 k j ys) (hge : ¬ k0 + j < l.length) : cp l = ys.take k ∧ k = (cp l).length ∧ k < l.length := by
  have h1 := h.hl
  have h2 := h.hb
  have h3 := h.hk
  have h4 := h.hy
  rw [List.take_of_length_le (by omega)] at h3 h4
  refine ⟨?_, h3, by omega⟩
  rw [h4, h3, List.take_left]
theorem Cpk.start {l : List Int} {k : Nat} (h1 : 1 ≤ k) (hlt : k < l.length) (hc : cp (l.take k) = l.take k) (e : l.getD k 0 = l.getD (k - 1) 0) : Cpk l k k 1 l := by
  obtain ⟨i, rfl⟩ : ∃ i, k = i + 1 := ⟨k - 1, by omega⟩
  have e2 : cp (l.take (i + 1 + 1)) = l.take (i + 1) := by
    rw [cp_step_eq hlt e, hc]
  exact ⟨by omega, by omega, by rw [e2, List.length_take]; omega, by rw [e2, List.take_append_drop], by omega, h1, h1⟩
theorem cp_next {l : List Int} {k : Nat} (h1 : 1 ≤ k) (hlt : k < l.length) (hc : cp (l.take k) = l.take k) (e : l.getD k 0 ≠ l.getD (k - 1) 0) : cp (l.take (k + 1)) = l.take (k + 1) := by
  obtain ⟨i, rfl⟩ : ∃ i, k = i + 1 := ⟨k - 1, by omega⟩
  rw [cp_step_ne hlt e, hc, take_snoc1 hlt 0]
def varsI (i : In) : List Int := let l := if defI i = -1 then usesI i else usesI i ++ [defI i]; cp (srt (l.length - 1) l)
end Go.Vm
open Go
namespace Go.Vm
def none5 (b : Bool) (n : Int) : Bool := b && decide (n ≥ 0) || n == 0
theorem none5_iff (b : Bool) (n : Int) : none5 b n = true ↔ (b = true ∧ 0 ≤ n) ∨ n = 0 := by
  simp [none5]
theorem bare_iff (i : In) : bareI i = i0 ↔ (hD i.kind = true ∨ i.dst = 0) ∧ (hA i.kind = true ∨ i.a = 0) ∧ (hB i.kind = true ∨ i.b = 0) ∧ (hC i.kind = true ∨ i.c = 0) ∧ (hF i.kind = true ∨ i.f = 0) ∧ (hF i.kind = true ∨ i.n = 0) ∧
    ((hF i.kind = true ∧ 0 < i.n) ∨ i.x = 0) ∧ ((hF i.kind = true ∧ 1 < i.n) ∨ i.y = 0) ∧ ((hF i.kind = true ∧ 2 < i.n) ∨ i.z = 0) := by
  have key : ∀ (p : Bool) (v : Int), ((if p = true then (0 : Int) else v) = 0) ↔ (p = true ∨ v = 0) := by
    intro p v
    cases p <;> simp
  have key2 : ∀ (p : Prop) [Decidable p] (v : Int), ((if p then (0 : Int) else v) = 0) ↔ (p ∨ v = 0) := by
    intro p _ v
    by_cases h : p <;> simp [h]
  simp only [bareI, i0, In.mk.injEq, true_and, key2, Bool.and_eq_true, decide_eq_true_eq]
theorem form_iff (i : In) : form i = true ↔ (0 ≤ i.kind ∧ i.kind ≤ 9 ∧ 0 ≤ i.id ∧ i.id ≤ 95 ∧ 0 ≤ i.n ∧ i.n ≤ 3) ∧ (none5 (hD i.kind) i.dst = true ∧ none5 (hA i.kind) i.a = true ∧ none5 (hB i.kind) i.b = true ∧ none5 (i.kind == 7) i.f = true ∧ none5 (i.kind == 7) i.n = true) ∧
    ((i.kind = 0 ∨ i.c = 0) ∧ -2147483648 ≤ i.c ∧ i.c ≤ 2147483647) ∧ (none5 (decide (0 < i.n)) i.x = true ∧ none5 (decide (1 < i.n)) i.y = true ∧ none5 (decide (2 < i.n)) i.z = true) := by
  simp only [form, Bool.and_eq_true, decide_eq_true_eq, bare_iff, none5_iff, hF, hC, beq_iff_eq]
  generalize hD i.kind = d
  generalize hA i.kind = a
  generalize hB i.kind = b
  constructor
  · rintro ⟨⟨⟨⟨⟨h1, h2⟩, h3⟩, h4⟩, h5⟩, h6, h7, h8, h9, h10, h11, h12, h13, h14⟩
    cases d <;> cases a <;> cases b <;> simp only [reduceCtorEq, true_and, false_and, true_or, false_or] at * <;> omega
  · rintro ⟨h1, ⟨h2, h3, h4, h5, h6⟩, h7, h8, h9, h10⟩
    cases d <;> cases a <;> cases b <;> simp only [reduceCtorEq, true_and, false_and, true_or, false_or] at * <;> omega
def abv (S : List Int) (k : Nat) (x : Int) : Prop := k = 0 ∨ S.getD (k - 1) 0 < x
structure Bst (l S : List Int) (k j : Nat) (b : Int) : Prop where
  hj : j ≤ l.length
  hb : (b = -1 ∧ ∀ m, m < j → ¬ abv S k (l.getD m 0)) ∨ (b ∈ l ∧ abv S k b ∧ ∀ m, m < j → abv S k (l.getD m 0) → b ≤ l.getD m 0)
theorem getD_mem' {l : List Int} {m : Nat} (h : m < l.length) : l.getD m 0 ∈ l := by
  rw [List.getD_eq_getElem?_getD, List.getElem?_eq_getElem h, Option.getD_some]
  exact List.getElem_mem h
theorem Bst.start (l S : List Int) (k : Nat) : Bst l S k 0 (-1) := ⟨by omega, Or.inl ⟨rfl, fun m h => absurd h (by omega)⟩⟩
theorem Bst.take {l S : List Int} {k j : Nat} {b : Int} (h : Bst l S k j b) (hl : ∀ x ∈ l, 0 ≤ x) (hj : j < l.length) (ha : abv S k (l.getD j 0)) (hc : b < 0 ∨ l.getD j 0 < b) : Bst l S k (j + 1) (l.getD j 0) := by
  refine ⟨by omega, Or.inr ⟨getD_mem' hj, ha, fun m hm hab => ?_⟩⟩
  by_cases e : m = j
  · subst e; exact Int.le_refl _
  · rcases h.hb with ⟨_, h2⟩ | ⟨h1, _, h3⟩
    · exact absurd hab (h2 m (by omega))
    · have := h3 m (by omega) hab
      have := hl b h1
      omega
theorem rise_lt {S : List Int} (hs : S.Pairwise (· < ·)) {m n : Nat} (h : m < n) (hn : n < S.length) : S.getD m 0 < S.getD n 0 := by
  rw [List.getD_eq_getElem?_getD, List.getD_eq_getElem?_getD, List.getElem?_eq_getElem hn, List.getElem?_eq_getElem (by omega : m < S.length), Option.getD_some, Option.getD_some]
  exact List.pairwise_iff_getElem.1 hs m n (by omega) hn h
theorem Bst.fin {l S : List Int} {k j : Nat} {b : Int} (h : Bst l S k j b) (hs : S.Pairwise (· < ·)) (hm : ∀ x, x ∈ S ↔ x ∈ l) (hk : k < S.length) (hj : ¬ j < l.length) : b = S.getD k 0 := by
  have ha : abv S k (S.getD k 0) := by
    by_cases e : k = 0
    · exact Or.inl e
    · exact Or.inr (rise_lt hs (by omega) hk)
  have hS : S.getD k 0 ∈ l := (hm _).1 (getD_mem' hk)
  obtain ⟨m, hml, hme⟩ := List.mem_iff_getElem.1 hS
  have hme' : l.getD m 0 = S.getD k 0 := by
    rw [← hme, List.getD_eq_getElem?_getD, List.getElem?_eq_getElem hml, Option.getD_some]
  rcases h.hb with ⟨_, h2⟩ | ⟨h1, h3, h4⟩
  · exact absurd (by rw [hme']; exact ha) (h2 m (by omega))
  · have h5 := h4 m (by omega) (by rw [hme']; exact ha)
    rw [hme'] at h5
    obtain ⟨n, hnl, hne⟩ := List.mem_iff_getElem.1 ((hm _).2 h1)
    have hne' : S.getD n 0 = b := by
      rw [← hne, List.getD_eq_getElem?_getD, List.getElem?_eq_getElem hnl, Option.getD_some]
    by_cases c1 : k < n
    · have := rise_lt hs c1 hnl
      omega
    · by_cases c2 : n < k
      · exfalso
        rcases h3 with h3 | h3
        · omega
        · by_cases e : n = k - 1
          · subst e; omega
          · have := rise_lt hs (show n < k - 1 by omega) (by omega)
            omega
      · have : n = k := by omega
        subst this
        exact hne'.symm
structure Bk where
  live : Bool
  code : List In
  succ : List Int
structure Fn where
  ar : Int
  vs : Int
  bs : List Bk
abbrev pB (b : Bk) : PV := .agg [.bool b.live, .sl (b.code.map pI), .sl (ints b.succ)]
abbrev pF (f : Fn) : PV := .agg [.int .i64 f.ar, .int .i64 f.vs, .sl (f.bs.map pB)]
abbrev pP (p : List Fn) : PV := .agg [.sl (p.map pF)]
def B0 : Bk := ⟨false, [], []⟩
def F0 : Fn := ⟨0, 0, []⟩
def liveF (f : Fn) (b : Int) : Bool := decide (b ≥ 0) && decide (b < (f.bs.length : Nat)) && (f.bs.getD b.toNat B0).live
def risesL (l : List Int) : Bool := (List.range (l.length - 1)).all fun k => decide (l.getD k 0 < l.getD (k + 1) 0)
def okI (p : List Fn) (f : Fn) (i : In) : Bool := form i && !(varsI i).any (fun v => decide (v ≥ f.vs)) && (i.kind != 7 || decide (i.f < (p.length : Nat)) && (p.getD i.f.toNat F0).ar == i.n)
def msg1 : ByteArray := ⟨#[97, 32, 98, 108, 111, 99, 107, 32, 116, 104, 97, 116, 32, 105, 115, 32, 110, 111, 110, 101, 32, 104, 97, 115, 32, 112, 97, 114, 116, 115]⟩
def msg2 : ByteArray := ⟨#[101, 100, 103, 101, 115]⟩
def msg3 : ByteArray := ⟨#[105, 110, 115, 116, 114, 117, 99, 116, 105, 111, 110, 115]⟩
def msg4 : ByteArray := ⟨#[118, 97, 114, 105, 97, 98, 108, 101, 115]⟩
def msg5 : ByteArray := ⟨#[98, 108, 111, 99, 107, 115]⟩
def bad1 (x : Bk) : Bool := !x.live && decide ((x.code.length : Int) + (x.succ.length : Nat) > 0)
def bad2 (f : Fn) (x : Bk) : Bool := !risesL x.succ || x.succ.any fun b => !liveF f b
def bad3 (p : List Fn) (f : Fn) (x : Bk) : Bool := decide ((x.code.length : Int) > 16) || x.code.any fun i => !okI p f i
def bkS (p : List Fn) (f : Fn) (x : Bk) : ByteArray := if bad1 x then msg1 else if bad2 f x then msg2 else if bad3 p f x then msg3 else bs0
def okB (p : List Fn) (f : Fn) (x : Bk) : Bool := !bad1 x && !bad2 f x && !bad3 p f x
def bad4 (f : Fn) : Bool := decide (f.ar < 0) || decide (f.ar > 3) || decide (f.vs < f.ar) || decide (f.vs > 6)
def bad5 (f : Fn) : Bool := decide ((f.bs.length : Int) < 1) || decide ((f.bs.length : Int) > 12) || !(f.bs.getD (0 : Int).toNat B0).live || !(f.bs.getD ((f.bs.length : Int) - 1).toNat B0).live
def okF (p : List Fn) (f : Fn) : Bool := !bad4 f && !bad5 f && f.bs.all (okB p f)
def firstS (p : List Fn) (f : Fn) : List Bk → ByteArray
  | [] => bs0
  | x :: r => if okB p f x then firstS p f r else bkS p f x
def fnS (p : List Fn) (f : Fn) : ByteArray := if bad4 f then msg4 else if bad5 f then msg5 else firstS p f f.bs
def idsB (x : Bk) : List Int := x.code.map (·.id)
def idsF (f : Fn) : List Int := f.bs.flatMap idsB
def idsP (p : List Fn) : List Int := p.flatMap idsF
def sane (p : List Fn) : Bool := decide ((p.length : Int) ≤ 6) && p.all (okF p) && decide (idsP p).Nodup
structure Fit (p : List Fn) : Prop where
  funs : p.length ≤ 1000
  bs : ∀ f ∈ p, f.bs.length ≤ 1000
  code : ∀ f ∈ p, ∀ b ∈ f.bs, b.code.length ≤ 1000
  succ : ∀ f ∈ p, ∀ b ∈ f.bs, b.succ.length ≤ 1000
theorem bs_ok (p : List Fn) (f : Fn) (x : Bk) : ((bkS p f x).toList == bs0.toList) = okB p f x := by
  unfold bkS okB
  cases bad1 x <;> cases bad2 f x <;> cases bad3 p f x <;> decide +kernel
theorem firstS_ok (p : List Fn) (f : Fn) : ∀ l : List Bk, ((firstS p f l).toList == bs0.toList) = l.all (okB p f)
  | [] => by show (bs0.toList == bs0.toList) = true; exact beq_self_eq_true _
  | x :: r => by
    simp only [firstS, List.all_cons]
    cases h : okB p f x with
    | true => simpa using firstS_ok p f r
    | false =>
      have := bs_ok p f x
      rw [h] at this
      simpa using this
theorem fnS_ok (p : List Fn) (f : Fn) : ((fnS p f).toList == bs0.toList) = okF p f := by
  unfold fnS okF
  cases bad4 f
  · cases bad5 f
    · simpa using firstS_ok p f f.bs
    · simp; decide +kernel
  · simp; decide +kernel
def fidx {α : Type} (q : α → Bool) : List α → Int
  | [] => -1
  | x :: r => if q x then 0 else if fidx q r < 0 then -1 else fidx q r + 1
theorem fidx_in {α : Type} (q : α → Bool) : ∀ l : List α, decide (fidx q l ≥ 0) = l.any q
  | [] => rfl
  | x :: r => by
    have ih := fidx_in q r
    rw [List.any_cons, ← ih, fidx]
    by_cases h : q x = true
    · simp [h]
    · rw [if_neg h, show q x = false by simpa using h, Bool.false_or, decide_eq_decide]
      split <;> omega
theorem fidx_at {α : Type} {q : α → Bool} (a0 : α) : ∀ {l : List α} {k : Nat}, k < l.length → q (l.getD k a0) = true → (∀ j, j < k → q (l.getD j a0) = false) → fidx q l = k
  | [], k, h, _, _ => absurd h (by simp)
  | x :: r, 0, _, h, _ => by
    have : q x = true := by simpa using h
    simp [fidx, this]
  | x :: r, k + 1, hk, h, hj => by
    have h0 : q x = false := by simpa using hj 0 (by omega)
    have ih := fidx_at a0 (l := r) (k := k) (by simpa using hk) (by simpa using h) (fun j hj' => by simpa using hj (j + 1) (by omega))
    simp only [fidx, h0, Bool.false_eq_true, if_false, ih]
    rw [if_neg (by omega)]
    omega
theorem fidx_no {α : Type} {q : α → Bool} (a0 : α) : ∀ {l : List α}, (∀ j, j < l.length → q (l.getD j a0) = false) → fidx q l = -1
  | [], _ => rfl
  | x :: r, h => by
    have h0 : q x = false := by simpa using h 0 (by simp)
    have ih := fidx_no a0 (l := r) (fun j hj => by simpa using h (j + 1) (by simpa using hj))
    simp [fidx, h0, ih]
theorem rises_t {l : List Int} (h : ∀ k, 1 ≤ k → k < l.length → l.getD (k - 1) 0 < l.getD k 0) : risesL l = true := by
  simp only [risesL, List.all_eq_true, List.mem_range, decide_eq_true_eq]
  intro k hk
  have := h (k + 1) (by omega) (by omega)
  simpa using this
theorem rises_f {l : List Int} {k : Nat} (h1 : 1 ≤ k) (h2 : k < l.length) (h : ¬ l.getD (k - 1) 0 < l.getD k 0) : risesL l = false := by
  cases hr : risesL l with
  | false => rfl
  | true =>
    simp only [risesL, List.all_eq_true, List.mem_range, decide_eq_true_eq] at hr
    have := hr (k - 1) (by omega)
    rw [show k - 1 + 1 = k by omega] at this
    exact absurd this h
theorem firstS_at {p : List Fn} {f : Fn} : ∀ {l : List Bk} {k : Nat}, k < l.length → okB p f (l.getD k B0) = false → (∀ j, j < k → okB p f (l.getD j B0) = true) → firstS p f l = bkS p f (l.getD k B0)
  | [], k, h, _, _ => absurd h (by simp)
  | x :: r, 0, _, h, _ => by
    have : okB p f x = false := by simpa using h
    simp [firstS, this]
  | x :: r, k + 1, hk, h, hj => by
    have h0 : okB p f x = true := by simpa using hj 0 (by omega)
    have ih := firstS_at (l := r) (k := k) (by simpa using hk) (by simpa using h) (fun j hj' => by simpa using hj (j + 1) (by omega))
    simpa [firstS, h0] using ih
theorem firstS_all {p : List Fn} {f : Fn} : ∀ {l : List Bk}, (∀ j, j < l.length → okB p f (l.getD j B0) = true) → firstS p f l = bs0
  | [], _ => rfl
  | x :: r, h => by
    have h0 : okB p f x = true := by simpa using h 0 (by simp)
    have ih := firstS_all (l := r) (fun j hj => by simpa using h (j + 1) (by simpa using hj))
    simpa [firstS, h0] using ih
theorem getD_mem {α : Type} {l : List α} {k : Nat} (d : α) (h : k < l.length) : l.getD k d ∈ l := by
  rw [List.getD_eq_getElem?_getD, List.getElem?_eq_getElem h, Option.getD_some]
  exact List.getElem_mem h
theorem split_at {α β : Type} (g : α → List β) {l : List α} {k : Nat} (d : α) (h : k < l.length) : l.flatMap g = (l.take k).flatMap g ++ (g (l.getD k d) ++ (l.drop (k + 1)).flatMap g) := by
  conv => lhs; rw [← List.take_append_drop k l, List.drop_eq_getElem_cons h]
  rw [List.flatMap_append, List.flatMap_cons, List.getD_eq_getElem?_getD, List.getElem?_eq_getElem h, Option.getD_some]
theorem take_flat {α β : Type} (g : α → List β) {l : List α} {k : Nat} (d : α) (h : k < l.length) : (l.take (k + 1)).flatMap g = (l.take k).flatMap g ++ g (l.getD k d) := by
  rw [List.take_add_one, List.getElem?_eq_getElem h, List.flatMap_append]
  simp [List.getD_eq_getElem?_getD, h]
theorem map_flat {α β : Type} (f : α → β) (l : List α) : l.map f = l.flatMap fun a => [f a] := by
  induction l with
  | nil => rfl
  | cons x r ih => simp [ih]
def pre1 (p : List Fn) (k : Nat) : List Int := idsP (p.take k)
def pre2 (p : List Fn) (k j : Nat) : List Int := pre1 p k ++ ((p.getD k F0).bs.take j).flatMap idsB
def pre3 (p : List Fn) (k j i : Nat) : List Int := pre2 p k j ++ ((((p.getD k F0).bs.getD j B0).code.take i).map (·.id))
def entT (l : List Int) : List (Int × Bool) := l.map fun i => (i, true)
theorem pre1_z (p : List Fn) : pre1 p 0 = [] := rfl
theorem pre2_z (p : List Fn) (k : Nat) : pre2 p k 0 = pre1 p k := by simp [pre2]
theorem pre3_z (p : List Fn) (k j : Nat) : pre3 p k j 0 = pre2 p k j := by simp [pre3]
theorem pre1_s {p : List Fn} {k : Nat} (h : k < p.length) : pre1 p (k + 1) = pre2 p k (p.getD k F0).bs.length := by
  rw [pre2, pre1, idsP, take_flat idsF F0 h, List.take_of_length_le (Nat.le_refl _)]
  rfl
theorem pre2_s {p : List Fn} {k j : Nat} (h : j < (p.getD k F0).bs.length) : pre2 p k (j + 1) = pre3 p k j ((p.getD k F0).bs.getD j B0).code.length := by
  rw [pre3, pre2, pre2, take_flat idsB B0 h, List.take_of_length_le (Nat.le_refl _), List.append_assoc]
  rfl
theorem pre3_s {p : List Fn} {k j i : Nat} (h : i < ((p.getD k F0).bs.getD j B0).code.length) : pre3 p k j (i + 1) = pre3 p k j i ++ [(((p.getD k F0).bs.getD j B0).code.getD i i0).id] := by
  rw [pre3, pre3, map_flat, map_flat, take_flat _ i0 h, List.append_assoc]
theorem pre3_in {p : List Fn} {k j i : Nat} (hk : k < p.length) (hj : j < (p.getD k F0).bs.length) (h : i < ((p.getD k F0).bs.getD j B0).code.length) : ∃ r, idsP p = pre3 p k j (i + 1) ++ r := by
  have e1 := split_at idsF F0 hk
  have e2 : idsF (p.getD k F0) = _ := split_at idsB B0 hj
  have e3 : idsB ((p.getD k F0).bs.getD j B0) = (((p.getD k F0).bs.getD j B0).code.take i).flatMap (fun a : In => [a.id]) ++ ([(((p.getD k F0).bs.getD j B0).code.getD i i0).id] ++ (((p.getD k F0).bs.getD j B0).code.drop (i + 1)).flatMap fun a : In => [a.id]) := (map_flat (fun a : In => a.id) _).trans (split_at (fun a : In => [a.id]) i0 h)
  refine ⟨((((p.getD k F0).bs.getD j B0).code.drop (i + 1)).flatMap fun a => [a.id]) ++ (((p.getD k F0).bs.drop (j + 1)).flatMap idsB ++ (p.drop (k + 1)).flatMap idsF), ?_⟩
  rw [pre3_s h, pre3, pre2, pre1, idsP, idsP, e1, e2, e3, map_flat (fun a : In => a.id)]
  simp only [List.append_assoc]
theorem sane_many {p : List Fn} (h : ¬ (p.length : Int) ≤ 6) : sane p = false := by unfold sane; rw [decide_eq_false h]; rfl
theorem sane_fun {p : List Fn} {k : Nat} (hk : k < p.length) (h : okF p (p.getD k F0) = false) : sane p = false := by
  have : p.all (okF p) = false := by
    rw [List.all_eq_false]
    exact ⟨_, getD_mem F0 hk, by rw [h]; simp⟩
  unfold sane
  rw [this]; simp
theorem sane_twice {p : List Fn} {k j i : Nat} (hk : k < p.length) (hj : j < (p.getD k F0).bs.length) (h : i < ((p.getD k F0).bs.getD j B0).code.length) (hc : (pre3 p k j i).contains (((p.getD k F0).bs.getD j B0).code.getD i i0).id = true) : sane p = false := by
  have : ¬ (idsP p).Nodup := by
    obtain ⟨r, hr⟩ := pre3_in hk hj h
    rw [hr, pre3_s h]
    intro hd
    have h1 := (List.nodup_append.1 hd).1
    have h2 := (List.nodup_append.1 h1).2.2
    exact h2 _ (List.contains_iff_mem.1 hc) _ (by simp) rfl
  unfold sane
  rw [decide_eq_false this]; simp
theorem sane_yes {p : List Fn} (h1 : (p.length : Int) ≤ 6) (h2 : ∀ j, j < p.length → okF p (p.getD j F0) = true) (h3 : (pre1 p p.length).Nodup) : sane p = true := by
  have e : p.all (okF p) = true := by
    rw [List.all_eq_true]
    intro x hx
    obtain ⟨j, hj, rfl⟩ := List.mem_iff_getElem.1 hx
    have := h2 j hj
    rwa [List.getD_eq_getElem?_getD, List.getElem?_eq_getElem hj, Option.getD_some] at this
  rw [pre1, List.take_of_length_le (Nat.le_refl _)] at h3
  unfold sane
  rw [decide_eq_true h1, e, decide_eq_true h3]; rfl
theorem snoc_nodup {l : List Int} {n : Int} (h : l.Nodup) (hc : l.contains n = false) : (l ++ [n]).Nodup := by
  rw [List.nodup_append]
  refine ⟨h, by simp, fun a ha b hb e => ?_⟩
  simp only [List.mem_singleton] at hb
  subst hb e
  rw [← List.contains_iff_mem] at ha
  rw [ha] at hc
  cases hc
theorem upd_entT {l : List Int} {n : Int} (hc : l.contains n = false) : upd (entT l) n true = entT (l ++ [n]) := by
  rw [upd_new, entT, entT, List.map_append]
  · rfl
  · intro q hq e
    simp only [entT, List.mem_map] at hq
    obtain ⟨a, ha, rfl⟩ := hq
    simp only at e
    subst e
    rw [← List.contains_iff_mem] at ha
    rw [ha] at hc
    cases hc
theorem look_entT (l : List Int) (n : Int) : look (entT l) n = l.contains n := look_true
theorem bkS_1 {p : List Fn} {f : Fn} {x : Bk} (h : bad1 x = true) : bkS p f x = msg1 := by rw [bkS, if_pos h]
theorem bkS_2 {p : List Fn} {f : Fn} {x : Bk} (h : bad1 x = false) (h2 : bad2 f x = true) : bkS p f x = msg2 := by rw [bkS, h, h2]; rfl
theorem bkS_3 {p : List Fn} {f : Fn} {x : Bk} (h : bad1 x = false) (h2 : bad2 f x = false) (h3 : bad3 p f x = true) : bkS p f x = msg3 := by rw [bkS, h, h2, h3]; rfl
theorem bkS_0 {p : List Fn} {f : Fn} {x : Bk} (h : bad1 x = false) (h2 : bad2 f x = false) (h3 : bad3 p f x = false) : bkS p f x = bs0 := by rw [bkS, h, h2, h3]; rfl
theorem fnS_1 {p : List Fn} {f : Fn} (h : bad4 f = true) : fnS p f = msg4 := by rw [fnS, if_pos h]
theorem fnS_2 {p : List Fn} {f : Fn} (h : bad4 f = false) (h2 : bad5 f = true) : fnS p f = msg5 := by rw [fnS, h, h2]; rfl
theorem fnS_3 {p : List Fn} {f : Fn} (h : bad4 f = false) (h2 : bad5 f = false) : fnS p f = firstS p f f.bs := by rw [fnS, h, h2]; rfl
theorem okB_of {p : List Fn} {f : Fn} {x : Bk} {b : Bool} (h : (!((bkS p f x).toList == bs0.toList)) = b) : okB p f x = !b := by
  rw [bs_ok] at h
  rw [← h]; simp
theorem okF_of {p : List Fn} {f : Fn} {b : Bool} (h : (!((fnS p f).toList == bs0.toList)) = b) : okF p f = !b := by
  rw [fnS_ok] at h
  rw [← h]; simp
theorem entT_1 {p : List Fn} {k j : Nat} (hk : k < p.length) (hj : ¬ j < (p.getD k F0).bs.length) (hx : j ≤ (p.getD k F0).bs.length) : entT (pre2 p k j) = entT (pre1 p (k + 1)) := by
  have e : j = (p.getD k F0).bs.length := by omega
  rw [pre1_s hk, ← e]
theorem entT_2 {p : List Fn} {k j i : Nat} (hj : j < (p.getD k F0).bs.length) (hi : ¬ i < ((p.getD k F0).bs.getD j B0).code.length) (hx : i ≤ ((p.getD k F0).bs.getD j B0).code.length) : entT (pre3 p k j i) = entT (pre2 p k (j + 1)) := by
  have e : i = ((p.getD k F0).bs.getD j B0).code.length := by omega
  rw [pre2_s hj, ← e]
theorem entT_3 {p : List Fn} {k j i : Nat} (hi : i < ((p.getD k F0).bs.getD j B0).code.length) (hc : look (entT (pre3 p k j i)) (((p.getD k F0).bs.getD j B0).code.getD i i0).id = false) : upd (entT (pre3 p k j i)) (((p.getD k F0).bs.getD j B0).code.getD i i0).id true = entT (pre3 p k j (i + 1)) := by
  rw [look_entT] at hc
  rw [upd_entT hc, pre3_s hi]
def funV (p : List Fn) (f : Int) : Option Fn := if sane p = true ∧ 0 ≤ f ∧ f < (p.length : Nat) then some (p.getD f.toNat F0) else none
def blkV (p : List Fn) (f b : Int) : Option Bk := if liveF ((funV p f).getD F0) b then some (((funV p f).getD F0).bs.getD b.toNat B0) else none
def atV (p : List Fn) (f b n : Int) : Option In := if 0 ≤ n ∧ n < ((((blkV p f b).getD B0).code.length : Nat) : Int) then some (((blkV p f b).getD B0).code.getD n.toNat i0) else none
abbrev oT {α : Type} (g : α → PV) (d : α) (o : Option α) : PV := .tup [g (o.getD d), .bool o.isSome]
theorem funV_no {p : List Fn} {f : Int} (h : (decide (f < 0) || decide (f ≥ (p.length : Nat)) || !sane p) = true) : funV p f = none := by
  unfold funV
  rw [if_neg]
  simp only [Bool.or_eq_true, decide_eq_true_eq, Bool.not_eq_true'] at h
  rintro ⟨h1, h2, h3⟩
  rw [h1] at h
  simp at h
  omega
theorem funV_yes {p : List Fn} {f : Int} (h : (decide (f < 0) || decide (f ≥ (p.length : Nat)) || !sane p) = false) : funV p f = some (p.getD f.toNat F0) := by
  unfold funV
  rw [if_pos]
  simp only [Bool.or_eq_false_iff, decide_eq_false_iff_not, Bool.not_eq_false'] at h
  exact ⟨h.2, by omega, by omega⟩
def fewB (b : Bk) : Bool := !(decide ((b.code.length : Int) > 30) || decide ((b.succ.length : Int) > 30))
def fewF (f : Fn) : Bool := !decide ((f.bs.length : Int) > 20) && f.bs.all fewB
def few (p : List Fn) : Bool := !decide ((p.length : Int) > 10) && p.all fewF
theorem all_getD {α : Type} {q : α → Bool} {l : List α} (d : α) : l.all q = true ↔ ∀ j, j < l.length → q (l.getD j d) = true := by
  rw [List.all_eq_true]
  constructor
  · exact fun h j hj => h _ (getD_mem d hj)
  · intro h x hx
    obtain ⟨j, hj, rfl⟩ := List.mem_iff_getElem.1 hx
    have := h j hj
    rwa [List.getD_eq_getElem?_getD, List.getElem?_eq_getElem hj, Option.getD_some] at this
theorem all_no {α : Type} {q : α → Bool} {l : List α} (d : α) {j : Nat} (hj : j < l.length) (h : q (l.getD j d) = false) : l.all q = false := by
  rw [List.all_eq_false]
  exact ⟨_, getD_mem d hj, by rw [h]; simp⟩
theorem few_fit {p : List Fn} (h : few p = true) : Fit p := by
  simp only [few, fewF, fewB, Bool.and_eq_true, List.all_eq_true, Bool.not_eq_true', decide_eq_false_iff_not, Bool.or_eq_false_iff] at h
  refine ⟨by omega, fun f hf => ?_, fun f hf b hb => ?_, fun f hf b hb => ?_⟩
  · have := (h.2 f hf).1; omega
  · have := ((h.2 f hf).2 b hb).1; omega
  · have := ((h.2 f hf).2 b hb).2; omega
def leastV (es : List (Int × Bool)) (m : Nat) : Int := match (List.range m).find? fun k : Nat => !look es (k : Int) with | some k => (k : Int) | none => -1
theorem least_at {es : List (Int × Bool)} {m k : Nat} (hk : k < m) (h : look es (k : Int) = false) (hj : ∀ j, j < k → look es ((j : Nat) : Int) = true) : leastV es m = (k : Int) := by
  have : (List.range m).find? (fun k : Nat => !look es (k : Int)) = some k := by
    rw [List.find?_range_eq_some]
    exact ⟨by simpa using h, by simpa using hk, fun j hj' => by simpa using hj j hj'⟩
  rw [leastV, this]
theorem least_no {es : List (Int × Bool)} {m : Nat} (hj : ∀ j, j < m → look es ((j : Nat) : Int) = true) : leastV es m = -1 := by
  have : (List.range m).find? (fun k : Nat => !look es (k : Int)) = none := by
    rw [List.find?_eq_none]
    intro x hx
    simpa using hj x (List.mem_range.1 hx)
  rw [leastV, this]
theorem vals_under {α : Type} {f : α → PV} {k : Nat} (hf : ∀ a, (f a).under k = true) : ∀ xs : List α, underL k (xs.map f) = true
  | [] => rfl
  | x :: r => by rw [List.map_cons, underL, hf, vals_under hf r]; rfl
theorem look_upd {n j : Int} {v : Bool} : ∀ {es : List (Int × Bool)}, look (upd es n v) j = if n = j then v else look es j
  | [] => by simp only [upd, look]
  | q :: r => by
    rw [upd]
    by_cases h : q.1 = n
    · rw [if_pos h]
      simp only [look]
      by_cases h2 : n = j
      · rw [if_pos h2, if_pos h2]
      · rw [if_neg h2, if_neg h2, if_neg (by omega)]
    · rw [if_neg h]
      simp only [look]
      rw [look_upd]
      by_cases h2 : q.1 = j
      · rw [if_pos h2, if_pos h2, if_neg (by omega)]
      · rw [if_neg h2, if_neg h2]
def entF (es : List (Int × Bool)) (l : List Int) : List (Int × Bool) := l.foldl (fun e i => upd e i true) es
theorem entF_snoc (es : List (Int × Bool)) (l : List Int) (n : Int) : entF es (l ++ [n]) = upd (entF es l) n true := by rw [entF, List.foldl_append]; rfl
theorem look_entF (n : Int) : ∀ (l : List Int) (es : List (Int × Bool)), look (entF es l) n = (l.contains n || look es n)
  | [], es => rfl
  | a :: l, es => by
    rw [show entF es (a :: l) = entF (upd es a true) l from rfl, look_entF n l, look_upd, List.contains_cons]
    by_cases h : a = n
    · subst h; simp
    · rw [if_neg h, show (n == a) = false by simpa using fun e => h e.symm]; simp
theorem entF_1 {es : List (Int × Bool)} {p : List Fn} {k j : Nat} (hk : k < p.length) (hj : ¬ j < (p.getD k F0).bs.length) (hx : j ≤ (p.getD k F0).bs.length) : entF es (pre2 p k j) = entF es (pre1 p (k + 1)) := by
  have e : j = (p.getD k F0).bs.length := by omega
  rw [pre1_s hk, ← e]
theorem entF_2 {es : List (Int × Bool)} {p : List Fn} {k j i : Nat} (hj : j < (p.getD k F0).bs.length) (hi : ¬ i < ((p.getD k F0).bs.getD j B0).code.length) (hx : i ≤ ((p.getD k F0).bs.getD j B0).code.length) : entF es (pre3 p k j i) = entF es (pre2 p k (j + 1)) := by
  have e : i = ((p.getD k F0).bs.getD j B0).code.length := by omega
  rw [pre2_s hj, ← e]
theorem entF_3 {es : List (Int × Bool)} {p : List Fn} {k j i : Nat} (hi : i < ((p.getD k F0).bs.getD j B0).code.length) : upd (entF es (pre3 p k j i)) (((p.getD k F0).bs.getD j B0).code.getD i i0).id true = entF es (pre3 p k j (i + 1)) := by
  rw [pre3_s hi, entF_snoc]
theorem pre1_all (p : List Fn) : pre1 p p.length = idsP p := by rw [pre1, List.take_length]
def entG (g : Fn) (n : Nat) : List (Int × Bool) := (List.range n).foldl (fun e (b : Nat) => upd e (b : Int) (g.bs.getD b B0).live) []
theorem entG_s (g : Fn) (n : Nat) : upd (entG g n) (n : Int) (g.bs.getD n B0).live = entG g (n + 1) := by
  rw [entG, entG, List.range_succ, List.foldl_append]; rfl
theorem look_entG (g : Fn) (j : Int) : ∀ n : Nat, look (entG g n) j = (decide (0 ≤ j) && decide (j < (n : Nat)) && (g.bs.getD j.toNat B0).live)
  | 0 => by
    rw [show entG g 0 = [] from rfl, look]
    by_cases h : 0 ≤ j
    · rw [decide_eq_false (show ¬ j < ((0 : Nat) : Int) by omega)]; simp
    · rw [decide_eq_false h]; rfl
  | n + 1 => by
    rw [← entG_s, look_upd, look_entG g j n]
    by_cases h : (n : Int) = j
    · subst h
      rw [if_pos rfl, decide_eq_true (show (0 : Int) ≤ (n : Int) by omega), decide_eq_true (show (n : Int) < ((n + 1 : Nat) : Int) by omega), Int.toNat_natCast]; rfl
    · rw [if_neg h]
      congr 2
      exact decide_eq_decide.mpr (by omega)
def newIdV (p : List Fn) : Int := if sane p then leastV (entF [] (idsP p)) 96 else -1
def newBlockV (p : List Fn) (f : Int) : Int := if (funV p f).isSome then leastV (entG ((funV p f).getD F0) ((funV p f).getD F0).bs.length) 12 else -1
theorem countP_sum {α : Type} (q : α → Bool) : ∀ l : List α, l.countP q = (l.map fun x => if q x = true then 1 else 0).sum
  | [] => rfl
  | x :: r => by rw [List.countP_cons, List.map_cons, List.sum_cons, countP_sum q r]; omega
theorem sum_zero {α : Type} : ∀ l : List α, (l.map fun _ => 0).sum = 0
  | [] => rfl
  | x :: r => by rw [List.map_cons, List.sum_cons, sum_zero r]
def insF (f : Fn) : List In := f.bs.flatMap (·.code)
def insP (p : List Fn) : List In := p.flatMap insF
def alT1 (p : List Fn) (k : Nat) : List In := insP (p.take k)
def alT2 (p : List Fn) (k j : Nat) : List In := alT1 p k ++ ((p.getD k F0).bs.take j).flatMap (·.code)
theorem alT1_z (p : List Fn) : alT1 p 0 = [] := rfl
theorem alT2_z (p : List Fn) (k : Nat) : alT2 p k 0 = alT1 p k := by simp [alT2]
theorem alT1_s {p : List Fn} {k : Nat} (h : k < p.length) : alT1 p (k + 1) = alT2 p k (p.getD k F0).bs.length := by
  rw [alT2, alT1, insP, take_flat insF F0 h, List.take_of_length_le (Nat.le_refl _)]
  rfl
theorem alT2_s {p : List Fn} {k j : Nat} (h : j < (p.getD k F0).bs.length) : alT2 p k (j + 1) = alT2 p k j ++ ((p.getD k F0).bs.getD j B0).code := by
  rw [alT2, alT2, take_flat _ B0 h, List.append_assoc]
theorem alT1_all (p : List Fn) : alT1 p p.length = insP p := by rw [alT1, List.take_length]
theorem flat_le {α β : Type} {g : α → List β} {c : Nat} : ∀ {l : List α}, (∀ a ∈ l, (g a).length ≤ c) → (l.flatMap g).length ≤ l.length * c
  | [], _ => by simp
  | x :: r, h => by
    rw [List.flatMap_cons, List.length_append, List.length_cons, Nat.add_mul]
    have := h x List.mem_cons_self
    have := flat_le (l := r) fun a ha => h a (List.mem_cons_of_mem _ ha)
    omega
theorem few_bs {p : List Fn} (h : few p = true) : p.length ≤ 10 ∧ ∀ f ∈ p, f.bs.length ≤ 20 ∧ ∀ b ∈ f.bs, b.code.length ≤ 30 ∧ b.succ.length ≤ 30 := by
  simp only [few, fewF, fewB, Bool.and_eq_true, List.all_eq_true, Bool.not_eq_true', decide_eq_false_iff_not, Bool.or_eq_false_iff] at h
  refine ⟨by omega, fun f hf => ⟨?_, fun b hb => ⟨?_, ?_⟩⟩⟩
  · have := (h.2 f hf).1; omega
  · have := ((h.2 f hf).2 b hb).1; omega
  · have := ((h.2 f hf).2 b hb).2; omega
theorem insF_le {f : Fn} (h1 : f.bs.length ≤ 20) (h2 : ∀ b ∈ f.bs, b.code.length ≤ 30) : (insF f).length ≤ 600 := by
  have := flat_le (l := f.bs) (g := fun b : Bk => b.code) (c := 30) h2
  rw [insF]
  omega
theorem alT1_le {p : List Fn} (h : few p = true) (k : Nat) : (alT1 p k).length ≤ 6000 := by
  obtain ⟨h1, h2⟩ := few_bs h
  have := flat_le (l := p.take k) (g := insF) (c := 600) fun a ha => insF_le (h2 a (List.mem_of_mem_take ha)).1 fun b hb => ((h2 a (List.mem_of_mem_take ha)).2 b hb).1
  rw [List.length_take] at this
  rw [alT1, insP]
  omega
theorem alT2_le {p : List Fn} (h : few p = true) {k : Nat} (hk : k < p.length) (j : Nat) : (alT2 p k j).length ≤ 7000 := by
  obtain ⟨h1, h2⟩ := few_bs h
  have hm : p.getD k F0 ∈ p := getD_mem F0 hk
  have := alT1_le h k
  have h3 := flat_le (l := (p.getD k F0).bs.take j) (g := fun b : Bk => b.code) (c := 30) fun a ha => ((h2 _ hm).2 a (List.mem_of_mem_take ha)).1
  have := (h2 _ hm).1
  rw [List.length_take] at h3
  rw [alT2, List.length_append]
  omega
theorem insP_le {p : List Fn} (h : few p = true) : (insP p).length ≤ 6000 := by
  have := alT1_le h p.length
  rwa [alT1_all] at this
theorem least_spec (es : List (Int × Bool)) (m : Nat) : (leastV es m = -1 ∧ ∀ j : Nat, j < m → look es (j : Int) = true) ∨ ∃ k : Nat, leastV es m = (k : Int) ∧ k < m ∧ look es (k : Int) = false ∧ ∀ j : Nat, j < k → look es (j : Int) = true := by
  unfold leastV
  cases h : (List.range m).find? fun k : Nat => !look es (k : Int) with
  | none =>
    refine .inl ⟨rfl, fun j hj => ?_⟩
    rw [List.find?_eq_none] at h
    simpa using h j (List.mem_range.2 hj)
  | some k =>
    rw [List.find?_range_eq_some] at h
    exact .inr ⟨k, rfl, by simpa using h.2.1, by simpa using h.1, fun j hj => by simpa using h.2.2 j hj⟩
section
variable {α : Type} (p : List Fn) (g : Nat → Nat → Nat → List α)
end
theorem few_at {p : List Fn} (h : few p = true) (k : Nat) : (p.getD k F0).bs.length ≤ 20 ∧ ∀ j, ((p.getD k F0).bs.getD j B0).code.length ≤ 30 ∧ ((p.getD k F0).bs.getD j B0).succ.length ≤ 30 := by
  have hB : ∀ (l : List Bk) (j : Nat), (∀ b ∈ l, b.code.length ≤ 30 ∧ b.succ.length ≤ 30) → (l.getD j B0).code.length ≤ 30 ∧ (l.getD j B0).succ.length ≤ 30 := fun l j hl => by
    by_cases hj : j < l.length
    · exact hl _ (getD_mem B0 hj)
    · rw [List.getD_eq_getElem?_getD, List.getElem?_eq_none (by omega)]
      exact ⟨Nat.zero_le _, Nat.zero_le _⟩
  by_cases hk : k < p.length
  · have := (few_bs h).2 _ (getD_mem F0 hk)
    exact ⟨this.1, fun j => hB _ j this.2⟩
  · rw [List.getD_eq_getElem?_getD, List.getElem?_eq_none (by omega)]
    exact ⟨Nat.zero_le _, fun j => hB [] j (by simp)⟩
section
variable {α : Type} {p : List Fn} {g : Nat → Nat → Nat → List α}
end
structure Ps where
  x : Int
  y : Int
  z : Int
  deriving DecidableEq
def nlB (l : List Bk) (n : Nat) : Nat := (l.take n).countP (·.live)
def nlF (p : List Fn) (n : Nat) : Nat := ((p.take n).map fun f => f.bs.countP (·.live)).sum
theorem nlB_s {l : List Bk} {n : Nat} (h : n < l.length) : nlB l (n + 1) = nlB l n + if (l.getD n B0).live then 1 else 0 := by
  rw [nlB, List.take_add_one, List.getElem?_eq_getElem h, List.countP_append]
  simp [nlB, List.getD_eq_getElem?_getD, h, List.countP_cons]
theorem nlF_s {p : List Fn} {n : Nat} (h : n < p.length) : nlF p (n + 1) = nlF p n + nlB (p.getD n F0).bs (p.getD n F0).bs.length := by
  rw [nlF, List.take_add_one, List.getElem?_eq_getElem h, List.map_append, List.sum_append]
  simp [nlF, nlB, List.getD_eq_getElem?_getD, h]
theorem nlB_le (l : List Bk) (n : Nat) : nlB l n ≤ n := by
  have h1 := List.countP_le_length (l := l.take n) (p := fun b : Bk => b.live)
  rw [List.length_take] at h1
  exact Nat.le_trans h1 (Nat.min_le_left _ _)
def countV (p : List Fn) : Int × Int × Int := if sane p then ((p.length : Nat), (nlF p p.length : Nat), ((insP p).length : Nat)) else (0, 0, 0)
structure Ed where
  op : Int
  f : Int
  b : Int
  to : Int
  ot : Int
  pos : Int
  i : In
  deriving DecidableEq
abbrev pE (e : Ed) : PV := .agg [.int .i64 e.op, .int .i64 e.f, .int .i64 e.b, .int .i64 e.to, .int .i64 e.ot, .int .i64 e.pos, .int .i64 e.i.id, .int .i64 e.i.kind, .int .i64 e.i.dst, .int .i64 e.i.a, .int .i64 e.i.b, .int .i64 e.i.c, .int .i64 e.i.f, .int .i64 e.i.n, .int .i64 e.i.x, .int .i64 e.i.y, .int .i64 e.i.z]
abbrev cA (p : List Fn) (e : Ed) : List PV := [.sl (p.map pF), .int .i64 e.op, .int .i64 e.f, .int .i64 e.b, .int .i64 e.to, .int .i64 e.ot, .int .i64 e.pos, .int .i64 e.i.id, .int .i64 e.i.kind, .int .i64 e.i.dst, .int .i64 e.i.a, .int .i64 e.i.b, .int .i64 e.i.c, .int .i64 e.i.f, .int .i64 e.i.n, .int .i64 e.i.x, .int .i64 e.i.y, .int .i64 e.i.z]
abbrev pA (p : List Fn) (e : Ed) : PV := .agg (cA p e)
abbrev cE (e : Ed) : List PV := [.int .i64 e.op, .int .i64 e.f, .int .i64 e.b, .int .i64 e.to, .int .i64 e.ot, .int .i64 e.pos, .int .i64 e.i.id, .int .i64 e.i.kind, .int .i64 e.i.dst, .int .i64 e.i.a, .int .i64 e.i.b, .int .i64 e.i.c, .int .i64 e.i.f, .int .i64 e.i.n, .int .i64 e.i.x, .int .i64 e.i.y, .int .i64 e.i.z]
abbrev cI (i : In) : List PV := [.int .i64 i.id, .int .i64 i.kind, .int .i64 i.dst, .int .i64 i.a, .int .i64 i.b, .int .i64 i.c, .int .i64 i.f, .int .i64 i.n, .int .i64 i.x, .int .i64 i.y, .int .i64 i.z]
structure Rl where
  e : Int
  f : FuncId
  caps : List PV
  b : Bool
abbrev pR (r : Rl) : PV := .agg [.int .i64 r.e, .fn r.f r.caps]
def R0 : Rl := ⟨0, 0, [], false⟩
def firstV : List (Int × Bool) → Int
  | [] => 0
  | (e, b) :: r => if b then e else firstV r
abbrev rsV (l : List Rl) : List (Int × Bool) := l.map fun r => (r.e, r.b)
theorem first_at : ∀ {l : List Rl} {k : Nat}, k < l.length → (l.getD k R0).b = true → (∀ j, j < k → (l.getD j R0).b = false) → firstV (rsV l) = (l.getD k R0).e
  | [], k, h, _, _ => absurd h (by simp)
  | x :: r, 0, _, h, _ => by
    have : x.b = true := by simpa using h
    simp [firstV, rsV, this]
  | x :: r, k + 1, hk, h, hj => by
    have h0 : x.b = false := by simpa using hj 0 (by omega)
    have ih := first_at (l := r) (k := k) (by simpa using hk) (by simpa using h) (fun j hj' => by simpa using hj (j + 1) (by omega))
    simpa [firstV, rsV, h0] using ih
theorem first_no : ∀ {l : List Rl}, (∀ j, j < l.length → (l.getD j R0).b = false) → firstV (rsV l) = 0
  | [], _ => rfl
  | x :: r, h => by
    have h0 : x.b = false := by simpa using h 0 (by simp)
    have ih := first_no (l := r) (fun j hj => by simpa using h (j + 1) (by simpa using hj))
    simpa [firstV, rsV, h0] using ih
def RsOk (P : Program) (gl : Nat → Option PV) : List Rl → Prop
  | [] => True
  | r :: l => r.caps.all pure1 = true ∧ Pure P gl r.f r.caps (.bool r.b) ∧ (r.b = false → RsOk P gl l)
theorem RsOk.get {P : Program} {gl : Nat → Option PV} : ∀ {l : List Rl}, RsOk P gl l → ∀ k, k < l.length → (∀ j, j < k → (l.getD j R0).b = false) → (l.getD k R0).caps.all pure1 = true ∧ Pure P gl (l.getD k R0).f (l.getD k R0).caps (.bool (l.getD k R0).b)
  | [], _, k, h, _ => absurd h (by simp)
  | r :: l, h, 0, _, _ => ⟨h.1, h.2.1⟩
  | r :: l, h, k + 1, hk, hj => RsOk.get (h.2.2 (hj 0 (by omega))) k (by simpa using hk) fun j hj' => by simpa using hj (j + 1) (by omega)
def nmE : List ByteArray := [⟨#[97, 100, 100, 102, 117, 110]⟩, ⟨#[97, 100, 100, 98, 108, 111, 99, 107]⟩, ⟨#[100, 101, 108, 98, 108, 111, 99, 107]⟩, ⟨#[97, 100, 100, 101, 100, 103, 101]⟩, ⟨#[100, 101, 108, 101, 100, 103, 101]⟩, ⟨#[114, 101, 119, 105, 114, 101]⟩, ⟨#[105, 110, 115, 101, 114, 116]⟩, ⟨#[100, 101, 108, 101, 116, 101]⟩]
def nmO (k : Int) : ByteArray := if 0 ≤ k ∧ k < 8 then nmE.getD k.toNat bs0 else bs0
theorem nmE_get (k : Nat) (h : k < 8) : (nmE.map PV.str)[k]? = some (.str (nmE.getD k bs0)) := by
  rcases (by omega : k = 0 ∨ k = 1 ∨ k = 2 ∨ k = 3 ∨ k = 4 ∨ k = 5 ∨ k = 6 ∨ k = 7) with rfl | rfl | rfl | rfl | rfl | rfl | rfl | rfl <;> rfl
theorem nmO_empty (k : Int) : ((nmO k).toList == bs0.toList) = !decide (0 ≤ k ∧ k < 8) := by
  by_cases h : 0 ≤ k ∧ k < 8
  · rcases (by omega : k = 0 ∨ k = 1 ∨ k = 2 ∨ k = 3 ∨ k = 4 ∨ k = 5 ∨ k = 6 ∨ k = 7) with rfl | rfl | rfl | rfl | rfl | rfl | rfl | rfl
    all_goals decide +kernel
  · rw [nmO, if_neg h, decide_eq_false h]
    decide +kernel
def noB (p : List Fn) (f : Int) (l : List Int) : Bool := l.any fun b => !(blkV p f b).isSome
def codeV (p : List Fn) (f b : Int) : List In := ((blkV p f b).getD B0).code
def edgV (p : List Fn) (f b to : Int) : Bool := ((blkV p f b).getD B0).succ.contains to
def addV (p : List Fn) (e : Ed) : Int := firstV [(9, decide (e.b < 0) || decide (e.b > 3) || decide (e.to < e.b) || decide (e.to > 6)), (8, decide ((p.length : Int) ≥ 6))]
def insV (p : List Fn) (e : Ed) : Int := firstV [(2, noB p e.f [e.b]), (3, decide (e.pos < 0) || decide (e.pos > ((codeV p e.f e.b).length : Nat))), (9, e.i.id != 0 || !form e.i), (4, (varsI e.i).any fun v => decide (v ≥ (p.getD e.f.toNat F0).vs)), (1, e.i.kind == 7 && decide (e.i.f ≥ (p.length : Nat))), (7, e.i.kind == 7 && (p.getD e.i.f.toNat F0).ar != e.i.n), (8, decide (((codeV p e.f e.b).length : Int) ≥ 16) || decide (newIdV p < 0))]
def othV (p : List Fn) (e : Ed) : Int :=
  if e.op = 1 then firstV [(8, decide (newBlockV p e.f < 0))]
  else if e.op = 2 then firstV [(2, noB p e.f [e.b]), (6, e.b == 0)]
  else if e.op = 3 then firstV [(2, noB p e.f [e.b, e.to]), (5, edgV p e.f e.b e.to)]
  else if e.op = 4 then firstV [(2, noB p e.f [e.b, e.to]), (5, !edgV p e.f e.b e.to)]
  else if e.op = 5 then firstV [(2, noB p e.f [e.b, e.to, e.ot]), (5, !edgV p e.f e.b e.to || (e.ot != e.to && edgV p e.f e.b e.ot))]
  else if e.op = 6 then insV p e
  else firstV [(2, noB p e.f [e.b]), (3, decide (e.pos < 0) || decide (e.pos ≥ ((codeV p e.f e.b).length : Nat)))]
def cheV (p : List Fn) (e : Ed) : Int := if sane p = false then 11 else if ¬ (0 ≤ e.op ∧ e.op < 8) then 9 else if e.op = 0 then addV p e else if e.f < 0 ∨ e.f ≥ (p.length : Nat) then 1 else othV p e
def touV (p : List Fn) (e : Ed) : List Int := if cheV p e ≠ 0 then [] else if e.op = 0 then [(p.length : Int)] else [e.f]
def samV (p : List Fn) (e : Ed) : Bool := e.op == 5 && e.to == e.ot && cheV p e == 0
section
variable {P : Program} {gl : Nat → Option PV} {e : Bool} {s : Env} {H : Hp} {l : Nodes} {Q : Env → Hp → Prop} {d : Option Nat} {bf : Nat}
end
def rest (w j : Nat) : Nat := 2 ^ j * (w / 2 ^ j)
/-! ### What may be, told as propositions -/
def Up (l : List Int) : Prop := l.Pairwise (· < ·)
theorem rises_up (l : List Int) : risesL l = true ↔ Up l := by
  unfold risesL Up
  rw [List.all_eq_true, List.pairwise_iff_getElem]
  constructor
  · intro h
    have step : ∀ k, k + 1 < l.length → l.getD k 0 < l.getD (k + 1) 0 := fun k hk => by simpa using h k (List.mem_range.2 (by omega))
    have far : ∀ d i, i + d + 1 < l.length → l.getD i 0 < l.getD (i + d + 1) 0 := by
      intro d
      induction d with
      | zero => exact fun i hi => step i hi
      | succ d ih =>
        intro i hi
        have h1 := ih i (by omega)
        have h2 := step (i + d + 1) (by omega)
        rw [show i + (d + 1) + 1 = i + d + 1 + 1 by omega]
        omega
    intro i j hi hj hij
    have := far (j - i - 1) i (by omega)
    rw [show i + (j - i - 1) + 1 = j by omega, List.getD_eq_getElem?_getD, List.getD_eq_getElem?_getD, List.getElem?_eq_getElem hi, List.getElem?_eq_getElem hj] at this
    exact this
  · intro h k hk
    have hk := List.mem_range.1 hk
    have := h k (k + 1) (by omega) (by omega) (by omega)
    rw [decide_eq_true_eq, List.getD_eq_getElem?_getD, List.getD_eq_getElem?_getD, List.getElem?_eq_getElem (by omega), List.getElem?_eq_getElem (by omega)]
    exact this
structure OkB (p : List Fn) (f : Fn) (x : Bk) : Prop where
  dead : x.live = false → x.code = [] ∧ x.succ = []
  up : Up x.succ
  to : ∀ b ∈ x.succ, liveF f b = true
  len : x.code.length ≤ 16
  code : ∀ i ∈ x.code, okI p f i = true
theorem okB_iff (p : List Fn) (f : Fn) (x : Bk) : okB p f x = true ↔ OkB p f x := by
  simp only [okB, bad1, bad2, bad3, Bool.and_eq_true, Bool.not_eq_true', Bool.or_eq_false_iff, Bool.and_eq_false_iff, decide_eq_false_iff_not, Bool.not_eq_false', rises_up, List.any_eq_false]
  constructor
  · rintro ⟨⟨h1, h2, h3⟩, h4, h5⟩
    refine ⟨fun hl => ?_, h2, fun b hb => by simpa using h3 b hb, by omega, fun i hi => by simpa using h5 i hi⟩
    rcases h1 with h1 | h1
    · rw [hl] at h1; cases h1
    · exact ⟨List.eq_nil_of_length_eq_zero (by omega), List.eq_nil_of_length_eq_zero (by omega)⟩
  · rintro ⟨h1, h2, h3, h4, h5⟩
    refine ⟨⟨?_, h2, fun b hb => by simpa using h3 b hb⟩, by omega, fun i hi => by simpa using h5 i hi⟩
    cases hl : x.live with
    | true => exact .inl rfl
    | false => obtain ⟨e1, e2⟩ := h1 hl; right; rw [e1, e2]; simp
structure OkF (p : List Fn) (f : Fn) : Prop where
  sig : bad4 f = false
  one : 1 ≤ f.bs.length
  top : f.bs.length ≤ 12
  fst : (f.bs.getD 0 B0).live = true
  lst : (f.bs.getD (f.bs.length - 1) B0).live = true
  bs : ∀ x ∈ f.bs, OkB p f x
theorem okF_iff (p : List Fn) (f : Fn) : okF p f = true ↔ OkF p f := by
  simp only [okF, bad5, Bool.and_eq_true, Bool.not_eq_true', Bool.or_eq_false_iff, decide_eq_false_iff_not, Bool.not_eq_false', List.all_eq_true, okB_iff]
  have e : ((f.bs.length : Int) - 1).toNat = f.bs.length - 1 := by omega
  rw [e]
  constructor
  · rintro ⟨⟨h1, ⟨⟨h2, h3⟩, h4⟩, h5⟩, h6⟩
    exact ⟨h1, by omega, by omega, h4, h5, h6⟩
  · rintro ⟨h1, h2, h3, h4, h5, h6⟩
    exact ⟨⟨h1, ⟨⟨by omega, by omega⟩, h4⟩, h5⟩, h6⟩
structure OkP (p : List Fn) : Prop where
  len : p.length ≤ 6
  fs : ∀ f ∈ p, OkF p f
  ids : (idsP p).Nodup
theorem sane_iff (p : List Fn) : sane p = true ↔ OkP p := by
  simp only [sane, Bool.and_eq_true, decide_eq_true_eq, List.all_eq_true, okF_iff]
  exact ⟨fun ⟨⟨h1, h2⟩, h3⟩ => ⟨by omega, h2, h3⟩, fun h => ⟨⟨by have := h.len; omega, h.fs⟩, h.ids⟩⟩
/-! ### What an edit does -/
def trimB (l : List Bk) : List Bk := (l.reverse.dropWhile fun x => !x.live).reverse
def withV (l : List Int) (n : Int) : List Int := l.takeWhile (fun x => decide (x < n)) ++ n :: l.dropWhile (fun x => decide (x < n))
def wtoV (l : List Int) (n : Int) : List Int := l.filter fun x => x != n
def addB (l : List Bk) (k : Int) : List Bk := if k = (l.length : Nat) then l ++ [⟨true, [], []⟩] else l.set k.toNat ⟨true, (l.getD k.toNat B0).code, (l.getD k.toNat B0).succ⟩
def delB (l : List Bk) (b : Int) : List Bk := trimB ((l.set b.toNat B0).map fun x => ⟨x.live, x.code, wtoV x.succ b⟩)
def blkA (p : List Fn) (e : Ed) (x : Bk) : Bk :=
  if e.op = 3 then { x with succ := withV x.succ e.to }
  else if e.op = 4 then { x with succ := wtoV x.succ e.to }
  else if e.op = 5 then { x with succ := withV (wtoV x.succ e.to) e.ot }
  else if e.op = 6 then { x with code := x.code.take e.pos.toNat ++ { e.i with id := newIdV p } :: x.code.drop e.pos.toNat }
  else { x with code := x.code.take e.pos.toNat ++ x.code.drop (e.pos.toNat + 1) }
def funA (p : List Fn) (e : Ed) (f : Fn) : Fn :=
  if e.op = 1 then { f with bs := addB f.bs (newBlockV p e.f) }
  else if e.op = 2 then { f with bs := delB f.bs e.b }
  else { f with bs := f.bs.set e.b.toNat (blkA p e (f.bs.getD e.b.toNat B0)) }
def applyV (p : List Fn) (e : Ed) : List Fn :=
  if cheV p e ≠ 0 then p
  else if e.op = 0 then p ++ [⟨e.b, e.to, [⟨true, [], []⟩]⟩]
  else p.set e.f.toNat (funA p e (p.getD e.f.toNat F0))
/-! ### A function's place is taken by another one of the same kind -/
theorem sig_set {p : List Fn} {k : Nat} {f' : Fn} (har : f'.ar = (p.getD k F0).ar) (j : Nat) : ((p.set k f').getD j F0).ar = (p.getD j F0).ar := by
  rw [List.getD_eq_getElem?_getD, List.getD_eq_getElem?_getD, List.getElem?_set]
  by_cases h : k = j
  · subst h
    rw [if_pos rfl]
    by_cases hk : k < p.length
    · rw [if_pos hk, Option.getD_some, har, List.getD_eq_getElem?_getD]
    · rw [if_neg hk, List.getElem?_eq_none (by omega)]
  · rw [if_neg h]
theorem okI_sig {p q : List Fn} {f g : Fn} (hl : q.length = p.length) (ha : ∀ j, (q.getD j F0).ar = (p.getD j F0).ar) (hv : g.vs = f.vs) (i : In) : okI q g i = okI p f i := by
  unfold okI
  rw [hl, ha, hv]
theorem OkB.sig {p q : List Fn} {f : Fn} {x : Bk} (hl : q.length = p.length) (ha : ∀ j, (q.getD j F0).ar = (p.getD j F0).ar) (h : OkB p f x) : OkB q f x :=
  ⟨h.dead, h.up, h.to, h.len, fun i hi => by rw [okI_sig hl ha rfl]; exact h.code i hi⟩
theorem ok_set {p : List Fn} {k : Nat} {f' : Fn} (hp : OkP p) (hk : k < p.length) (har : f'.ar = (p.getD k F0).ar) (hf : OkF p f') (hid : (idsP (p.set k f')).Nodup) : OkP (p.set k f') := by
  have hl : (p.set k f').length = p.length := List.length_set
  refine ⟨by rw [hl]; exact hp.len, fun g hg => ?_, hid⟩
  have := sig_set har
  rcases List.mem_or_eq_of_mem_set hg with hg | rfl
  · have h := hp.fs g hg
    exact ⟨h.sig, h.one, h.top, h.fst, h.lst, fun x hx => (h.bs x hx).sig hl this⟩
  · exact ⟨hf.sig, hf.one, hf.top, hf.fst, hf.lst, fun x hx => (hf.bs x hx).sig hl this⟩
theorem set_split {α : Type} {l : List α} {k : Nat} {x : α} (hk : k < l.length) : l.set k x = l.take k ++ x :: l.drop (k + 1) := by
  rw [List.set_eq_take_append_cons_drop, if_pos hk]
theorem ids_set {p : List Fn} {k : Nat} {f' : Fn} (hk : k < p.length) : idsP (p.set k f') = idsP (p.take k) ++ (idsF f' ++ idsP (p.drop (k + 1))) := by
  rw [set_split hk]
  simp only [idsP, List.flatMap_append, List.flatMap_cons]
theorem ids_at {p : List Fn} {k : Nat} (hk : k < p.length) : idsP p = idsP (p.take k) ++ (idsF (p.getD k F0) ++ idsP (p.drop (k + 1))) := by
  rw [← ids_set hk, List.getD_eq_getElem?_getD, List.getElem?_eq_getElem hk, Option.getD_some, List.set_getElem_self]
theorem idsF_set {f : Fn} {b : Nat} {x : Bk} (hb : b < f.bs.length) : idsF { f with bs := f.bs.set b x } = (f.bs.take b).flatMap idsB ++ (idsB x ++ (f.bs.drop (b + 1)).flatMap idsB) := by
  show (f.bs.set b x).flatMap idsB = _
  rw [set_split hb]
  simp only [List.flatMap_append, List.flatMap_cons]
theorem idsF_at {f : Fn} {b : Nat} (hb : b < f.bs.length) : idsF f = (f.bs.take b).flatMap idsB ++ (idsB (f.bs.getD b B0) ++ (f.bs.drop (b + 1)).flatMap idsB) := by
  rw [← idsF_set hb, List.getD_eq_getElem?_getD, List.getElem?_eq_getElem hb, Option.getD_some, List.set_getElem_self]
theorem ids_sub {p : List Fn} {k : Nat} {f' : Fn} (hp : OkP p) (hk : k < p.length) (h : (idsF f').Sublist (idsF (p.getD k F0))) : (idsP (p.set k f')).Nodup := by
  refine List.Sublist.nodup ?_ hp.ids
  rw [ids_set hk, ids_at hk]
  exact (List.Sublist.refl _).append (h.append (List.Sublist.refl _))
/-! ### Blocks trimmed -/
theorem trimB_snoc (l : List Bk) (x : Bk) : trimB (l ++ [x]) = if x.live then l ++ [x] else trimB l := by
  unfold trimB
  rw [List.reverse_append, List.reverse_singleton, List.singleton_append, List.dropWhile_cons]
  cases x.live <;> simp
theorem trim_at : ∀ (k : Nat) {l : List Bk} {n : Nat}, l.length = n + k → (∀ j, n ≤ j → j < l.length → (l.getD j B0).live = false) → (n = 0 ∨ (l.getD (n - 1) B0).live = true) → trimB l = l.take n
  | 0, l, n, hl, _, h => by
    rw [List.take_of_length_le (by omega)]
    rcases h with h | h
    · have : l = [] := List.eq_nil_of_length_eq_zero (by omega)
      subst this; rfl
    · by_cases h0 : l = []
      · subst h0; rfl
      · obtain ⟨l', x, rfl⟩ : ∃ l' x, l = l' ++ [x] := ⟨_, _, (List.dropLast_concat_getLast h0).symm⟩
        rw [trimB_snoc]
        have : (l' ++ [x]).getD (n - 1) B0 = x := by
          simp only [List.length_append, List.length_singleton] at hl
          rw [List.getD_eq_getElem?_getD, List.getElem?_append_right (by omega)]
          simp [show n - 1 - l'.length = 0 by omega]
        rw [this] at h
        rw [h]; rfl
  | k + 1, l, n, hl, hd, h => by
    have h0 : l ≠ [] := by intro e; subst e; simp at hl
    obtain ⟨l', x, rfl⟩ : ∃ l' x, l = l' ++ [x] := ⟨_, _, (List.dropLast_concat_getLast h0).symm⟩
    simp only [List.length_append, List.length_singleton] at hl hd
    have hx : x.live = false := by
      have := hd l'.length (by omega) (by omega)
      rwa [List.getD_eq_getElem?_getD, List.getElem?_append_right (Nat.le_refl _), Nat.sub_self] at this
    have low : ∀ j, j < l'.length → (l' ++ [x]).getD j B0 = l'.getD j B0 := fun j hj => by
      rw [List.getD_eq_getElem?_getD, List.getElem?_append_left hj, ← List.getD_eq_getElem?_getD]
    rw [trimB_snoc, hx, List.take_append_of_le_length (by omega)]
    refine trim_at k (by omega) (fun j h1 h2 => ?_) ?_
    · rw [← low j h2]; exact hd j h1 (by omega)
    · rcases h with h | h
      · exact .inl h
      · by_cases hn : n = 0
        · exact .inl hn
        · right; rw [← low _ (by omega)]; exact h
theorem trim_spec : ∀ (l : List Bk), ∃ n, n ≤ l.length ∧ trimB l = l.take n ∧ (∀ j, n ≤ j → (l.getD j B0).live = false) ∧ (n = 0 ∨ (l.getD (n - 1) B0).live = true) := by
  intro l
  induction h : l.length generalizing l with
  | zero =>
    obtain rfl := List.eq_nil_of_length_eq_zero h
    exact ⟨0, Nat.le_refl _, rfl, fun j _ => rfl, .inl rfl⟩
  | succ k ih =>
    have h0 : l ≠ [] := by intro e; subst e; simp at h
    obtain ⟨l', x, rfl⟩ : ∃ l' x, l = l' ++ [x] := ⟨_, _, (List.dropLast_concat_getLast h0).symm⟩
    simp only [List.length_append, List.length_singleton] at h
    have low : ∀ j, j < l'.length → (l' ++ [x]).getD j B0 = l'.getD j B0 := fun j hj => by
      rw [List.getD_eq_getElem?_getD, List.getElem?_append_left hj, ← List.getD_eq_getElem?_getD]
    have top : (l' ++ [x]).getD l'.length B0 = x := by
      rw [List.getD_eq_getElem?_getD, List.getElem?_append_right (Nat.le_refl _), Nat.sub_self]; rfl
    have far : ∀ j, l'.length < j → (l' ++ [x]).getD j B0 = B0 := fun j hj => by
      rw [List.getD_eq_getElem?_getD, List.getElem?_eq_none (by simp; omega)]; rfl
    rw [trimB_snoc]
    cases hx : x.live with
    | true =>
      refine ⟨k + 1, by simp [h], by rw [List.take_of_length_le (by simp [h])]; rfl, fun j hj => ?_, .inr ?_⟩
      · rw [far j (by omega)]; rfl
      · rw [show k + 1 - 1 = l'.length by omega, top]; exact hx
    | false =>
      obtain ⟨n, h1, h2, h3, h4⟩ := ih l' (by omega)
      refine ⟨n, by omega, by rw [List.take_append_of_le_length (by omega)]; exact h2, fun j hj => ?_, ?_⟩
      · rcases Nat.lt_trichotomy j l'.length with hj2 | rfl | hj2
        · rw [low j hj2]; exact h3 j hj
        · rw [top]; exact hx
        · rw [far j hj2]; rfl
      · rcases h4 with h4 | h4
        · exact .inl h4
        · by_cases hn : n = 0
          · exact .inl hn
          · right; rw [low _ (by omega)]; exact h4
/-! ### Numbers that rise, with and without one -/
theorem up_wto {l : List Int} (h : Up l) (n : Int) : Up (wtoV l n) := List.Pairwise.filter _ h
theorem mem_wto {l : List Int} {n c : Int} : c ∈ wtoV l n ↔ c ∈ l ∧ c ≠ n := by simp [wtoV]
theorem up_split {l : List Int} (h : Up l) (n : Int) : (∀ x ∈ l.takeWhile (fun x => decide (x < n)), x < n) ∧ (∀ x ∈ l.dropWhile (fun x => decide (x < n)), n ≤ x) := by
  induction l with
  | nil => exact ⟨fun x hx => by simp at hx, fun x hx => by simp at hx⟩
  | cons a r ih =>
    rw [Up, List.pairwise_cons] at h
    obtain ⟨i1, i2⟩ := ih h.2
    rw [List.takeWhile_cons, List.dropWhile_cons]
    by_cases ha : a < n
    · rw [decide_eq_true ha]
      refine ⟨fun x hx => ?_, i2⟩
      rcases List.mem_cons.1 hx with rfl | hx
      · exact ha
      · exact i1 x hx
    · rw [decide_eq_false ha]
      refine ⟨fun x hx => by simp at hx, fun x hx => ?_⟩
      rcases List.mem_cons.1 hx with rfl | hx
      · omega
      · have := h.1 x hx; omega
theorem mem_with {l : List Int} {n c : Int} : c ∈ withV l n ↔ c = n ∨ c ∈ l := by
  have : c ∈ l ↔ c ∈ l.takeWhile (fun x => decide (x < n)) ∨ c ∈ l.dropWhile (fun x => decide (x < n)) := by
    rw [← List.mem_append, List.takeWhile_append_dropWhile]
  rw [withV, List.mem_append, List.mem_cons, this]
  constructor
  · rintro (h | h | h)
    · exact .inr (.inl h)
    · exact .inl h
    · exact .inr (.inr h)
  · rintro (h | h | h)
    · exact .inr (.inl h)
    · exact .inl h
    · exact .inr (.inr h)
theorem up_with {l : List Int} (h : Up l) {n : Int} (hn : n ∉ l) : Up (withV l n) := by
  obtain ⟨h1, h2⟩ := up_split h n
  have e : l = l.takeWhile (fun x => decide (x < n)) ++ l.dropWhile (fun x => decide (x < n)) := List.takeWhile_append_dropWhile.symm
  have h3 : ∀ x ∈ l.dropWhile (fun x => decide (x < n)), n < x := fun x hx => by
    have := h2 x hx
    rcases Int.lt_or_eq_of_le this with h | h
    · exact h
    · exact absurd (by rw [e]; exact List.mem_append_right _ (h ▸ hx)) hn
  unfold Up at h ⊢
  rw [e, List.pairwise_append] at h
  rw [withV, List.pairwise_append, List.pairwise_cons]
  refine ⟨h.1, ⟨h3, h.2.1⟩, fun a ha b hb => ?_⟩
  rcases List.mem_cons.1 hb with rfl | hb
  · exact h1 a ha
  · have := h1 a ha; have := h3 b hb; omega
/-! ### What is asked of an edit -/
theorem first_zero {e : Int} {b : Bool} {r : List (Int × Bool)} (h : firstV ((e, b) :: r) = 0) (he : e ≠ 0) : b = false ∧ firstV r = 0 := by
  cases b with
  | true => simp only [firstV, if_true] at h; exact absurd h he
  | false => exact ⟨rfl, h⟩
theorem che_sane {p : List Fn} {e : Ed} (h : cheV p e = 0) : sane p = true := by
  cases hs : sane p with
  | true => rfl
  | false => rw [cheV, if_pos hs] at h; cases h
theorem che_op {p : List Fn} {e : Ed} (h : cheV p e = 0) : 0 ≤ e.op ∧ e.op < 8 := by
  have hs := che_sane h
  rw [cheV, if_neg (by rw [hs]; simp)] at h
  by_cases ho : 0 ≤ e.op ∧ e.op < 8
  · exact ho
  · rw [if_pos ho] at h; cases h
theorem che_add {p : List Fn} {e : Ed} (h : cheV p e = 0) (h0 : e.op = 0) : addV p e = 0 := by
  have ho := che_op h
  have hs := che_sane h
  rw [cheV, if_neg (by rw [hs]; simp), if_neg (fun hn => hn ho), if_pos h0] at h
  exact h
theorem che_oth {p : List Fn} {e : Ed} (h : cheV p e = 0) (h0 : e.op ≠ 0) : (0 ≤ e.f ∧ e.f < (p.length : Nat)) ∧ othV p e = 0 := by
  have ho := che_op h
  have hs := che_sane h
  rw [cheV, if_neg (by rw [hs]; simp), if_neg (fun hn => hn ho), if_neg h0] at h
  split at h
  · cases h
  · exact ⟨by omega, h⟩
theorem che_fun {p : List Fn} {e : Ed} (h : cheV p e = 0) (h0 : e.op ≠ 0) : e.f.toNat < p.length ∧ funV p e.f = some (p.getD e.f.toNat F0) := by
  have := (che_oth h h0).1
  exact ⟨by omega, by rw [funV, if_pos ⟨che_sane h, this.1, this.2⟩]⟩
theorem noB_one {p : List Fn} {f b : Int} {l : List Int} (h : noB p f l = false) (hb : b ∈ l) {g : Fn} (hf : funV p f = some g) : liveF g b = true := by
  have := List.any_eq_false.1 h b hb
  simp only [Bool.not_eq_true, Bool.not_eq_false'] at this
  rw [blkV, hf, Option.getD_some] at this
  cases hl : liveF g b with
  | true => rfl
  | false => rw [hl] at this; simp at this
theorem live_lt {g : Fn} {b : Int} (h : liveF g b = true) : 0 ≤ b ∧ b.toNat < g.bs.length ∧ (g.bs.getD b.toNat B0).live = true := by
  simp only [liveF, Bool.and_eq_true, decide_eq_true_eq] at h
  exact ⟨h.1.1, by omega, h.2⟩
theorem live_of {g : Fn} {b : Nat} (h1 : b < g.bs.length) (h2 : (g.bs.getD b B0).live = true) : liveF g (b : Int) = true := by
  simp only [liveF, Bool.and_eq_true, decide_eq_true_eq, Int.toNat_natCast]
  exact ⟨⟨by omega, by omega⟩, h2⟩
/-! ### A program that may be stays one -/
theorem getD_set {α : Type} {l : List α} {b j : Nat} {x d : α} : (l.set b x).getD j d = if b = j ∧ b < l.length then x else l.getD j d := by
  rw [List.getD_eq_getElem?_getD, List.getD_eq_getElem?_getD, List.getElem?_set]
  by_cases h : b = j
  · subst h
    by_cases h2 : b < l.length
    · rw [if_pos rfl, if_pos h2, if_pos ⟨rfl, h2⟩, Option.getD_some]
    · rw [if_pos rfl, if_neg h2, if_neg (by omega), List.getElem?_eq_none (by omega)]
  · rw [if_neg h, if_neg (by omega)]
theorem OkB.mono {p : List Fn} {f g : Fn} {x : Bk} (h : OkB p f x) (hv : g.vs = f.vs) (hl : ∀ b, liveF f b = true → liveF g b = true) : OkB p g x :=
  ⟨h.dead, h.up, fun b hb => hl b (h.to b hb), h.len, fun i hi => by rw [okI_sig rfl (fun _ => rfl) hv]; exact h.code i hi⟩
theorem liveF_set {f : Fn} {b : Nat} {x : Bk} (hl : x.live = (f.bs.getD b B0).live) (c : Int) : liveF { f with bs := f.bs.set b x } c = liveF f c := by
  unfold liveF
  simp only [List.length_set, getD_set]
  by_cases h : b = c.toNat ∧ b < f.bs.length
  · rw [if_pos h, hl, h.1]
  · rw [if_neg h]
theorem ok_blk {p : List Fn} {k b : Nat} {f : Fn} {x : Bk} (hp : OkP p) (hk : k < p.length) (hf : p.getD k F0 = f) (hb : b < f.bs.length) (hl : x.live = (f.bs.getD b B0).live) (hx : OkB p f x) (hid : (idsP (p.set k { f with bs := f.bs.set b x })).Nodup) : OkP (p.set k { f with bs := f.bs.set b x }) := by
  have h := hp.fs f (by rw [← hf]; exact getD_mem F0 hk)
  have live : ∀ j, ((f.bs.set b x).getD j B0).live = (f.bs.getD j B0).live := fun j => by
    rw [getD_set]
    split
    · rename_i e; rw [hl, e.1]
    · rfl
  refine ok_set hp hk (by rw [hf]) ⟨h.sig, ?_, ?_, ?_, ?_, fun y hy => ?_⟩ hid
  · simpa using h.one
  · simpa using h.top
  · show ((f.bs.set b x).getD 0 B0).live = true
    rw [live]; exact h.fst
  · show ((f.bs.set b x).getD ((f.bs.set b x).length - 1) B0).live = true
    rw [live, List.length_set]; exact h.lst
  · have e : ∀ c, liveF f c = true → liveF { f with bs := f.bs.set b x } c = true := fun c hc => by rw [liveF_set hl]; exact hc
    rcases List.mem_or_eq_of_mem_set hy with hy | rfl
    · exact (h.bs y hy).mono rfl e
    · exact hx.mono rfl e
theorem new_blk {p : List Fn} {e : Ed} (h : cheV p e = 0) (h1 : e.op = 1) : ∃ k : Nat, newBlockV p e.f = (k : Int) ∧ k < 12 ∧ k ≤ (p.getD e.f.toNat F0).bs.length ∧ ((p.getD e.f.toNat F0).bs.getD k B0).live = false := by
  have h0 : e.op ≠ 0 := by omega
  have ho := (che_oth h h0).2
  rw [othV, if_pos h1] at ho
  have hn := (first_zero ho (by decide)).1
  rw [decide_eq_false_iff_not] at hn
  have hf := (che_fun h h0).2
  generalize p.getD e.f.toNat F0 = g at *
  have hs := least_spec (entG g g.bs.length) 12
  rw [newBlockV, hf, Option.isSome_some, if_pos rfl, Option.getD_some] at hn ⊢
  rcases hs with ⟨h3, _⟩ | ⟨k, h3, h4, h5, h6⟩
  · omega
  · rw [look_entG] at h5
    have hk : k ≤ g.bs.length := by
      refine Nat.le_of_not_lt fun hlt => ?_
      have := h6 g.bs.length hlt
      rw [look_entG, decide_eq_false (show ¬ ((g.bs.length : Nat) : Int) < (g.bs.length : Nat) by omega)] at this
      simp at this
    refine ⟨k, h3, h4, hk, ?_⟩
    rw [Int.toNat_natCast] at h5
    by_cases hk2 : k < g.bs.length
    · rw [decide_eq_true (by omega), decide_eq_true (by omega)] at h5
      simpa using h5
    · rw [List.getD_eq_getElem?_getD, List.getElem?_eq_none (by omega)]; rfl
theorem form_f0 {i : In} (h : form i = true) : 0 ≤ i.f := by
  simp only [form, Bool.and_eq_true, decide_eq_true_eq] at h
  exact h.1.2.2.2.2.1
theorem okB_new (p : List Fn) (f : Fn) : OkB p f ⟨true, [], []⟩ :=
  ⟨fun h => (by simp at h), List.Pairwise.nil, fun b hb => (by simp at hb), Nat.zero_le _, fun i hi => (by simp at hi)⟩
theorem okB_dead (p : List Fn) (f : Fn) : OkB p f B0 :=
  ⟨fun _ => ⟨rfl, rfl⟩, List.Pairwise.nil, fun b hb => (by simp [B0] at hb), Nat.zero_le _, fun i hi => (by simp [B0] at hi)⟩
theorem ids_app (p q : List Fn) : idsP (p ++ q) = idsP p ++ idsP q := by simp [idsP]
theorem ok_op0 {p : List Fn} {e : Ed} (h : cheV p e = 0) (h0 : e.op = 0) : OkP (p ++ [⟨e.b, e.to, [⟨true, [], []⟩]⟩]) := by
  have hp := (sane_iff p).1 (che_sane h)
  have ha := che_add h h0
  rw [addV] at ha
  obtain ⟨a1, a2⟩ := first_zero ha (by decide)
  have a3 := (first_zero a2 (by decide)).1
  rw [decide_eq_false_iff_not] at a3
  have sig : ∀ i : In, ∀ f : Fn, okI p f i = true → okI (p ++ [⟨e.b, e.to, [⟨true, [], []⟩]⟩]) f i = true := fun i f hi => by
    unfold okI at hi ⊢
    simp only [Bool.and_eq_true, Bool.or_eq_true, decide_eq_true_eq, beq_iff_eq, Bool.not_eq_true'] at hi ⊢
    refine ⟨hi.1, hi.2.imp id fun ⟨q1, q2⟩ => ⟨by rw [List.length_append]; omega, ?_⟩⟩
    by_cases hneg : i.f.toNat < p.length
    · rw [List.getD_eq_getElem?_getD, List.getElem?_append_left hneg, ← List.getD_eq_getElem?_getD]; exact q2
    · exfalso
      have hfm : 0 ≤ i.f := form_f0 hi.1.1
      omega
  refine ⟨by rw [List.length_append, List.length_singleton]; omega, fun f hf => ?_, ?_⟩
  · rcases List.mem_append.1 hf with hf | hf
    · have q := hp.fs f hf
      exact ⟨q.sig, q.one, q.top, q.fst, q.lst, fun x hx => ⟨(q.bs x hx).dead, (q.bs x hx).up, (q.bs x hx).to, (q.bs x hx).len, fun i hi => sig i f ((q.bs x hx).code i hi)⟩⟩
    · rw [List.mem_singleton] at hf
      subst hf
      refine ⟨a1, Nat.le_refl _, by simp, rfl, rfl, fun x hx => ?_⟩
      rw [List.mem_singleton] at hx
      subst hx
      exact okB_new _ _
  · rw [ids_app]
    show (idsP p ++ []).Nodup
    rw [List.append_nil]; exact hp.ids
theorem ok_op1 {p : List Fn} {e : Ed} (h : cheV p e = 0) (h1 : e.op = 1) : OkP (p.set e.f.toNat { p.getD e.f.toNat F0 with bs := addB (p.getD e.f.toNat F0).bs (newBlockV p e.f) }) := by
  have hp := (sane_iff p).1 (che_sane h)
  obtain ⟨k, hk, h12, hle, hd⟩ := new_blk h h1
  have hf := (che_fun h (by omega)).1
  have q := hp.fs _ (getD_mem F0 hf)
  rw [hk]
  generalize hg : p.getD e.f.toNat F0 = g at *
  by_cases hkl : k = g.bs.length
  · have e1 : addB g.bs (k : Int) = g.bs ++ [⟨true, [], []⟩] := by rw [addB, if_pos (by omega)]
    rw [e1]
    have low : ∀ j, j < g.bs.length → (g.bs ++ [(⟨true, [], []⟩ : Bk)]).getD j B0 = g.bs.getD j B0 := fun j hj => by
      rw [List.getD_eq_getElem?_getD, List.getElem?_append_left hj, ← List.getD_eq_getElem?_getD]
    have hlv : ∀ c, liveF g c = true → liveF { g with bs := g.bs ++ [⟨true, [], []⟩] } c = true := fun c hc => by
      obtain ⟨c1, c2, c3⟩ := live_lt hc
      have := live_of (g := { g with bs := g.bs ++ [⟨true, [], []⟩] }) (b := c.toNat) (by simp; omega) (by show ((g.bs ++ [(⟨true, [], []⟩ : Bk)]).getD c.toNat B0).live = true; rw [low _ c2]; exact c3)
      rwa [Int.toNat_of_nonneg c1] at this
    refine ok_set hp hf (by rw [hg]) ⟨q.sig, by simp, by simp; omega, ?_, ?_, fun x hx => ?_⟩ (ids_sub hp hf ?_)
    · show ((g.bs ++ [(⟨true, [], []⟩ : Bk)]).getD 0 B0).live = true
      rw [low 0 q.one]; exact q.fst
    · show ((g.bs ++ [(⟨true, [], []⟩ : Bk)]).getD ((g.bs ++ [(⟨true, [], []⟩ : Bk)]).length - 1) B0).live = true
      rw [List.length_append, List.length_singleton, Nat.add_sub_cancel, List.getD_eq_getElem?_getD, List.getElem?_append_right (Nat.le_refl _), Nat.sub_self]; rfl
    · rcases List.mem_append.1 hx with hx | hx
      · exact (q.bs x hx).mono rfl hlv
      · rw [List.mem_singleton] at hx
        subst hx
        exact okB_new _ _
    · rw [hg]
      show (List.flatMap idsB (g.bs ++ [⟨true, [], []⟩])).Sublist (List.flatMap idsB g.bs)
      rw [List.flatMap_append]
      show (List.flatMap idsB g.bs ++ []).Sublist _
      rw [List.append_nil]; exact List.Sublist.refl _
  · have hlt : k < g.bs.length := by omega
    have hdd := (q.bs _ (getD_mem B0 hlt)).dead hd
    have e1 : addB g.bs (k : Int) = g.bs.set k ⟨true, [], []⟩ := by
      rw [addB, if_neg (by omega), Int.toNat_natCast, hdd.1, hdd.2]
    rw [e1]
    have live : ∀ j, (g.bs.getD j B0).live = true → ((g.bs.set k (⟨true, [], []⟩ : Bk)).getD j B0).live = true := fun j hj => by
      rw [getD_set]
      split
      · rfl
      · exact hj
    have hlv : ∀ c, liveF g c = true → liveF { g with bs := g.bs.set k ⟨true, [], []⟩ } c = true := fun c hc => by
      obtain ⟨c1, c2, c3⟩ := live_lt hc
      have := live_of (g := { g with bs := g.bs.set k ⟨true, [], []⟩ }) (b := c.toNat) (by simpa using c2) (live _ c3)
      rwa [Int.toNat_of_nonneg c1] at this
    refine ok_set hp hf (by rw [hg]) ⟨q.sig, by simpa using q.one, by simpa using q.top, live _ q.fst, ?_, fun x hx => ?_⟩ (ids_sub hp hf ?_)
    · show ((g.bs.set k (⟨true, [], []⟩ : Bk)).getD ((g.bs.set k (⟨true, [], []⟩ : Bk)).length - 1) B0).live = true
      rw [List.length_set]; exact live _ q.lst
    · rcases List.mem_or_eq_of_mem_set hx with hx | rfl
      · exact (q.bs x hx).mono rfl hlv
      · exact okB_new _ _
    · rw [hg, idsF_set hlt, idsF_at hlt]
      exact (List.Sublist.refl _).append ((List.nil_sublist _).append (List.Sublist.refl _))
theorem ok_op2 {p : List Fn} {e : Ed} (h : cheV p e = 0) (h2 : e.op = 2) : OkP (p.set e.f.toNat { p.getD e.f.toNat F0 with bs := delB (p.getD e.f.toNat F0).bs e.b }) := by
  have hp := (sane_iff p).1 (che_sane h)
  obtain ⟨hf, hfv⟩ := che_fun h (by omega)
  have ho := (che_oth h (by omega)).2
  rw [othV, if_neg (by omega), if_pos h2] at ho
  obtain ⟨o1, o2⟩ := first_zero ho (by decide)
  have o3 := (first_zero o2 (by decide)).1
  obtain ⟨hb0, hb, hbl⟩ := live_lt (noB_one o1 (b := e.b) (by simp) hfv)
  have hne : e.b ≠ 0 := by simpa using o3
  have q := hp.fs _ (getD_mem F0 hf)
  generalize hg : p.getD e.f.toNat F0 = g at *
  obtain ⟨n, n1, n2, n3, n4⟩ := trim_spec ((g.bs.set e.b.toNat B0).map fun x => (⟨x.live, x.code, wtoV x.succ e.b⟩ : Bk))
  have hlen : ((g.bs.set e.b.toNat B0).map fun x => (⟨x.live, x.code, wtoV x.succ e.b⟩ : Bk)).length = g.bs.length := by simp
  have hget : ∀ j, ((g.bs.set e.b.toNat B0).map fun x => (⟨x.live, x.code, wtoV x.succ e.b⟩ : Bk)).getD j B0 = if e.b.toNat = j then B0 else ⟨(g.bs.getD j B0).live, (g.bs.getD j B0).code, wtoV (g.bs.getD j B0).succ e.b⟩ := fun j => by
    have h0 : (⟨B0.live, B0.code, wtoV B0.succ e.b⟩ : Bk) = B0 := rfl
    have := getD_set (l := g.bs) (b := e.b.toNat) (j := j) (x := B0) (d := B0)
    rw [List.getD_eq_getElem?_getD, List.getElem?_map]
    rw [List.getD_eq_getElem?_getD] at this
    cases hs : (g.bs.set e.b.toNat B0)[j]? with
    | none =>
      rw [hs, Option.getD_none] at this
      rw [Option.map_none, Option.getD_none]
      split
      · rfl
      · rename_i hj
        rw [if_neg (by omega)] at this
        rw [← this]; rfl
    | some y =>
      rw [hs, Option.getD_some] at this
      rw [Option.map_some, Option.getD_some, this]
      by_cases hj : e.b.toNat = j
      · rw [if_pos hj, if_pos ⟨hj, hb⟩]; exact h0
      · rw [if_neg hj, if_neg (by omega)]
  have low : ∀ {j}, j < n → ((((g.bs.set e.b.toNat B0).map fun x => (⟨x.live, x.code, wtoV x.succ e.b⟩ : Bk)).take n).getD j B0) = if e.b.toNat = j then B0 else ⟨(g.bs.getD j B0).live, (g.bs.getD j B0).code, wtoV (g.bs.getD j B0).succ e.b⟩ := fun {j} hj => by
    rw [← hget, List.getD_eq_getElem?_getD, List.getElem?_take, if_pos hj, ← List.getD_eq_getElem?_getD]
  have hlive : ∀ j, (g.bs.getD j B0).live = true → e.b.toNat ≠ j → j < n := fun j hj hjb => by
    refine Nat.lt_of_not_le fun hle => ?_
    have := n3 j hle
    rw [hget, if_neg hjb] at this
    rw [hj] at this; cases this
  have hn0 : 0 < n := hlive 0 q.fst (by omega)
  have hd : delB g.bs e.b = ((g.bs.set e.b.toNat B0).map fun x => (⟨x.live, x.code, wtoV x.succ e.b⟩ : Bk)).take n := n2
  rw [hd]
  have htl : (((g.bs.set e.b.toNat B0).map fun x => (⟨x.live, x.code, wtoV x.succ e.b⟩ : Bk)).take n).length = n := by rw [List.length_take]; omega
  have qt := q.top
  refine ok_set hp hf (by rw [hg]) ⟨q.sig, by show 1 ≤ (List.take n _).length; omega, by show (List.take n _).length ≤ 12; omega, ?_, ?_, fun x hx => ?_⟩ (ids_sub hp hf ?_)
  · show ((List.take n _).getD 0 B0).live = true
    rw [low hn0, if_neg (by omega)]; exact q.fst
  · show ((List.take n _).getD ((List.take n _).length - 1) B0).live = true
    rw [htl, low (by omega), ← hget]
    exact n4.resolve_left (by omega)
  · obtain ⟨j, hj, rfl⟩ := List.mem_iff_getElem.1 hx
    have hjn : j < n := by rw [← htl]; exact hj
    have e1 : (((g.bs.set e.b.toNat B0).map fun x => (⟨x.live, x.code, wtoV x.succ e.b⟩ : Bk)).take n)[j] = if e.b.toNat = j then B0 else ⟨(g.bs.getD j B0).live, (g.bs.getD j B0).code, wtoV (g.bs.getD j B0).succ e.b⟩ := by
      rw [← low hjn, List.getD_eq_getElem?_getD, List.getElem?_eq_getElem hj, Option.getD_some]
    rw [e1]
    split
    · exact okB_dead _ _
    · rename_i hjb
      have y := q.bs _ (getD_mem B0 (show j < g.bs.length by omega))
      refine ⟨fun hl => ?_, up_wto y.up _, fun c hc => ?_, y.len, fun i hi => ?_⟩
      · obtain ⟨e2, e3⟩ := y.dead hl
        exact ⟨e2, by show wtoV (g.bs.getD j B0).succ e.b = []; rw [e3]; rfl⟩
      · obtain ⟨c1, c2⟩ := mem_wto.1 hc
        obtain ⟨d1, d2, d3⟩ := live_lt (y.to c c1)
        have hcn := hlive c.toNat d3 (by omega)
        have := live_of (g := { g with bs := ((g.bs.set e.b.toNat B0).map fun x => (⟨x.live, x.code, wtoV x.succ e.b⟩ : Bk)).take n }) (b := c.toNat) (by show c.toNat < (List.take n _).length; omega) (by
          show ((List.take n _).getD c.toNat B0).live = true
          rw [low hcn, if_neg (by omega)]; exact d3)
        rwa [Int.toNat_of_nonneg d1] at this
      · rw [okI_sig rfl (fun _ => rfl) rfl]; exact y.code i hi
  · rw [hg]
    show (List.flatMap idsB (List.take n _)).Sublist (List.flatMap idsB g.bs)
    have e2 : List.flatMap idsB ((g.bs.set e.b.toNat B0).map fun x => (⟨x.live, x.code, wtoV x.succ e.b⟩ : Bk)) = List.flatMap idsB (g.bs.set e.b.toNat B0) := by
      rw [List.flatMap_map]; rfl
    have e3 : (List.flatMap idsB (List.take n ((g.bs.set e.b.toNat B0).map fun x => (⟨x.live, x.code, wtoV x.succ e.b⟩ : Bk)))).Sublist (List.flatMap idsB ((g.bs.set e.b.toNat B0).map fun x => (⟨x.live, x.code, wtoV x.succ e.b⟩ : Bk))) := by
      conv => rhs; rw [← List.take_append_drop n ((g.bs.set e.b.toNat B0).map fun x => (⟨x.live, x.code, wtoV x.succ e.b⟩ : Bk))]
      rw [List.flatMap_append]
      exact List.sublist_append_left _ _
    refine e3.trans ?_
    rw [e2]
    have a1 := idsF_set (f := g) (x := B0) hb
    have a2 := idsF_at (f := g) hb
    show (idsF { g with bs := g.bs.set e.b.toNat B0 }).Sublist (idsF g)
    rw [a1, a2]
    exact (List.Sublist.refl _).append ((List.nil_sublist _).append (List.Sublist.refl _))
theorem blk_at {p : List Fn} {f b : Int} {g : Fn} (hf : funV p f = some g) (hb : liveF g b = true) : blkV p f b = some (g.bs.getD b.toNat B0) := by
  rw [blkV, hf, Option.getD_some, if_pos hb]
theorem edg_at {p : List Fn} {f b to : Int} {g : Fn} (hf : funV p f = some g) (hb : liveF g b = true) : edgV p f b to = (g.bs.getD b.toNat B0).succ.contains to := by
  rw [edgV, blk_at hf hb, Option.getD_some]
theorem cod_at {p : List Fn} {f b : Int} {g : Fn} (hf : funV p f = some g) (hb : liveF g b = true) : codeV p f b = (g.bs.getD b.toNat B0).code := by
  rw [codeV, blk_at hf hb, Option.getD_some]
theorem ok_succ {p : List Fn} {k : Nat} {b : Int} {g : Fn} {l : List Int} (hp : OkP p) (hk : k < p.length) (hg : p.getD k F0 = g) (hb : liveF g b = true) (hu : Up l) (hl : ∀ c ∈ l, liveF g c = true) :
    OkP (p.set k { g with bs := g.bs.set b.toNat { g.bs.getD b.toNat B0 with succ := l } }) := by
  obtain ⟨b1, b2, b3⟩ := live_lt hb
  have y := (hp.fs g (by rw [← hg]; exact getD_mem F0 hk)).bs _ (getD_mem B0 b2)
  refine ok_blk hp hk hg b2 rfl ⟨fun h => ?_, hu, hl, y.len, y.code⟩ (ids_sub hp hk ?_)
  · have h : (g.bs.getD b.toNat B0).live = false := h
    rw [b3] at h; cases h
  · rw [hg, idsF_set b2, idsF_at b2]
    exact List.Sublist.refl _
theorem edge_facts {p : List Fn} {e : Ed} (h : cheV p e = 0) (ho : e.op = 3 ∨ e.op = 4 ∨ e.op = 5) : liveF (p.getD e.f.toNat F0) e.b = true ∧ liveF (p.getD e.f.toNat F0) e.to = true ∧ (e.op = 5 → liveF (p.getD e.f.toNat F0) e.ot = true) ∧
    ((p.getD e.f.toNat F0).bs.getD e.b.toNat B0).succ.contains e.to = (e.op != 3) ∧ (e.op = 5 → e.ot ≠ e.to → ((p.getD e.f.toNat F0).bs.getD e.b.toNat B0).succ.contains e.ot = false) := by
  obtain ⟨hf, hfv⟩ := che_fun h (by omega)
  have hq := (che_oth h (by omega)).2
  rcases ho with ho | ho | ho
  · rw [othV, if_neg (by omega), if_neg (by omega), if_pos ho] at hq
    obtain ⟨o1, o2⟩ := first_zero hq (by decide)
    have o3 := (first_zero o2 (by decide)).1
    have l1 := noB_one o1 (b := e.b) (by simp) hfv
    refine ⟨l1, noB_one o1 (by simp) hfv, fun h => by omega, ?_, fun h => by omega⟩
    rw [edg_at hfv l1] at o3
    rw [o3, ho]; rfl
  · rw [othV, if_neg (by omega), if_neg (by omega), if_neg (by omega), if_pos ho] at hq
    obtain ⟨o1, o2⟩ := first_zero hq (by decide)
    have o3 := (first_zero o2 (by decide)).1
    have l1 := noB_one o1 (b := e.b) (by simp) hfv
    refine ⟨l1, noB_one o1 (by simp) hfv, fun h => by omega, ?_, fun h => by omega⟩
    rw [edg_at hfv l1, Bool.not_eq_false'] at o3
    rw [o3, ho]; rfl
  · rw [othV, if_neg (by omega), if_neg (by omega), if_neg (by omega), if_neg (by omega), if_pos ho] at hq
    obtain ⟨o1, o2⟩ := first_zero hq (by decide)
    have o3 := (first_zero o2 (by decide)).1
    have l1 := noB_one o1 (b := e.b) (by simp) hfv
    rw [Bool.or_eq_false_iff, edg_at hfv l1, edg_at hfv l1, Bool.not_eq_false'] at o3
    refine ⟨l1, noB_one o1 (by simp) hfv, fun _ => noB_one o1 (by simp) hfv, ?_, fun _ hne => ?_⟩
    · rw [o3.1, ho]; rfl
    · have h4 := o3.2
      rw [show (e.ot != e.to) = true by simpa using hne, Bool.true_and] at h4
      exact h4
theorem ok_edge {p : List Fn} {e : Ed} (h : cheV p e = 0) (ho : e.op = 3 ∨ e.op = 4 ∨ e.op = 5) : OkP (p.set e.f.toNat { p.getD e.f.toNat F0 with bs := (p.getD e.f.toNat F0).bs.set e.b.toNat (blkA p e ((p.getD e.f.toNat F0).bs.getD e.b.toNat B0)) }) := by
  have hp := (sane_iff p).1 (che_sane h)
  obtain ⟨hf, hfv⟩ := che_fun h (by omega)
  obtain ⟨l1, l2, l3, l4, l5⟩ := edge_facts h ho
  generalize hg : p.getD e.f.toNat F0 = g at *
  obtain ⟨b1, b2, b3⟩ := live_lt l1
  have y := (hp.fs g (by rw [← hg]; exact getD_mem F0 hf)).bs _ (getD_mem B0 b2)
  rcases ho with ho | ho | ho
  · rw [blkA, if_pos ho]
    have hn : e.to ∉ (g.bs.getD e.b.toNat B0).succ := fun hm => by
      rw [List.contains_iff_mem.2 hm, ho] at l4; cases l4
    refine ok_succ hp hf hg l1 (up_with y.up hn) fun c hc => ?_
    rcases mem_with.1 hc with rfl | hc
    · exact l2
    · exact y.to c hc
  · rw [blkA, if_neg (by omega), if_pos ho]
    exact ok_succ hp hf hg l1 (up_wto y.up _) fun c hc => y.to c (mem_wto.1 hc).1
  · rw [blkA, if_neg (by omega), if_neg (by omega), if_pos ho]
    have hn : e.ot ∉ wtoV (g.bs.getD e.b.toNat B0).succ e.to := fun hm => by
      obtain ⟨m1, m2⟩ := mem_wto.1 hm
      have := l5 ho m2
      rw [List.contains_iff_mem.2 m1] at this; cases this
    refine ok_succ hp hf hg l1 (up_with (up_wto y.up _) hn) fun c hc => ?_
    rcases mem_with.1 hc with rfl | hc
    · exact l3 ho
    · exact y.to c (mem_wto.1 hc).1
theorem form_id {i : In} {n : Int} (h : form i = true) (h0 : 0 ≤ n) (h1 : n ≤ 95) : form { i with id := n } = true := by
  have hb : bareI { i with id := n } = bareI i := rfl
  simp only [form, Bool.and_eq_true, decide_eq_true_eq, hb] at h ⊢
  exact ⟨⟨⟨⟨⟨h.1.1.1.1.1, h0, h1⟩, h.1.1.1.2⟩, h.1.1.2⟩, h.1.2⟩, h.2⟩
theorem vars_id {i : In} {n : Int} (h : form i = true) (h0 : 0 ≤ n) (h1 : n ≤ 95) : varsI { i with id := n } = varsI i := by
  have h2 := form_id h h0 h1
  have e1 : defI { i with id := n } = defI i := by rw [defI, defI, h, h2]
  have e2 : usesI { i with id := n } = usesI i := by rw [usesI, usesI, h, h2]; rfl
  rw [varsI, varsI, e1, e2]
structure InsF (p : List Fn) (e : Ed) (g : Fn) : Prop where
  live : liveF g e.b = true
  pos : 0 ≤ e.pos ∧ e.pos.toNat ≤ (g.bs.getD e.b.toNat B0).code.length
  id0 : e.i.id = 0
  form : form e.i = true
  ok : okI p g { e.i with id := newIdV p } = true
  len : (g.bs.getD e.b.toNat B0).code.length < 16
  new : 0 ≤ newIdV p ∧ newIdV p ≤ 95 ∧ newIdV p ∉ idsP p
theorem new_id {p : List Fn} (sp : sane p = true) (h : 0 ≤ newIdV p) : newIdV p ≤ 95 ∧ newIdV p ∉ idsP p := by
  rw [newIdV, if_pos sp] at h ⊢
  rcases least_spec (entF [] (idsP p)) 96 with ⟨h1, _⟩ | ⟨k, h1, h2, h3, _⟩
  · omega
  · rw [h1]
    refine ⟨by omega, fun hm => ?_⟩
    rw [look_entF, List.contains_iff_mem.2 hm] at h3
    simp at h3
theorem ins_facts {p : List Fn} {e : Ed} (h : cheV p e = 0) (h6 : e.op = 6) : InsF p e (p.getD e.f.toNat F0) := by
  obtain ⟨hf, hfv⟩ := che_fun h (by omega)
  have sp := che_sane h
  have hq := (che_oth h (by omega)).2
  rw [othV, if_neg (by omega), if_neg (by omega), if_neg (by omega), if_neg (by omega), if_neg (by omega), if_pos h6, insV] at hq
  obtain ⟨o1, q1⟩ := first_zero hq (by decide)
  obtain ⟨o2, q2⟩ := first_zero q1 (by decide)
  obtain ⟨o3, q3⟩ := first_zero q2 (by decide)
  obtain ⟨o4, q4⟩ := first_zero q3 (by decide)
  obtain ⟨o5, q5⟩ := first_zero q4 (by decide)
  obtain ⟨o6, q6⟩ := first_zero q5 (by decide)
  obtain ⟨o7, _⟩ := first_zero q6 (by decide)
  have l1 := noB_one o1 (b := e.b) (by simp) hfv
  generalize p.getD e.f.toNat F0 = g at *
  rw [cod_at hfv l1] at o2 o7
  simp only [Bool.or_eq_false_iff, decide_eq_false_iff_not] at o2 o7
  simp only [Bool.or_eq_false_iff, bne_eq_false_iff_eq, Bool.not_eq_false'] at o3
  have hn0 : 0 ≤ newIdV p := by omega
  obtain ⟨n1, n2⟩ := new_id sp hn0
  refine ⟨l1, by omega, o3.1, o3.2, ?_, by omega, hn0, n1, n2⟩
  have hfm := form_id o3.2 hn0 n1
  unfold okI
  rw [hfm, vars_id o3.2 hn0 n1, o4]
  show (true && !false && (e.i.kind != 7 || decide (e.i.f < (p.length : Nat)) && (p.getD e.i.f.toNat F0).ar == e.i.n)) = true
  by_cases hk : e.i.kind = 7
  · rw [show (e.i.kind == 7) = true by simpa using hk, Bool.true_and] at o5 o6
    rw [decide_eq_false_iff_not] at o5
    rw [bne_eq_false_iff_eq] at o6
    rw [decide_eq_true (by omega), o6]; simp
  · rw [show (e.i.kind != 7) = true by simpa using hk]; rfl
theorem ids_ins {p : List Fn} {k b c : Nat} {n : Int} {g : Fn} {x : Bk} {i : In} (hk : k < p.length) (hg : p.getD k F0 = g) (hb : b < g.bs.length) (hx : g.bs.getD b B0 = x) (hi : i.id = n) :
    (idsP (p.set k { g with bs := g.bs.set b { x with code := x.code.take c ++ i :: x.code.drop c } })).Perm (n :: idsP p) := by
  have e1 : idsB { x with code := x.code.take c ++ i :: x.code.drop c } = (x.code.take c).map (·.id) ++ n :: (x.code.drop c).map (·.id) := by
    simp [idsB, hi]
  have e2 : idsB x = (x.code.take c).map (·.id) ++ (x.code.drop c).map (·.id) := by
    rw [idsB, ← List.map_append, List.take_append_drop]
  rw [ids_set hk, idsF_set hb, e1, ids_at hk, hg, idsF_at hb, hx, e2]
  simp only [List.append_assoc, List.cons_append]
  rw [← List.append_assoc, ← List.append_assoc]
  refine List.perm_middle.trans ?_
  simp only [List.append_assoc]
  exact List.Perm.refl _
theorem ok_op6 {p : List Fn} {e : Ed} (h : cheV p e = 0) (h6 : e.op = 6) : OkP (p.set e.f.toNat { p.getD e.f.toNat F0 with bs := (p.getD e.f.toNat F0).bs.set e.b.toNat (blkA p e ((p.getD e.f.toNat F0).bs.getD e.b.toNat B0)) }) := by
  have hp := (sane_iff p).1 (che_sane h)
  obtain ⟨hf, hfv⟩ := che_fun h (by omega)
  have q := ins_facts h h6
  rw [blkA, if_neg (by omega), if_neg (by omega), if_neg (by omega), if_pos h6]
  generalize hg : p.getD e.f.toNat F0 = g at *
  obtain ⟨b1, b2, b3⟩ := live_lt q.live
  have y := (hp.fs g (by rw [← hg]; exact getD_mem F0 hf)).bs _ (getD_mem B0 b2)
  have hn : (newIdV p :: idsP p).Nodup := List.nodup_cons.2 ⟨q.new.2.2, hp.ids⟩
  refine ok_blk hp hf hg b2 rfl ⟨fun hd => ?_, y.up, y.to, ?_, fun i hi => ?_⟩ ((ids_ins hf hg b2 rfl rfl).nodup_iff.2 hn)
  · have hd : (g.bs.getD e.b.toNat B0).live = false := hd
    rw [b3] at hd; cases hd
  · have := q.len
    have := q.pos
    simp only [List.length_append, List.length_cons, List.length_take, List.length_drop]
    omega
  · rcases List.mem_append.1 hi with hi | hi
    · exact y.code i (List.mem_of_mem_take hi)
    · rcases List.mem_cons.1 hi with rfl | hi
      · exact q.ok
      · exact y.code i (List.mem_of_mem_drop hi)
theorem del_facts {p : List Fn} {e : Ed} (h : cheV p e = 0) (h7 : e.op = 7) : liveF (p.getD e.f.toNat F0) e.b = true ∧ 0 ≤ e.pos ∧ e.pos.toNat < ((p.getD e.f.toNat F0).bs.getD e.b.toNat B0).code.length := by
  obtain ⟨hf, hfv⟩ := che_fun h (by omega)
  have hq := (che_oth h (by omega)).2
  rw [othV, if_neg (by omega), if_neg (by omega), if_neg (by omega), if_neg (by omega), if_neg (by omega), if_neg (by omega)] at hq
  obtain ⟨o1, q1⟩ := first_zero hq (by decide)
  obtain ⟨o2, _⟩ := first_zero q1 (by decide)
  have l1 := noB_one o1 (b := e.b) (by simp) hfv
  rw [cod_at hfv l1] at o2
  simp only [Bool.or_eq_false_iff, decide_eq_false_iff_not] at o2
  exact ⟨l1, by omega, by omega⟩
theorem ok_op7 {p : List Fn} {e : Ed} (h : cheV p e = 0) (h7 : e.op = 7) : OkP (p.set e.f.toNat { p.getD e.f.toNat F0 with bs := (p.getD e.f.toNat F0).bs.set e.b.toNat (blkA p e ((p.getD e.f.toNat F0).bs.getD e.b.toNat B0)) }) := by
  have hp := (sane_iff p).1 (che_sane h)
  obtain ⟨hf, hfv⟩ := che_fun h (by omega)
  obtain ⟨l1, l2, l3⟩ := del_facts h h7
  rw [blkA, if_neg (by omega), if_neg (by omega), if_neg (by omega), if_neg (by omega)]
  generalize hg : p.getD e.f.toNat F0 = g at *
  obtain ⟨b1, b2, b3⟩ := live_lt l1
  have y := (hp.fs g (by rw [← hg]; exact getD_mem F0 hf)).bs _ (getD_mem B0 b2)
  have hs : ((g.bs.getD e.b.toNat B0).code.take e.pos.toNat ++ (g.bs.getD e.b.toNat B0).code.drop (e.pos.toNat + 1)).Sublist (g.bs.getD e.b.toNat B0).code := by
    conv => rhs; rw [← List.take_append_drop e.pos.toNat (g.bs.getD e.b.toNat B0).code]
    refine (List.Sublist.refl _).append ?_
    rw [← List.drop_drop]
    exact List.drop_sublist _ _
  refine ok_blk hp hf hg b2 rfl ⟨fun hd => ?_, y.up, y.to, Nat.le_trans hs.length_le y.len, fun i hi => y.code i (hs.subset hi)⟩ (ids_sub hp hf ?_)
  · have hd : (g.bs.getD e.b.toNat B0).live = false := hd
    rw [b3] at hd; cases hd
  · rw [hg, idsF_set b2, idsF_at b2]
    exact (List.Sublist.refl _).append ((hs.map _).append (List.Sublist.refl _))
theorem sane_apply {p : List Fn} {e : Ed} (h : cheV p e = 0) : sane (applyV p e) = true := by
  rw [sane_iff, applyV, if_neg (by simpa using h)]
  have ho := che_op h
  by_cases h0 : e.op = 0
  · rw [if_pos h0]; exact ok_op0 h h0
  · rw [if_neg h0, funA]
    by_cases h1 : e.op = 1
    · rw [if_pos h1]; exact ok_op1 h h1
    · rw [if_neg h1]
      by_cases h2 : e.op = 2
      · rw [if_pos h2]; exact ok_op2 h h2
      · rw [if_neg h2]
        rcases (by omega : (e.op = 3 ∨ e.op = 4 ∨ e.op = 5) ∨ e.op = 6 ∨ e.op = 7) with h3 | h3 | h3
        · exact ok_edge h h3
        · exact ok_op6 h h3
        · exact ok_op7 h h3
end Go.Vm
namespace Go.Vm
open Go Go.RowKit
section
variable {P : Program} {gl : Nat → Option PV} {n0 : Nat} {s : Env} {H : Hp} {Q : Ex → Env → Hp → Prop}
theorem gh_frz1 (b t : Nat) {g z : Nat} {v : PV} (hb : H.f b = some ⟨g, z, [v]⟩) (hs : s t = some (.ptr b g 0 0)) : Gh gl n0 s H (s.put (some t) (some (.fptr v.cells))) (H.del b) := by
  rintro A w0 F0 m0 w00 N ds a w hm0 ⟨F, m, sim, ev, ht, hu, hrN, hds⟩
  have hbn : b < H.n := Nat.lt_of_not_le fun h => by rw [H.wf b h] at hb; cases hb
  obtain ⟨β, hm, hok, hev⟩ := ptr_at sim (ht t _ hs) hb rfl
  simp only at hm hev
  have hβ := sim.live b β (at_live hm)
  have ne : ∀ {c : Nat}, c ≠ b → mput m b .dead c = m c := fun h => mput_ne m _ h
  have live' : ∀ {c β' : Nat}, (mput m b .dead c).at = some β' → c ≠ b ∧ (m c).at = some β' := fun {c β'} h => by
    by_cases e : c = b
    · rw [e, mput_eq] at h; cases h
    · rw [ne e] at h; exact ⟨e, h⟩
  have ev1 : Ev F m w (fun x => F x ∨ x = β) (mput m b .dead) w := by
    refine ⟨Nat.le_refl _, fun _ h => .inl h, sim.fnl, fun _ _ _ => rfl, fun β' ⟨c, hc⟩ => .inl ⟨c, (live' hc).2⟩, fun _ _ => rfl, fun c => ?_, sim.liv, fun β' h => ?_⟩
    · by_cases e : c = b
      · rw [e, hm, mput_eq]; exact .inl rfl
      · rw [ne e]; exact slot_refl _
    · rcases h with h | h
      · exact .inl h
      · rw [h]; exact .inr (.inl ⟨b, at_live hm⟩)
  refine ⟨fun x => F x ∨ x = β, mput m b .dead, ⟨sim.below, fun c β' h => ?_, fun c c' β' h h' => sim.inj c c' β' (live' h).2 (live' h').2, fun β' h => ?_, fun β' h => ?_, fun c k hk hnu => ?_, fun g p hp => (sim.glob g p hp).monoNo ev1⟩, ev.trans ev1, fun u p hp => ?_, fun c hc => ?_, hrN, hds.mono ev1 rfl⟩
  · obtain ⟨e, h2⟩ := live' h
    obtain ⟨a1, a2, a3⟩ := sim.live c β' h2
    refine ⟨a1, a2, fun hf => ?_⟩
    rcases hf with hf | hf
    · exact a3 hf
    · subst hf
      exact e (sim.inj c b _ h2 (at_live hm))
  · rcases h with h | h
    · exact sim.frz β' h
    · rw [h]; exact .inr hβ.1
  · rcases h with h | h
    · exact sim.frzlt β' h
    · rw [h]; exact hβ.2.1
  · have e : c ≠ b := fun e => by
      rw [e] at hk
      simp [Hp.del] at hk
    have hk' : H.f c = some k := by simpa [Hp.del, e] using hk
    rw [ne e] at hnu ⊢
    rcases sim.blk c k hk' hnu with ⟨β', hm', hok'⟩ | hv
    · exact .inl ⟨β', hm', hok'.mono ev1 rfl⟩
    · have h2 := hv.mono ev1 fun _ _ => rfl
      exact .inr h2
  · by_cases e : u = t
    · subst e
      simp only [Env.put, if_true] at hp
      injection hp with hp
      subst hp
      rw [hev]
      obtain ⟨cs, T, h1, h2, h3, h4⟩ := hok
      refine .fptr _ _ (fun j => cs.getD j undef) (.inr rfl) (fun j hj => ?_) (fun j hj => ?_)
      · obtain ⟨x, hx, _⟩ := h4 0 (by simp) j (by simpa using hj)
        rw [add_plain', cell_row h1]
        simp only [Nat.zero_mul, Nat.zero_add] at hx ⊢
        rw [hx, Array.getD_eq_getD_getElem?, hx]; rfl
      · obtain ⟨x, hx, hr⟩ := h4 0 (by simp) j (by simpa using hj)
        simp only [Nat.zero_mul, Nat.zero_add] at hx
        rw [Array.getD_eq_getD_getElem?, hx, Option.getD_some]
        have hr2 : VRel F w m x v.cells[j] := by simpa using hr
        exact hr2.mono ev1
    · simp only [Env.put, if_neg e] at hp
      exact (ht u p hp).mono ev1
  · have hc' : H.n ≤ c := hc
    rw [ne (by omega)]
    exact hu c hc'
theorem hn7 (K : Hp) (b : Nat) : (K.del b).n = K.n := rfl
theorem tr_frz1 {c : RCode} (b t : Nat) {g z : Nat} {v : PV} (hb : H.f b = some ⟨g, z, [v]⟩) (hs : s t = some (.ptr b g 0 0)) (k : Tr P gl n0 c (s.put (some t) (some (.fptr v.cells))) (H.del b) Q) : Tr P gl n0 c s H Q :=
  tr_ghost (gh_frz1 b t hb hs) k
theorem tr_frz1D (d b t : Nat) {op : RI} {bf : Nat} {l : Nodes} {g z : Nat} {v : PV} (hb : H.f b = some ⟨g, z, [v]⟩) (hs : s t = some (.ptr b g 0 0)) (k : Tr P gl n0 (.region (Nodes.flat none (.op (some d) op bf l)) true) (s.put (some t) (some (.fptr v.cells))) (H.del b) Q) : Tr P gl n0 (.region (Nodes.flat none (.op (some d) op bf l)) true) s H Q :=
  tr_frz1 b t hb hs k
end
end Go.Vm
