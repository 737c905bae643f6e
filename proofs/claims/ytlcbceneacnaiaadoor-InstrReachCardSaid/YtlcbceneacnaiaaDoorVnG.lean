/- Laid. -/
import Derived.Test.YtlcbceneacnaiaaDoorLBitsAll
/- Rows of values of one kind. -/
set_option linter.unusedSimpArgs false
set_option linter.unusedVariables false
namespace Go.Vm
open Go Go.RowKit
section
variable {α : Type}
/-- The one up to a place, the other from there on. -/
def mixL (R O : List α) (k : Nat) : List α := R.take k ++ O.drop k
theorem mixL_zero {R O : List α} : mixL R O 0 = O := rfl
theorem mixL_full {R O : List α} {k : Nat} (h : O.length ≤ k) (h2 : R.length ≤ k) : mixL R O k = R := by
  unfold mixL
  rw [List.take_of_length_le h2, List.drop_of_length_le h, List.append_nil]
theorem mixL_length {R O : List α} {k : Nat} (h : R.length = O.length) : (mixL R O k).length = O.length := by
  simp [mixL]; omega
theorem mixL_getD {R O : List α} {k : Nat} (h : R.length = O.length) (hk : k < O.length) (d : α) : (mixL R O k).getD k d = O.getD k d := by
  unfold mixL
  simp only [List.getD_eq_getElem?_getD]
  rw [List.getElem?_append_right (by simp [Nat.min_le_left])]
  simp only [List.length_take, List.getElem?_drop]
  rw [show k + (k - min k R.length) = k by omega]
theorem mixL_set {R O : List α} {k : Nat} (h : R.length = O.length) (hk : k < O.length) (d : α) : (mixL R O k).set k (R.getD k d) = mixL R O (k + 1) := by
  unfold mixL
  have e : (R.take k).length = k := by simp; omega
  have e2 : R.take (k + 1) = R.take k ++ [R[k]'(by omega)] := by rw [List.take_add_one, List.getElem?_eq_getElem (by omega)]; rfl
  rw [List.set_append_right _ _ (by omega), e, Nat.sub_self, List.drop_eq_getElem_cons hk, List.set_cons_zero, List.getD_eq_getElem?_getD, List.getElem?_eq_getElem (by omega), e2, List.append_assoc]
  rfl
theorem take_snoc1 {l : List α} {k : Nat} (h : k < l.length) (d : α) : l.take k ++ [l.getD k d] = l.take (k + 1) := by
  rw [List.take_add_one, List.getElem?_eq_getElem h, List.getD_eq_getElem?_getD, List.getElem?_eq_getElem h]
  rfl
def tab (N : Nat) (F : Nat → α) : List α := (List.range N).map F
theorem tab_length {N : Nat} {F : Nat → α} : (tab N F).length = N := by simp [tab]
theorem tab_getD {N k : Nat} {F : Nat → α} (h : k < N) (d : α) : (tab N F).getD k d = F k := by
  rw [List.getD_eq_getElem?_getD, List.getElem?_eq_getElem (by rw [tab_length]; exact h)]
  simp [tab]
theorem tab_getD' {N k : Nat} {F : Nat → α} (d : α) : (tab N F).getD k d = if k < N then F k else d := by
  split
  · rename_i h; exact tab_getD h d
  · rename_i h
    rw [List.getD_eq_getElem?_getD, List.getElem?_eq_none (by rw [tab_length]; omega)]
    rfl
theorem tab_congr {N : Nat} {F G : Nat → α} (h : ∀ k, k < N → F k = G k) : tab N F = tab N G := List.map_congr_left fun k hk => h k (List.mem_range.1 hk)
theorem tab_of (l : List α) (d : α) : tab l.length (fun k => l.getD k d) = l := by
  refine List.ext_getElem tab_length fun i h1 h2 => ?_
  simp [tab, h2]
theorem ext_getD {l m : List α} (d : α) (h : l.length = m.length) (k : ∀ i, i < l.length → l.getD i d = m.getD i d) : l = m := by
  refine List.ext_getElem h fun i h1 h2 => ?_
  have := k i h1
  simpa [List.getD_eq_getElem?_getD, h1, h2] using this
theorem map_getD {β : Type} {f : α → β} {l : List α} {k : Nat} {d : α} {e : β} (h : f d = e) : (l.map f).getD k e = f (l.getD k d) := by
  subst h
  by_cases hk : k < l.length
  · simp [List.getD_eq_getElem?_getD, hk]
  · simp [List.getD_eq_getElem?_getD, List.getElem?_eq_none (show l.length ≤ k by omega)]
end
section
variable {P : Program} {gl : Nat → Option PV} {e : Bool} {s : Env} {H : Hp} {l : Nodes} {Q : Env → Hp → Prop} {d : Option Nat} {bf : Nat} {α : Type} {f : α → PV}
theorem getD_map {xs : List α} {k : Nat} (a0 : α) (h : k < xs.length) : (xs.map f)[k]? = some (f (xs.getD k a0)) := by
  simp [List.getD_eq_getElem?_getD, h]
/-- An element of a frozen row. -/
theorem n_idx_vals {sz : Nat} {x i : RO} {k : IntKind} {xs : List α} {c : Int} (a0 : α) (hx : x.ev gl s = some (.sl (xs.map f))) (hi : i.ev gl s = some (.int k c)) (hz : ∀ a, (f a).cells.length = sz) (h : 0 ≤ c ∧ c < (xs.length : Nat)) (kk : WN P gl e l (s.put d (some (.fptr (f (xs.getD c.toNat a0)).cells))) H Q) : WN P gl e (.op d (.idxAddr sz x i) bf l) s H Q :=
  n_idx_sl hx hi h.1 (getD_map a0 (by omega)) (hz _) kk
/-- What stands at a place of a row of one's own. -/
theorem n_load_vals {es : Shape} {x : RO} {b g i sz : Nat} {xs : List α} (a0 : α) {r : PV} (hx : x.ev gl s = some (.ptr b g i 0)) (hb : H.f b = some ⟨g, sz, xs.map f⟩) (hr : subv es (f (xs.getD i a0)).cells = some r) (h : i < xs.length) (kk : WN P gl e l (s.put d (some r)) H Q) : WN P gl e (.op d (.load es x) bf l) s H Q :=
  n_load_at hx hb (getD_map a0 h) hr kk
theorem n_store_vals {b g i n sz : Nat} {x v : RO} {p : PV} {xs : List α} (a : α) (hx : x.ev gl s = some (.ptr b g i 0)) (hv : v.ev gl s = some p) (hb : H.f b = some ⟨g, sz, xs.map f⟩) (hp : p = f a) (hf : ∀ a, ((f a).cells.length == n && (f a).cells.all PV.one) = true) (h : i < xs.length) (k : WN P gl e l (s.put d none) (H.set b ⟨g, sz, (xs.set i a).map f⟩) Q) : WN P gl e (.op d (.store n x v) bf l) s H Q := by
  subst hp
  refine n_store (xs' := (xs.set i a).map f) hx hv hb (hf a) ?_ k
  have h1 := hf a
  have h2 := hf xs[i]
  simp only [Bool.and_eq_true, beq_iff_eq] at h1 h2
  have : (xs.map f)[i]? = some (f xs[i]) := by simp [h]
  simp only [putAt, this, Option.bind_eq_bind, Option.bind_some]
  rw [if_pos ⟨trivial, by omega⟩, List.map_set]
theorem n_mk_vals {sz : Nat} {x : RO} {c : Int} {n : Nat} {z : PV} (a : α) (hx : x.ev gl s = some (.int .i64 c)) (hn : H.n = n) (hz : z = f a) (hs : z.cells.length = sz) (hc : 0 ≤ c ∧ c ≤ 1048576) (k : WN P gl e l (s.put d (some (.ref n 0 0 c.toNat))) (H.add [⟨0, sz, (List.replicate c.toNat a).map f⟩]) Q) : WN P gl e (.op d (.mkslice sz z x) bf l) s H Q := by
  subst hz
  refine n_mkslice hx hs hc hn ?_
  rw [show List.replicate c.toNat (f a) = (List.replicate c.toNat a).map f by simp]
  exact k
theorem n_append_vals {sz b g k : Nat} {z : PV} {x v : RO} {q : PV} {xs : List α} (a : α) (hx : x.ev gl s = some (.ref b g 0 k)) (hv : v.ev gl s = some (.lit [q])) (hb : H.f b = some ⟨g, sz, xs.map f⟩) (hq : q = f a) (hz : cellsOk sz [q] = true) (hl : k = xs.length) (hm : k + 1 ≤ 1048576)
    (kk : WN P gl e l (s.put d (some (.ref b (g + 1) 0 (k + 1)))) (H.set b ⟨g + 1, sz, (xs ++ [a]).map f⟩) Q) : WN P gl e (.op d (.append sz z x v) bf l) s H Q := by
  subst hq hl
  refine n_append (ys := [f a]) hx hv hb (by simp) rfl hz (by simpa using hm) (len' := xs.length + 1) (by simp) ?_
  rw [show xs.map f ++ [f a] = (xs ++ [a]).map f by simp]
  exact kk
theorem vals_pure (hf : ∀ a, pureE (f a) = true) (xs : List α) : (xs.map f).all pureE = true := by simp [hf]
theorem fzP_vals {k : Nat} {xs ys : List α} (hf : ∀ a, pureE (f a) = true) (h : xs = ys) : fzP H k (xs.map f) = some (ys.map f) := by subst h; exact fzP_pure (vals_pure hf _)
theorem soft_vals {b g sz len : Nat} {xs : List α} (hb : H.f b = some ⟨g, sz, xs.map f⟩) (hf : ∀ a, pureE (f a) = true) (hl : len = xs.length) : soft1 H true (.ref b g 0 len) = some (.sl (xs.map f)) := by
  subst hl
  have hp := vals_pure hf xs
  have e : elems H (.ref b g 0 xs.length) = some (xs.map f) := by simp [elems, Hp.blk, hb, List.take_of_length_le]
  simp only [soft1, e, hp, if_true]
theorem soft_env {o : Bool} {b g sz len : Nat} {xs : List α} (hb : H.f b = some ⟨g, sz, xs.map f⟩) (hf : ∀ a, pureE (f a) = true) (hl : len = xs.length) : soft H true (.agg [.bool o, .ref b g 0 len]) = some (.agg [.bool o, .sl (xs.map f)]) := by
  simp only [soft, soft0, softL, soft_vals hb hf hl, Option.bind_eq_bind, Option.bind_some]
  rfl
theorem fnQ_ret_env {rs : List RRes} {o : Bool} {b g sz len : Nat} {xs : List α} {rr : PV} (h : retOf rs H s = some (.agg [.bool o, .ref b g 0 len])) (hb : H.f b = some ⟨g, sz, xs.map f⟩) (hf : ∀ a, pureE (f a) = true) (hl : len = xs.length) (h3 : .agg [.bool o, .sl (xs.map f)] = rr) : FnQ rs (fun r0 H' => soft H' true r0 = some rr) .ret s H :=
  ⟨_, h, (soft_env hb hf hl).trans (congrArg some h3)⟩
theorem fnQ_ret_vals {rs : List RRes} {b g sz len : Nat} {xs : List α} {rr : PV} (h : retOf rs H s = some (.ref b g 0 len)) (hb : H.f b = some ⟨g, sz, xs.map f⟩) (hf : ∀ a, pureE (f a) = true) (hl : len = xs.length) (h3 : .sl (xs.map f) = rr) : FnQ rs (fun r0 H' => soft H' true r0 = some rr) .ret s H :=
  ⟨_, h, (soft_vals hb hf hl).trans (congrArg some h3)⟩
end
end Go.Vm
namespace Go.Vm
section
variable {P : Program} {gl : Nat → Option PV} {e : Bool} {s : Env} {H : Hp} {l : Nodes} {Q : Env → Hp → Prop} {d : Option Nat} {bf : Nat}
/-- The greatest, the least of some, as it is told. -/
theorem n_max_to {x y : RO} {k : IntKind} {a b c : Int} (hx : x.ev gl s = some (.int k a)) (hy : y.ev gl s = some (.int k b)) (h : max a b = c) (kk : WN P gl e l (s.put d (some (.int k c))) H Q) : WN P gl e (.op d (.mm true x [y]) bf l) s H Q := by
  subst h
  exact n_max hx hy kk
theorem n_min_to {x y : RO} {k : IntKind} {a b c : Int} (hx : x.ev gl s = some (.int k a)) (hy : y.ev gl s = some (.int k b)) (h : min a b = c) (kk : WN P gl e l (s.put d (some (.int k c))) H Q) : WN P gl e (.op d (.mm false x [y]) bf l) s H Q := by
  subst h
  exact n_min hx hy kk
end
end Go.Vm
namespace Go.Vm
section
variable {P : Program} {gl : Nat → Option PV} {e : Bool} {s : Env} {H : Hp} {l : Nodes} {Q : Env → Hp → Prop} {d : Option Nat} {bf : Nat}
/-- Some of a row of one's own, from a place on. -/
theorem n_slice_lo {x i : RO} {sz b g off len : Nat} {k : IntKind} {c : Int} {xs : List PV} (hx : x.ev gl s = some (.ref b g off len)) (hi : i.ev gl s = some (.int k c)) (hb : H.f b = some ⟨g, sz, xs⟩) (h : 0 ≤ c ∧ c < len) (kk : WN P gl e l (s.put d (some (.ref b g (off + c.toNat) (len - c.toNat)))) H Q) : WN P gl e (.op d (.prim (.sliceSl sz true false false) [x, i]) bf l) s H Q := by
  refine n_val rfl ?_ kk
  have e1 : bnd len (.int k c) = some c.toNat := by simp only [bnd]; rw [if_pos ⟨h.1, by omega⟩]
  simp only [stepN, evs, hx, hi, Option.bind_eq_bind, Option.bind_some, Option.pure_def, primF, PV.lenP, bnds, e1, Option.map_some, Hp.blk, hb, if_true]
  rw [if_neg (by omega)]
  rfl
theorem n_slice_hi {x i : RO} {sz b g off len : Nat} {k : IntKind} {c : Int} {xs : List PV} (hx : x.ev gl s = some (.ref b g off len)) (hi : i.ev gl s = some (.int k c)) (hb : H.f b = some ⟨g, sz, xs⟩) (h : 0 < c ∧ c ≤ len) (kk : WN P gl e l (s.put d (some (.ref b g off c.toNat))) H Q) : WN P gl e (.op d (.prim (.sliceSl sz false true false) [x, i]) bf l) s H Q := by
  refine n_val rfl ?_ kk
  have e1 : bnd len (.int k c) = some c.toNat := by simp only [bnd]; rw [if_pos ⟨by omega, by omega⟩]
  simp only [stepN, evs, hx, hi, Option.bind_eq_bind, Option.bind_some, Option.pure_def, primF, PV.lenP, bnds, e1, Option.map_some, Hp.blk, hb, if_true, Nat.add_zero, Nat.sub_zero]
  rw [if_neg (by omega)]
  rfl
/-- Some of a frozen row. -/
theorem n_slice_lo_sl {x i : RO} {sz : Nat} {k : IntKind} {c : Int} {xs : List PV} (hx : x.ev gl s = some (.sl xs)) (hi : i.ev gl s = some (.int k c)) (hz : (xs.all fun e => e.cells.length == sz) = true) (h : 0 ≤ c ∧ c ≤ xs.length) (kk : WN P gl e l (s.put d (some (.sl (xs.drop c.toNat)))) H Q) : WN P gl e (.op d (.prim (.sliceSl sz true false false) [x, i]) bf l) s H Q := by
  refine n_val rfl ?_ kk
  have e1 : bnd xs.length (.int k c) = some c.toNat := by simp only [bnd]; rw [if_pos ⟨h.1, by omega⟩]
  simp only [stepN, evs, hx, hi, Option.bind_eq_bind, Option.bind_some, Option.pure_def, primF, PV.lenP, bnds, e1, Option.map_some, hz, if_true]
  split
  · rename_i h2
    rw [List.drop_of_length_le (by omega)]; rfl
  · rw [List.take_of_length_le (by simp)]; rfl
theorem n_slice_hi_sl {x i : RO} {sz : Nat} {k : IntKind} {c : Int} {xs : List PV} (hx : x.ev gl s = some (.sl xs)) (hi : i.ev gl s = some (.int k c)) (hz : (xs.all fun e => e.cells.length == sz) = true) (h : 0 ≤ c ∧ c ≤ xs.length) (kk : WN P gl e l (s.put d (some (.sl (xs.take c.toNat)))) H Q) : WN P gl e (.op d (.prim (.sliceSl sz false true false) [x, i]) bf l) s H Q := by
  refine n_val rfl ?_ kk
  have e1 : bnd xs.length (.int k c) = some c.toNat := by simp only [bnd]; rw [if_pos ⟨h.1, by omega⟩]
  simp only [stepN, evs, hx, hi, Option.bind_eq_bind, Option.bind_some, Option.pure_def, primF, PV.lenP, bnds, e1, Option.map_some, hz, if_true]
  split
  · rename_i h2
    rw [← h2]; rfl
  · simp
/-- A copy into a row of one's own. -/
theorem n_copy_vals {α : Type} {f : α → PV} {sz b g off len : Nat} {x v : RO} {p : PV} {xs ys : List α} (hx : x.ev gl s = some (.ref b g off len)) (hv : v.ev gl s = some p) (hb : H.f b = some ⟨g, sz, xs.map f⟩) (he : elems H p = some (ys.map f)) (hf : ∀ a, ((f a).cells.length == sz && (f a).cells.all PV.one) = true) {m : Nat} (hm : min ys.length len = m) (hl : off + len ≤ xs.length)
    (k : WN P gl e l (s.put d (some (.int .i64 (m : Int)))) (H.set b ⟨g, sz, (xs.take off ++ ys.take m ++ xs.drop (off + m)).map f⟩) Q) : WN P gl e (.op d (.copy sz x v) bf l) s H Q := by
  subst hm
  refine n_copy hx hv hb he ?_ (by simpa using hl) ?_
  · simp only [cellsOk, List.all_eq_true]
    intro y hy
    obtain ⟨a, _, rfl⟩ := List.mem_map.1 (List.mem_of_mem_take hy)
    exact hf a
  · have e1 : splice (xs.map f) off ((ys.map f).take (min (ys.map f).length len)) = (xs.take off ++ ys.take (min ys.length len) ++ xs.drop (off + min ys.length len)).map f := by
      simp only [splice, List.length_map, ← List.map_take, ← List.map_drop, List.map_append]
      congr 3
      simp only [List.length_take]
      omega
    rw [e1, List.length_map]
    exact k
theorem elems_head {α : Type} {f : α → PV} {sz b g n : Nat} {xs : List α} (hb : H.f b = some ⟨g, sz, xs.map f⟩) (h : n ≤ xs.length) : elems H (.ref b g 0 n) = some ((xs.take n).map f) := by
  simp only [elems, Hp.blk, hb, Option.bind_eq_bind, Option.bind_some, if_true, List.drop_zero, List.length_map]
  rw [if_pos (by omega), List.map_take]
end
/-- Row of one value, up to a place. -/
theorem mix_rep {α : Type} {a z : α} {N n m : Nat} (h : n + m ≤ N) (hm : m ≤ n) : (mixL (List.replicate N a) (List.replicate N z) n).take n ++ ((mixL (List.replicate N a) (List.replicate N z) n).take n).take m ++ (mixL (List.replicate N a) (List.replicate N z) n).drop (n + m) = mixL (List.replicate N a) (List.replicate N z) (n + m) := by
  unfold mixL
  simp only [List.take_replicate, List.drop_replicate, List.take_append, List.length_replicate, List.drop_append, List.replicate_append_replicate]
  simp only [show min n N = n by omega, show min (n + m) N = n + m by omega, Nat.min_self, Nat.sub_self, Nat.zero_min, List.replicate_zero, List.append_nil, show min m n = m by omega, show n - (n + m) = 0 by omega, show n + m - n = m by omega, List.nil_append, List.replicate_append_replicate, Nat.sub_sub, show m - n = 0 by omega]
end Go.Vm
namespace Go.Vm
section
variable {P : Program} {gl : Nat → Option PV} {e : Bool} {s : Env} {H : Hp} {l : Nodes} {Q : Env → Hp → Prop} {d : Option Nat} {bf : Nat}
/-- What is met nowhere. -/
theorem n_nope (h : False) : WN P gl e (.op d .nope bf l) s H Q := h.elim
end
end Go.Vm
namespace Go.Vm
theorem mix_first {α : Type} {a z : α} {N : Nat} : List.take 0 (List.replicate (N : Int).toNat z) ++ List.take (min 1 N) [a] ++ List.drop (0 + min 1 N) (List.replicate (N : Int).toNat z) = mixL (List.replicate N a) (List.replicate N z) (min 1 N) := by
  cases N with
  | zero => rfl
  | succ n =>
    rw [show min 1 (n + 1) = 1 by omega]
    rfl
end Go.Vm
namespace Go.Vm
section
variable {P : Program} {gl : Nat → Option PV} {e : Bool} {s : Env} {H : Hp} {l : Nodes} {Q : Env → Hp → Prop} {d : Option Nat} {bf : Nat}
theorem n_slice_lo0 {x i : RO} {sz b g len : Nat} {k : IntKind} {c : Int} {xs : List PV} (hx : x.ev gl s = some (.ref b g 0 len)) (hi : i.ev gl s = some (.int k c)) (hb : H.f b = some ⟨g, sz, xs⟩) (h : 0 ≤ c ∧ c < len) (kk : WN P gl e l (s.put d (some (.ref b g c.toNat (len - c.toNat)))) H Q) : WN P gl e (.op d (.prim (.sliceSl sz true false false) [x, i]) bf l) s H Q :=
  n_slice_lo hx hi hb h (by rw [Nat.zero_add]; exact kk)
end
end Go.Vm
