/- Laid. -/
import Derived.Test.YtkdhindpjllpkaaGreatDoorVmTwoB
set_option linter.unusedSimpArgs false
set_option linter.unusedVariables false
set_option maxRecDepth 100000
namespace Go.Vm
open Go Go.RowKit
def Hp.ofL (l : List (Option Blk)) : Hp := ⟨l.length, fun b => (l[b]?).join, fun b hb => by rw [List.getElem?_eq_none hb]; rfl⟩
def Env.ov (s : Env) : List (Nat × Option PV) → Env
  | [] => s
  | (d, r) :: l => (Env.ov s l).put (some d) r
def eqAll (l r : List PV) : List (Nat × Nat) → Option Bool
  | [] => some true
  | o :: os => do
    let x ← l[o.1]?
    let y ← r[o.1]?
    let b ← eq1 o.2 x y
    let c ← eqAll l r os
    some (b && c)
theorem eqAll_eqL {l r : List PV} : ∀ {os : List (Nat × Nat)} {b : Bool}, eqAll l r os = some b → eqL l r os = some b
  | [], b, h => h
  | o :: os, b, h => by
    simp only [eqAll, Option.bind_eq_bind, Option.bind_eq_some_iff, Option.some.injEq] at h
    obtain ⟨x, hx, y, hy, c, hc, d, hd, rfl⟩ := h
    simp only [eqL, hx, hy, hc, Option.bind_eq_bind, Option.bind_some]
    cases c with
    | true => simpa using eqAll_eqL hd
    | false => rfl
def RI.plain : RI → Bool
  | .call .. | .callP .. | .callv .. | .store .. | .append .. | .copy .. | .eprim .. => false
  | _ => true
section
variable {P : Program} {gl : Nat → Option PV} {e : Bool} {s : Env} {H : Hp} {l : Nodes} {Q : Env → Hp → Prop} {d : Option Nat} {op : RI} {bf : Nat}
theorem n_nil (h : Q s H) : WN P gl e .nil s H Q := ⟨s, Env.le_refl s, h⟩
theorem WpOp_plain {K : Option PV → Hp → Prop} (hp : op.plain = true) {r : PV} {ext : List Blk} (h : stepN (RO.ev gl s) H op = some (r, ext)) (k : K (some r) (H.app ext)) : WpOp P gl e op s H K := by
  cases op <;> first | (exact ⟨r, ext, h, k⟩) | (simp [RI.plain] at hp)
theorem n_val (hp : op.plain = true) {r : PV} (h : stepN (RO.ev gl s) H op = some (r, [])) (k : WN P gl e l (s.put d (some r)) H Q) : WN P gl e (.op d op bf l) s H Q := WpOp_plain hp h k
theorem n_new (hp : op.plain = true) {n : Nat} (hn : H.n = n) {k : Blk} (h : stepN (RO.ev gl s) H op = some (.ptr H.n 0 0 0, [k])) (kk : WN P gl e l (s.put d (some (.ptr n 0 0 0))) (H.add [k]) Q) : WN P gl e (.op d op bf l) s H Q := by
  subst hn
  exact WpOp_plain hp h kk
theorem n_row (hp : op.plain = true) {n len : Nat} (hn : H.n = n) {k : Blk} (h : stepN (RO.ev gl s) H op = some (.ref H.n 0 0 len, [k])) (kk : WN P gl e l (s.put d (some (.ref n 0 0 len))) (H.add [k]) Q) : WN P gl e (.op d op bf l) s H Q := by
  subst hn
  exact WpOp_plain hp h kk
theorem n_mkslice {sz : Nat} {z : PV} {x : RO} {c : Int} {n : Nat} (hx : x.ev gl s = some (.int .i64 c)) (hz : z.cells.length = sz) (hc : 0 ≤ c ∧ c ≤ 1048576) (hn : H.n = n) (k : WN P gl e l (s.put d (some (.ref n 0 0 c.toNat))) (H.add [⟨0, sz, List.replicate c.toNat z⟩]) Q) : WN P gl e (.op d (.mkslice sz z x) bf l) s H Q := by
  subst hn
  have h : stepN (RO.ev gl s) H (.mkslice sz z x) = some (.ref H.n 0 0 c.toNat, [⟨0, sz, List.replicate c.toNat z⟩]) := by simp [stepN, hx, hz, hc]
  have kk : WpOp P gl e (.mkslice sz z x) s H fun r H' => WpN P gl e l (s.put d r) H' fun s1 H1 => ∃ s', s'.le s1 ∧ Q s' H1 := WpOp_plain rfl h k
  exact kk
theorem n_eqs {ne : Bool} {ls : List (Nat × Nat)} {x y : RO} {lx ly : List PV} {b : Bool} (hx : x.ev gl s = some (.agg lx)) (hy : y.ev gl s = some (.agg ly)) (h : eqAll lx ly ls = some b) (k : WN P gl e l (s.put d (some (.bool (if ne then !b else b)))) H Q) : WN P gl e (.op d (.eqs ne ls x y) bf l) s H Q :=
  n_val rfl (by simp [stepN, hx, hy, eqAll_eqL h]) k
theorem n_eqs_f {ls : List (Nat × Nat)} {x y : RO} {lx ly : List PV} {b : Bool} (hx : x.ev gl s = some (.agg lx)) (hy : y.ev gl s = some (.agg ly)) (h : eqAll lx ly ls = some b) (k : WN P gl e l (s.put d (some (.bool b))) H Q) : WN P gl e (.op d (.eqs false ls x y) bf l) s H Q := n_eqs hx hy h k
theorem n_eqs_t {ls : List (Nat × Nat)} {x y : RO} {lx ly : List PV} {b : Bool} (hx : x.ev gl s = some (.agg lx)) (hy : y.ev gl s = some (.agg ly)) (h : eqAll lx ly ls = some b) (k : WN P gl e l (s.put d (some (.bool (!b)))) H Q) : WN P gl e (.op d (.eqs true ls x y) bf l) s H Q := n_eqs hx hy h k
theorem n_store {n b g i off sz : Nat} {x v : RO} {p : PV} {xs xs' : List PV} (hx : x.ev gl s = some (.ptr b g i off)) (hv : v.ev gl s = some p) (hb : H.f b = some ⟨g, sz, xs⟩) (hn : (p.cells.length == n && p.cells.all PV.one) = true) (hp : putAt xs i off p = some xs') (k : WN P gl e l (s.put d none) (H.set b ⟨g, sz, xs'⟩) Q) : WN P gl e (.op d (.store n x v) bf l) s H Q := by
  refine ⟨none, _, ?_, k⟩
  simp only [Bool.and_eq_true, beq_iff_eq] at hn
  simp [stepE, hx, hv, Hp.blk, hb, hn.1, hp]
  exact List.all_eq_true.1 hn.2
def cellsOk (sz : Nat) (l : List PV) : Bool := l.all fun y => y.cells.length == sz && y.cells.all PV.one
theorem n_append {sz b g len : Nat} {z : PV} {x v : RO} {p : PV} {xs ys : List PV} (hx : x.ev gl s = some (.ref b g 0 len)) (hv : v.ev gl s = some p) (hb : H.f b = some ⟨g, sz, xs⟩) (hl : len = xs.length) (he : elems H p = some ys) (ho : cellsOk sz ys = true) (hm : xs.length + ys.length ≤ 1048576)
    {len' : Nat} (hl' : (xs ++ ys).length = len') (k : WN P gl e l (s.put d (some (.ref b (g + 1) 0 len'))) (H.set b ⟨g + 1, sz, xs ++ ys⟩) Q) : WN P gl e (.op d (.append sz z x v) bf l) s H Q := by
  subst hl
  subst hl'
  refine ⟨some (.ref b (g + 1) 0 (xs.length + ys.length)), H.set b ⟨g + 1, sz, xs ++ ys⟩, ?_, by rw [List.length_append] at k; exact k⟩
  have h1 : (ys.all (fun y => y.cells.length == sz && y.cells.all PV.one) && decide ((PV.ref b g 0 xs.length).lenP.getD 0 + ys.length ≤ 1048576)) = true := by
    rw [show ys.all (fun y => y.cells.length == sz && y.cells.all PV.one) = true from ho]
    simp [PV.lenP, hm]
  simp only [stepE, hx, hv, he, Option.bind_eq_bind, Option.bind_some, Hp.blk, hb, if_true, h1, and_self]
theorem n_copy {sz b g off len : Nat} {x v : RO} {p : PV} {xs ys : List PV} (hx : x.ev gl s = some (.ref b g off len)) (hv : v.ev gl s = some p) (hb : H.f b = some ⟨g, sz, xs⟩) (he : elems H p = some ys) (ho : cellsOk sz (ys.take (min ys.length len)) = true) (hm : off + len ≤ xs.length)
    (k : WN P gl e l (s.put d (some (.int .i64 (min ys.length len : Nat)))) (H.set b ⟨g, sz, splice xs off (ys.take (min ys.length len))⟩) Q) : WN P gl e (.op d (.copy sz x v) bf l) s H Q := by
  refine ⟨_, _, ?_, k⟩
  simp only [stepE, hx, hv, he, Option.bind_eq_bind, Option.bind_some, Hp.blk, hb, if_true]
  rw [if_pos ⟨hm, trivial, ho⟩]
theorem n_idx_sl {sz : Nat} {x i : RO} {k : IntKind} {xs : List PV} {c : Int} {y : PV} (hx : x.ev gl s = some (.sl xs)) (hi : i.ev gl s = some (.int k c)) (h0 : 0 ≤ c) (hy : xs[c.toNat]? = some y) (hz : y.cells.length = sz) (kk : WN P gl e l (s.put d (some (.fptr y.cells))) H Q) : WN P gl e (.op d (.idxAddr sz x i) bf l) s H Q := by
  refine n_val rfl ?_ kk
  simp only [stepN, hx, hi, Option.bind_eq_bind, Option.bind_some, if_pos h0, hy, if_pos hz]
theorem n_idx_ref {sz b g off len : Nat} {x i : RO} {k : IntKind} {xs : List PV} {c : Int} (hx : x.ev gl s = some (.ref b g off len)) (hi : i.ev gl s = some (.int k c)) (hb : H.f b = some ⟨g, sz, xs⟩) (h0 : 0 ≤ c ∧ c < len) (kk : WN P gl e l (s.put d (some (.ptr b g (off + c.toNat) 0))) H Q) : WN P gl e (.op d (.idxAddr sz x i) bf l) s H Q := by
  refine n_val rfl ?_ kk
  simp only [stepN, hx, hi, Option.bind_eq_bind, Option.bind_some, Hp.blk, hb, if_true]
  rw [if_pos ⟨h0.1, h0.2, trivial⟩]
theorem n_load_at {x : RO} {b g i sz : Nat} {xs : List PV} {y : PV} (hx : x.ev gl s = some (.ptr b g i 0)) (hb : H.f b = some ⟨g, sz, xs⟩) (hy : xs[i]? = some y) {es : Shape} {r : PV} (hr : subv es y.cells = some r) (kk : WN P gl e l (s.put d (some r)) H Q) : WN P gl e (.op d (.load es x) bf l) s H Q := by
  refine n_val rfl ?_ kk
  simp only [stepN, hx, Option.bind_eq_bind, Option.bind_some, Hp.blk, hb, if_true, hy, List.drop_zero, hr, Option.pure_def]
/-! ### Calls -/
theorem n_call {f : FuncId} {args : List RO} {as as' : List PV} {r : PV} (h1 : evs (RO.ev gl s) args = some as) (h2 : softs H false as = some as') (h3 : Pure P gl f as' r) (k : WN P gl e l (s.put d (some r)) H Q) : WN P gl e (.op d (.call f args) bf l) s H Q :=
  ⟨as, h1, .inl ⟨false, as', r, h2, h3, (by simp), k⟩⟩
theorem n_callP {f : FuncId} {args : List RO} {as as' : List PV} {r : PV} (h1 : evs (RO.ev gl s) args = some as) (h2 : softs H false as = some as') (h3 : Pure P gl f as' r) (k : WN P gl e l (s.put d (some r)) H Q) : WN P gl e (.op d (.callP f args) bf l) s H Q :=
  ⟨as, as', r, h1, h2, h3, k⟩
theorem n_callb {f : FuncId} {args : List RO} {as as' : List PV} {r : PV} (h1 : evs (RO.ev gl s) args = some as) (h2 : softs H true as = some as') (h3 : Pure P gl f as' r) (h4 : scal r = true) (k : WN P gl e l (s.put d (some r)) H Q) : WN P gl e (.op d (.call f args) bf l) s H Q :=
  ⟨as, h1, .inl ⟨true, as', r, h2, h3, fun _ => h4, k⟩⟩
theorem n_fresh {f : FuncId} {args : List RO} {as as' : List PV} {r r' : PV} {G : Hp} {n : Nat} (hn : H.n = n) (h1 : evs (RO.ev gl s) args = some as) (h2 : softs H false as = some as') (h3 : Fresh P gl f as' r G) (h4 : shiftP n r = some r') (k : WN P gl e l (s.put d (some r')) (H.addH G) Q) : WN P gl e (.op d (.call f args) bf l) s H Q := by
  subst hn
  exact ⟨as, h1, .inr (.inl ⟨as', r, r', G, h2, h3, h4, k⟩)⟩
theorem n_spec {f : FuncId} {args : List RO} {as : List PV} {r : PV} {H' : Hp} (h1 : evs (RO.ev gl s) args = some as) (h3 : HSpec P gl f as H (fun r0 G => r0 = r ∧ G = H')) (hn : H.n ≤ H'.n) (k : WN P gl true l (s.put d (some r)) H' Q) : WN P gl true (.op d (.call f args) bf l) s H Q :=
  ⟨as, h1, .inr (.inr ⟨rfl, r, H', h3, hn, k⟩)⟩
theorem n_callv {f : FuncId} {x : RO} {caps : List PV} {args : List RO} {as as' : List PV} {r : PV} (h0 : x.ev gl s = some (.fn f caps)) (h1 : evs (RO.ev gl s) args = some as) (h2 : softs H false (as ++ caps) = some as') (h3 : Pure P gl f as' r) (k : WN P gl e l (s.put d (some r)) H Q) : WN P gl e (.op d (.callv x args) bf l) s H Q :=
  .inl ⟨f, caps, as, h0, h1, .inl ⟨false, as', r, h2, h3, (by simp), k⟩⟩
theorem n_specv {f : FuncId} {x : RO} {caps : List PV} {args : List RO} {as : List PV} {r : PV} {H' : Hp} (h0 : x.ev gl s = some (.fn f caps)) (h1 : evs (RO.ev gl s) args = some as) (h3 : HSpec P gl f (as ++ caps) H (fun r0 G => r0 = r ∧ G = H')) (hn : H.n ≤ H'.n) (k : WN P gl true l (s.put d (some r)) H' Q) : WN P gl true (.op d (.callv x args) bf l) s H Q :=
  .inl ⟨f, caps, as, h0, h1, .inr (.inr ⟨rfl, r, H', h3, hn, k⟩)⟩
/-! ### Parts under a guard -/
theorem WpOp_more {s' : Env} {K K' : Option PV → Hp → Prop} (hs : s.le s') (he : ∀ o v, RO.ev gl s o = some v → RO.ev gl s' o = some v) (hN : ∀ {op : RI} {H : Hp} {r : PV × List Blk}, stepN (RO.ev gl s) H op = some r → stepN (RO.ev gl s') H op = some r) (hE : ∀ {op : RI} {H : Hp} {r : Option PV × Hp}, stepE (RO.ev gl s) H op = some r → stepE (RO.ev gl s') H op = some r)
    (hV : ∀ {l : List RO} {q : List PV}, evs (RO.ev gl s) l = some q → evs (RO.ev gl s') l = some q) (h : WpOp P gl e op s H K) (hK : ∀ r H, K r H → K' r H) : WpOp P gl e op s' H K' := by
  cases op
  case call =>
    obtain ⟨as, h1, h2⟩ := h
    exact ⟨as, hV h1, WpCall_mono h2 hK⟩
  case callP =>
    obtain ⟨as, as', r, h1, h2, h3, h4⟩ := h
    exact ⟨as, as', r, hV h1, h2, h3, hK _ _ h4⟩
  case callv =>
    rcases h with ⟨f, caps, as, h1, h2, h3⟩ | ⟨hee, b, as, r, H', h1, h2, h3, h4, h5⟩
    · exact .inl ⟨f, caps, as, he _ _ h1, hV h2, WpCall_mono h3 hK⟩
    · exact .inr ⟨hee, b, as, r, H', he _ _ h1, hV h2, h3, h4, hK _ _ h5⟩
  all_goals
    obtain ⟨r, x, h1, h2⟩ := h
    first
      | exact ⟨r, x, hN h1, hK _ _ h2⟩
      | exact ⟨r, x, hE h1, hK _ _ h2⟩
end
section
variable {ev ev' : RO → Option PV} {H : Hp}
theorem bind_more {α β : Type} {x y : Option α} {f g : α → Option β} {r : β} (h : x.bind f = some r) (hx : ∀ v, x = some v → y = some v) (hf : ∀ v, f v = some r → g v = some r) : y.bind g = some r := by
  rw [Option.bind_eq_some_iff] at h ⊢
  obtain ⟨v, h1, h2⟩ := h
  exact ⟨v, hx v h1, hf v h2⟩
theorem fillP_more (he : ∀ o v, ev o = some v → ev' o = some v) : ∀ {ps : List (Nat × Nat × RO)} {l q : List PV}, fillP ev ps l = some q → fillP ev' ps l = some q
  | [], l, q, h => h
  | (off, n, x) :: r, l, q, h => by
    simp only [fillP] at h ⊢
    refine bind_more h (he _) fun v h => ?_
    split at h
    · rename_i hc
      rw [if_pos hc]
      exact fillP_more he h
    · cases h
theorem fillE_more (he : ∀ o v, ev o = some v → ev' o = some v) {sz : Nat} : ∀ {ps : List (Nat × RO)} {l q : List PV}, fillE ev sz ps l = some q → fillE ev' sz ps l = some q
  | [], l, q, h => h
  | (i, x) :: r, l, q, h => by
    simp only [fillE] at h ⊢
    refine bind_more h (he _) fun v h => ?_
    split at h
    · rename_i hc
      rw [if_pos hc]
      exact fillE_more he h
    · cases h
theorem mmL_more (he : ∀ o v, ev o = some v → ev' o = some v) {mx : Bool} : ∀ {l : List RO} {x q : PV}, mmL ev mx x l = some q → mmL ev' mx x l = some q
  | [], x, q, h => h
  | y :: r, x, q, h => by
    simp only [mmL] at h ⊢
    exact bind_more h (he _) fun v h => bind_more h (fun _ h => h) fun _ h => mmL_more he h
theorem evs_more (he : ∀ o v, ev o = some v → ev' o = some v) : ∀ {l : List RO} {q : List PV}, evs ev l = some q → evs ev' l = some q
  | [], q, h => h
  | x :: r, q, h => by
    simp only [evs] at h ⊢
    exact bind_more h (he _) fun v h => bind_more h (fun _ h => evs_more he h) fun _ h => h
theorem stepN_more (he : ∀ o v, ev o = some v → ev' o = some v) {op : RI} {r : PV × List Blk} (h : stepN ev H op = some r) : stepN ev' H op = some r := by
  cases op <;> simp only [stepN] at h ⊢ <;> try (first | exact h | cases h)
  case move => exact bind_more h (he _) fun v h => h
  case pick =>
    refine bind_more h (he _) fun v h => ?_
    split at h
    · exact bind_more h (he _) fun v h => h
    · cases h
  case box => exact bind_more h (he _) fun v h => h
  case build => exact bind_more h (fun _ h => fillP_more he h) fun v h => h
  case bslice =>
    split at h
    · rename_i hc
      rw [if_pos hc]
      exact bind_more h (fun _ h => fillE_more he h) fun v h => h
    · cases h
  case load => exact bind_more h (he _) fun v h => h
  case loadF => exact bind_more h (he _) fun v h => h
  case bin => exact bind_more h (he _) fun v h => bind_more h (he _) fun v h => h
  case binb => exact bind_more h (he _) fun v h => bind_more h (he _) fun v h => h
  case eqs => exact bind_more h (he _) fun v h => bind_more h (he _) fun v h => h
  case un => exact bind_more h (he _) fun v h => h
  case conv => exact bind_more h (he _) fun v h => h
  case fieldAddr => exact bind_more h (he _) fun v h => h
  case field => exact bind_more h (he _) fun v h => h
  case idxAddr => exact bind_more h (he _) fun v h => bind_more h (he _) fun v h => h
  case idxAddrA => exact bind_more h (he _) fun v h => bind_more h (he _) fun v h => h
  case idx => exact bind_more h (he _) fun v h => bind_more h (he _) fun v h => h
  case extract => exact bind_more h (he _) fun v h => h
  case len => exact bind_more h (he _) fun v h => h
  case mm => exact bind_more h (he _) fun v h => bind_more h (fun _ h => mmL_more he h) fun v h => h
  case mkslice => exact bind_more h (he _) fun v h => h
  case mkfunc => exact bind_more h (fun _ h => evs_more he h) fun v h => h
  case appendF =>
    refine bind_more h (he _) fun v h => ?_
    split at h
    · exact bind_more h (he _) fun v h => h
    · cases h
  case prim => exact bind_more h (fun _ h => evs_more he h) fun v h => h
theorem stepE_more (he : ∀ o v, ev o = some v → ev' o = some v) {op : RI} {r : Option PV × Hp} (h : stepE ev H op = some r) : stepE ev' H op = some r := by
  cases op <;> simp only [stepE] at h ⊢ <;> try (first | exact h | cases h)
  case store => exact bind_more h (he _) fun v h => bind_more h (he _) fun v h => h
  case append => exact bind_more h (he _) fun v h => bind_more h (he _) fun v h => h
  case copy =>
    refine bind_more h (he _) fun v h => ?_
    split at h
    · exact bind_more h (fun _ h => h) fun v h => bind_more h (he _) fun v h => h
    · cases h
  case eprim => exact bind_more h (fun _ h => evs_more he h) fun v h => h
end
section
variable {P : Program} {gl : Nat → Option PV} {e : Bool}
theorem RO.ev_more {s s' : Env} (h : s.le s') : ∀ (o : RO) v, RO.ev gl s o = some v → RO.ev gl s' o = some v
  | .t n, v, hv => h n v hv
  | .c _, v, hv => hv
  | .g _, v, hv => hv
theorem Env.le_put {s s' : Env} (h : s.le s') (d : Option Nat) (r : Option PV) : (s.put d r).le (s'.put d r) := by
  cases d with
  | none => exact h
  | some d =>
    intro t p hp
    simp only [Env.put] at hp ⊢
    split
    · rename_i e; rw [if_pos e] at hp; exact hp
    · rename_i e; rw [if_neg e] at hp; exact h t p hp
theorem undef_le : ∀ {ds : List Nat} {s s' : Env}, s.le s' → (s.undef ds).le (s'.undef ds)
  | [], s, s', h => h
  | d :: r, s, s', h => undef_le (ds := r) (Env.le_put h (some d) (some (.tup [])))
theorem wpN_more : ∀ {N : Nodes} {s s' : Env} {H : Hp} {Q Q' : Env → Hp → Prop}, s.le s' → WpN P gl e N s H Q → (∀ a b H, a.le b → Q a H → Q' b H) → WpN P gl e N s' H Q'
  | .nil, s, s', H, Q, Q', hs, h, hQ => hQ _ _ _ hs h
  | .op d o bf l, s, s', H, Q, Q', hs, h, hQ => WpOp_more hs (RO.ev_more hs) (fun h => stepN_more (RO.ev_more hs) h) (fun h => stepE_more (RO.ev_more hs) h) (fun h => evs_more (RO.ev_more hs) h) h fun r H' hk => wpN_more (Env.le_put hs _ _) hk hQ
  | .grd t b sub l, s, s', H, Q, Q', hs, ⟨x, hx, h1, h2⟩, hQ => ⟨x, hs _ _ hx, fun hb => wpN_more hs (h1 hb) fun a b H hab h => wpN_more hab h hQ, fun hb => wpN_more (undef_le hs) (h2 hb) hQ⟩
theorem wn_more {N : Nodes} {s s' : Env} {H : Hp} {Q : Env → Hp → Prop} (hs : s.le s') (h : WN P gl e N s H Q) : WN P gl e N s' H Q :=
  wpN_more hs h fun a b H hab ⟨c, hc, hq⟩ => ⟨c, Env.le_trans hc hab, hq⟩
def Env.less (s : Env) (ds : List Nat) : Env := fun t => if ds.contains t then none else s t
variable {s : Env} {H : Hp} {l : Nodes} {Q : Env → Hp → Prop} {bf : Nat}
theorem less_le_undef {ds : List Nat} : (s.less ds).le (s.undef ds) := by
  intro t p hp
  simp only [Env.less] at hp
  split at hp
  · cases hp
  · rename_i h
    rw [undef_other (by simpa using h)]
    exact hp
theorem n_and {t p a : Nat} {sub : Nodes} {x y : Bool} (hx : s t = some (.bool x)) (ht : sub.dsts.contains t = false) (h : x = true → WN P gl e sub s H fun s1 H1 => s1 a = some (.bool y) ∧ H1 = H)
    (k : WN P gl e l ((s.less sub.dsts).put (some p) (some (.bool (x && y)))) H Q) : WN P gl e (.grd t true sub (.op (some p) (.pick (.t t) (.t a) (.c (.bool false))) bf l)) s H Q := by
  have ht' : t ∉ sub.dsts := by simpa using ht
  refine ⟨x, hx, fun hb => ?_, fun hb => ?_⟩
  · subst hb
    refine wpN_post (wpN_frame (h rfl)) fun s1 H1 ⟨⟨s', hs', ha, hH⟩, hfr⟩ => ?_
    subst hH
    refine ⟨.bool y, [], ?_, ?_⟩
    · have : s1 t = some (.bool true) := by rw [hfr t ht', hx]
      simp [stepN, RO.ev, this, hs' a _ ha]
    · refine wn_more (Env.le_put ?_ _ _) k
      intro u q hq
      simp only [Env.less] at hq
      split at hq
      · cases hq
      · rename_i hu
        rw [hfr u (by simpa using hu)]
        exact hq
  · simp only [Bool.not_true] at hb
    subst hb
    refine ⟨.bool false, [], ?_, ?_⟩
    · have : (s.undef sub.dsts) t = some (.bool false) := by rw [undef_other ht', hx]
      simp [stepN, RO.ev, this]
    · exact wn_more (Env.le_put less_le_undef _ _) k
theorem n_or {t p a : Nat} {sub : Nodes} {x y : Bool} (hx : s t = some (.bool x)) (ht : sub.dsts.contains t = false) (h : x = false → WN P gl e sub s H fun s1 H1 => s1 a = some (.bool y) ∧ H1 = H)
    (k : WN P gl e l ((s.less sub.dsts).put (some p) (some (.bool (x || y)))) H Q) : WN P gl e (.grd t false sub (.op (some p) (.pick (.t t) (.c (.bool true)) (.t a)) bf l)) s H Q := by
  have ht' : t ∉ sub.dsts := by simpa using ht
  refine ⟨x, hx, fun hb => ?_, fun hb => ?_⟩
  · subst hb
    refine wpN_post (wpN_frame (h rfl)) fun s1 H1 ⟨⟨s', hs', ha, hH⟩, hfr⟩ => ?_
    subst hH
    refine ⟨.bool y, [], ?_, ?_⟩
    · have : s1 t = some (.bool false) := by rw [hfr t ht', hx]
      simp [stepN, RO.ev, this, hs' a _ ha]
    · refine wn_more (Env.le_put ?_ _ _) k
      intro u q hq
      simp only [Env.less] at hq
      split at hq
      · cases hq
      · rename_i hu
        rw [hfr u (by simpa using hu)]
        exact hq
  · simp only [Bool.not_false] at hb
    subst hb
    refine ⟨.bool true, [], ?_, ?_⟩
    · have : (s.undef sub.dsts) t = some (.bool true) := by rw [undef_other ht', hx]
      simp [stepN, RO.ev, this]
    · exact wn_more (Env.le_put less_le_undef _ _) k
end
/-! ### Code -/
section
variable {P : Program} {gl : Nat → Option PV} {n0 : Nat} {s : Env} {H : Hp} {Q : Ex → Env → Hp → Prop}
theorem fnQ_normal {rs : List RRes} {R : PV → Hp → Prop} {r : PV} (h : retOf rs H s = some r) (k : R r H) : FnQ rs R .normal s H := ⟨r, h, k⟩
theorem fnQ_ret_soft {rs : List RRes} {r r' rr : PV} (h : retOf rs H s = some r) (h2 : soft H true r = some r') (h3 : r' = rr) : FnQ rs (fun r0 H' => soft H' true r0 = some rr) .ret s H := ⟨r, h, h2.trans (congrArg some h3)⟩
theorem seqQ_normal {b : RCode} (h : Tr P gl n0 b s H Q) : SeqQ P gl n0 b Q .normal s H := h
theorem seqQ_exit {b : RCode} {i : Nat} (h : Q (.exit i) s H) : SeqQ P gl n0 b Q (.exit i) s H := h
theorem seqQ_ret {b : RCode} (h : Q .ret s H) : SeqQ P gl n0 b Q .ret s H := h
theorem blkQ_normal {i : Nat} (h : Q .normal s H) : BlkQ i Q .normal s H := h
theorem blkQ_exit {i : Nat} (h : Q .normal s H) : BlkQ i Q (.exit i) s H := by unfold BlkQ; simpa using h
theorem blkQ_exit_ne {i j : Nat} (hne : (j == i) = false) (h : Q (.exit j) s H) : BlkQ i Q (.exit j) s H := by simp only [BlkQ]; rw [if_neg (by simpa using hne)]; exact h
theorem blkQ_ret {i : Nat} (h : Q .ret s H) : BlkQ i Q .ret s H := h
def CondT (P : Program) (gl : Nat → Option PV) (n0 : Nat) (t : Bool) (a b : RCode) (s : Env) (H : Hp) (Q : Ex → Env → Hp → Prop) : Prop := if t = true then Tr P gl n0 a s H Q else Tr P gl n0 b s H Q
theorem tr_cond_e {c : RO} {a b : RCode} {t : Bool} (h : c.ev gl s = some (.bool t)) (k : CondT P gl n0 t a b s H Q) : Tr P gl n0 (.cond c a b) s H Q := by
  cases t with
  | true => exact tr_cond h (fun _ => k) (by simp)
  | false => exact tr_cond h (by simp) (fun _ => k)
theorem condT_t {a b : RCode} (k : Tr P gl n0 a s H Q) : CondT P gl n0 true a b s H Q := k
theorem condT_f {a b : RCode} (k : Tr P gl n0 b s H Q) : CondT P gl n0 false a b s H Q := by unfold CondT; rw [if_neg (by simp)]; exact k
theorem condT_split {a b : RCode} {t : Bool} (k1 : t = true → Tr P gl n0 a s H Q) (k2 : t = false → Tr P gl n0 b s H Q) : CondT P gl n0 t a b s H Q := by
  cases t with
  | true => exact k1 rfl
  | false => exact condT_f (k2 rfl)
/-! ### From one frame and heap to another one -/
def chkH (H : Hp) (n : Nat) : List (Option Blk) → Nat → Prop
  | [], _ => True
  | none :: l, b => chkH H n l (b + 1)
  | some k :: l, b => (∃ k0, H.f b = some k0 ∧ k.g = k0.g ∧ k.sz = k0.sz ∧ fzP H n k0.xs = some k.xs) ∧ chkH H n l (b + 1)
theorem chkH_get {H : Hp} {n : Nat} : ∀ {l : List (Option Blk)} {b : Nat}, chkH H n l b → ∀ i k, l[i]? = some (some k) → ∃ k0, H.f (b + i) = some k0 ∧ k.g = k0.g ∧ k.sz = k0.sz ∧ fzP H n k0.xs = some k.xs
  | [], b, _, i, k, hk => by simp at hk
  | none :: l, b, h, i, k, hk => by
    cases i with
    | zero => simp at hk
    | succ i =>
      have := chkH_get (b := b + 1) h i k (by simpa using hk)
      rwa [show b + 1 + i = b + (i + 1) by omega] at this
  | some k' :: l, b, h, i, k, hk => by
    cases i with
    | zero =>
      simp only [List.getElem?_cons_zero, Option.some.injEq] at hk
      subst hk
      exact h.1
    | succ i =>
      have := chkH_get (b := b + 1) h.2 i k (by simpa using hk)
      rwa [show b + 1 + i = b + (i + 1) by omega] at this
def chkE (H : Hp) (n : Nat) (s : Env) : List (Nat × Option PV) → Prop
  | [] => True
  | (_, none) :: l => chkE H n s l
  | (t, some q) :: l => (∃ p, s t = some p ∧ fz H n p = some q) ∧ chkE H n s l
theorem ov_get {s : Env} : ∀ {L : List (Nat × Option PV)} {t : Nat} {q : PV}, s.ov L t = some q → (∃ r, (t, r) ∈ L ∧ r = some q) ∨ (t ∉ L.map (·.1) ∧ s t = some q)
  | [], t, q, h => .inr ⟨by simp, h⟩
  | (d, r) :: l, t, q, h => by
    simp only [Env.ov, Env.put] at h
    split at h
    · rename_i e
      exact .inl ⟨r, by simp [e], h⟩
    · rename_i e
      rcases ov_get h with ⟨r', h1, h2⟩ | ⟨h1, h2⟩
      · exact .inl ⟨r', by simp [h1], h2⟩
      · exact .inr ⟨by simp only [List.map_cons, List.mem_cons, not_or]; exact ⟨e, h1⟩, h2⟩
theorem chkE_get {H : Hp} {n : Nat} {s : Env} : ∀ {L : List (Nat × Option PV)}, chkE H n s L → ∀ t q, (t, some q) ∈ L → ∃ p, s t = some p ∧ fz H n p = some q
  | [], _, t, q, h => by simp at h
  | (d, none) :: l, hc, t, q, h => chkE_get (L := l) hc t q (by simpa using h)
  | (d, some r) :: l, hc, t, q, h => by
    simp only [List.mem_cons, Prod.mk.injEq, Option.some.injEq] at h
    rcases h with ⟨rfl, rfl⟩ | h
    · exact hc.1
    · exact chkE_get hc.2 t q h
theorem gh_to {s0 s : Env} {L : List (Nat × Option PV)} {l : List (Option Blk)} {n : Nat} (hn : l.length = n) (hn0 : n0 ≤ n) (hs : ∀ t p, t ∉ L.map (·.1) → s0 t = some p → s t = some p) (hb : ∀ t p, t ∉ L.map (·.1) → s0 t = some p → p.under n = true) (hE : chkE H n s L) (hH : chkH H n l 0) : Gh gl n0 s H (s0.ov L) (Hp.ofL l) := by
  subst hn
  refine gh_freeze hn0 (fun t q hq => ?_) (fun b k' hb hk => ?_)
  · rcases ov_get hq with ⟨r, h1, rfl⟩ | ⟨h1, h2⟩
    · exact chkE_get hE t q h1
    · exact ⟨q, hs t q h1 h2, fz_below (hb t q h1 h2)⟩
  · simp only [Hp.ofL] at hb hk
    have hk2 : l[b]? = some (some k') := by
      cases h : l[b]? with
      | none => rw [h] at hk; cases hk
      | some o => rw [h] at hk; exact congrArg some hk
    have := chkH_get hH b k' hk2
    rwa [Nat.zero_add] at this
theorem only_refl {s : Env} {ks : List Nat} : ∀ t p, t ∉ ks → s t = some p → s t = some p := fun _ _ _ h => h
theorem only_put {s0 s : Env} {ks : List Nat} {d : Nat} {r : Option PV} (hd : ks.contains d = true) (h : ∀ t p, t ∉ ks → s0 t = some p → s t = some p) : ∀ t p, t ∉ ks → s0 t = some p → s.put (some d) r t = some p := by
  intro t p ht hp
  simp only [Env.put]
  rw [if_neg (fun e => ht (by subst e; simpa using hd))]
  exact h t p ht hp
theorem only_less {s0 s : Env} {ks ds : List Nat} (hd : ds.all ks.contains = true) (h : ∀ t p, t ∉ ks → s0 t = some p → s t = some p) : ∀ t p, t ∉ ks → s0 t = some p → s.less ds t = some p := by
  intro t p ht hp
  simp only [Env.less]
  rw [if_neg (fun e => ht (by
    have := List.all_eq_true.1 hd t (by simpa using e)
    simpa using this))]
  exact h t p ht hp
theorem only_ov {s0 s : Env} {ks : List Nat} {L : List (Nat × Option PV)} (hd : (L.map (·.1)).all ks.contains = true) (h : ∀ t p, t ∉ ks → s0 t = some p → s t = some p) : ∀ t p, t ∉ ks → s0 t = some p → s.ov L t = some p := by
  induction L with
  | nil => exact h
  | cons x L ih =>
    simp only [List.map_cons, List.all_cons, Bool.and_eq_true] at hd
    exact only_put hd.1 (ih hd.2)
end
end Go.Vm
namespace Go.Vm
def owOf (l : List (Nat × Nat)) : Nat → Nat → Bool := fun r i => !l.contains (r, i)
end Go.Vm
namespace Go.Vm
section
variable {P : Program} {gl : Nat → Option PV} {ow : Nat → Nat → Bool} {f : FuncId} {c : RCode} {rs : List RRes} {args : List PV} {r : PV} {H : Hp}
theorem Pure.fn (hmix : P.follows .mixedOrders = true) (hf : fnOf P ow f = some ⟨c, rs⟩) (h : Tr P gl 0 c (envOf args) Hp.none (FnQ rs fun r0 H' => soft H' true r0 = some r)) : Pure P gl f args r := Pure.tr hmix hf h
theorem Fresh.fn (hmix : P.follows .mixedOrders = true) (hf : fnOf P ow f = some ⟨c, rs⟩) (h : Tr P gl 0 c (envOf args) Hp.none (FnQ rs fun r0 G => r0 = r ∧ G = H)) : Fresh P gl f args r H := Fresh.tr hmix hf h
theorem HSpec.fn {R : PV → Hp → Prop} (hmix : P.follows .mixedOrders = true) (hf : fnOf P ow f = some ⟨c, rs⟩) (h : Tr P gl H.n c (envOf args) H (FnQ rs R)) : HSpec P gl f args H R := HSpec.tr hmix hf h
end
end Go.Vm
namespace Go.Vm
theorem hn0 : Hp.none.n = 0 := rfl
theorem hn1 (H : Hp) (l : List Blk) : (H.add l).n = H.n + l.length := rfl
theorem hn2 (H : Hp) (b : Nat) (k : Blk) : (H.set b k).n = H.n := rfl
theorem hn3 (H G : Hp) : (H.addH G).n = H.n + G.n := rfl
theorem hn4 (l : List (Option Blk)) : (Hp.ofL l).n = l.length := rfl
end Go.Vm
namespace Go.Vm
open Go Go.RowKit
abbrev Calc := FuncId → List PV → Option PV
abbrev Fr := List (Nat × Option PV)
def Fr.get (t : Nat) : Fr → Option PV
  | [] => none
  | (d, r) :: l => bif d == t then r else get t l
def Fr.ins (d : Nat) (r : Option PV) : Fr → Fr
  | [] => [(d, r)]
  | (t, q) :: l => bif t == d then (d, r) :: l else (t, q) :: ins d r l
def Fr.env (l : Fr) : Env := fun t => l.get t
def Fr.put (l : Fr) (d : Option Nat) (r : Option PV) : Fr := match d with | none => l | some d => l.ins d r
theorem Fr.get_ins {d : Nat} {r : Option PV} {t : Nat} : ∀ {l : Fr}, (l.ins d r).get t = if t = d then r else l.get t
  | [] => by
    simp only [ins, get, cond_eq_ite, beq_iff_eq]
    by_cases h : t = d
    · simp [h]
    · have h' : ¬ d = t := fun e => h e.symm
      simp [h, h']
  | (u, q) :: l => by
    have ih := Fr.get_ins (d := d) (r := r) (t := t) (l := l)
    simp only [ins, cond_eq_ite, beq_iff_eq]
    split
    · rename_i h
      subst h
      simp only [get, cond_eq_ite, beq_iff_eq]
      by_cases h : u = t
      · simp [h]
      · have h' : ¬ t = u := fun e => h e.symm
        simp [h, h']
    · rename_i h
      simp only [get, cond_eq_ite, beq_iff_eq]
      rw [ih]
      by_cases h1 : u = t
      · have : t ≠ d := fun e => h (h1.trans e)
        simp [h1, this]
      · simp [h1]
theorem Fr.env_put (l : Fr) (d : Option Nat) (r : Option PV) : (l.put d r).env = l.env.put d r := by
  cases d with
  | none => rfl
  | some d => funext t; exact Fr.get_ins
def runCall (C : Calc) (H : Hp) (f : FuncId) (as : List PV) : Option PV :=
  match softs H false as with
  | some as' => C f as'
  | none => do
    let as' ← softs H true as
    let r ← C f as'
    if scal r then some r else none
def runOp (C : Calc) (gl : Nat → Option PV) (op : RI) (s : Fr) (H : Hp) : Option (Option PV × Hp) :=
  match op with
  | .call f args => do
    let as ← evs (RO.ev gl s.env) args
    let r ← runCall C H f as
    some (some r, H)
  | .callv x args => do
    match ← x.ev gl s.env with
    | .fn f caps => do
      let as ← evs (RO.ev gl s.env) args
      let r ← runCall C H f (as ++ caps)
      some (some r, H)
    | _ => none
  | .store n x v => stepE (RO.ev gl s.env) H (.store n x v)
  | .append n z x v => stepE (RO.ev gl s.env) H (.append n z x v)
  | .copy n x v => stepE (RO.ev gl s.env) H (.copy n x v)
  | .eprim t l => stepE (RO.ev gl s.env) H (.eprim t l)
  | op => do
    let (r, ext) ← stepN (RO.ev gl s.env) H op
    some (some r, H.app ext)
def runOps (C : Calc) (gl : Nat → Option PV) : List ROper → Fr → Hp → Option (Fr × Hp)
  | [], s, H => some (s, H)
  | o :: l, s, H =>
    match o.guard with
    | none => do
      let (r, H') ← runOp C gl o.op s H
      runOps C gl l (s.put o.dst r) H'
    | some (t, b) => do
      let p ← s.get t
      if p.goes b then do
        let (r, H') ← runOp C gl o.op s H
        runOps C gl l (s.put o.dst r) H'
      else runOps C gl l (s.put o.dst (some (.tup []))) H
def runLoop (body : Fr → Hp → Option (Ex × Fr × Hp)) : Nat → Fr → Hp → Option (Ex × Fr × Hp)
  | 0, _, _ => none
  | k + 1, s, H =>
    match body s H with
    | some (.normal, s', H') => runLoop body k s' H'
    | r => r
def runC (C : Calc) (gl : Nat → Option PV) (k : Nat) : RCode → Fr → Hp → Option (Ex × Fr × Hp)
  | .skip, s, H => some (.normal, s, H)
  | .region l _, s, H => do
    let (s', H') ← runOps C gl l s H
    some (.normal, s', H')
  | .seq a b, s, H =>
    match runC C gl k a s H with
    | some (.normal, s', H') => runC C gl k b s' H'
    | r => r
  | .cond c a b, s, H =>
    match c.ev gl s.env with
    | some (.bool true) => runC C gl k a s H
    | some (.bool false) => runC C gl k b s H
    | _ => none
  | .block id c, s, H =>
    match runC C gl k c s H with
    | some (.exit j, s', H') => if j = id then some (.normal, s', H') else some (.exit j, s', H')
    | r => r
  | .loop c, s, H => runLoop (runC C gl k c) k s H
  | .exit id, s, H => some (.exit id, s, H)
  | .ret, s, H => some (.ret, s, H)
  | .range .., _, _ => none
  | .nope, _, _ => none
def regsOk : RCode → Bool
  | .region l d => !d || regOk (eOf false) l
  | .seq a b | .cond _ a b => regsOk a && regsOk b
  | .block _ c | .loop c => regsOk c
  | _ => true
section
variable {P : Program} {gl : Nat → Option PV} {C : Calc}
theorem runCall_sound (hC : ∀ f as r, C f as = some r → Pure P gl f as r) {e : Bool} {H : Hp} {f : FuncId} {as : List PV} {r : PV} (h : runCall C H f as = some r) {K : Option PV → Hp → Prop} (k : K (some r) H) : WpCall P gl e f as H K := by
  unfold runCall at h
  split at h
  · rename_i as' hs
    exact .inl ⟨false, as', r, hs, hC _ _ _ h, by simp, k⟩
  · simp only [Option.bind_eq_bind, Option.bind_eq_some_iff] at h
    obtain ⟨as', hs, r', hr, h⟩ := h
    split at h
    · rename_i hsc
      injection h with h
      subst h
      exact .inl ⟨true, as', r', hs, hC _ _ _ hr, fun _ => hsc, k⟩
    · cases h
theorem runOp_sound (hC : ∀ f as r, C f as = some r → Pure P gl f as r) {e : Bool} {op : RI} {s : Fr} {H : Hp} {r : Option PV} {H' : Hp} (h : runOp C gl op s H = some (r, H')) {K : Option PV → Hp → Prop} (k : K r H') : WpOp P gl e op s.env H K := by
  cases op
  case call f args =>
    simp only [runOp, Option.bind_eq_bind, Option.bind_eq_some_iff, Option.some.injEq, Prod.mk.injEq] at h
    obtain ⟨as, h1, r', h2, rfl, rfl⟩ := h
    exact ⟨as, h1, runCall_sound hC h2 k⟩
  case callP f args => simp [runOp, stepN] at h
  case callv x args =>
    simp only [runOp, Option.bind_eq_bind, Option.bind_eq_some_iff] at h
    obtain ⟨q, hq, h⟩ := h
    split at h
    · simp only [Option.bind_eq_some_iff, Option.some.injEq, Prod.mk.injEq] at h
      obtain ⟨as, h1, r', h2, rfl, rfl⟩ := h
      exact .inl ⟨_, _, as, hq, h1, runCall_sound hC h2 k⟩
    · cases h
  case store => exact ⟨r, H', h, k⟩
  case append => exact ⟨r, H', h, k⟩
  case copy => exact ⟨r, H', h, k⟩
  case eprim => exact ⟨r, H', h, k⟩
  all_goals
    simp only [runOp, Option.bind_eq_bind, Option.bind_eq_some_iff, Option.some.injEq, Prod.mk.injEq] at h
    obtain ⟨⟨r', ext⟩, h1, rfl, rfl⟩ := h
    exact ⟨r', ext, h1, k⟩
theorem runOps_sound (hC : ∀ f as r, C f as = some r → Pure P gl f as r) {e : Bool} : ∀ {l : List ROper} {s s' : Fr} {H H' : Hp}, runOps C gl l s H = some (s', H') → ∀ {Q : Env → Hp → Prop}, Q s'.env H' → WpOps P gl e l s.env H Q
  | [], s, s', H, H', h, Q, k => by
    simp only [runOps, Option.some.injEq, Prod.mk.injEq] at h
    obtain ⟨rfl, rfl⟩ := h
    exact k
  | o :: l, s, s', H, H', h, Q, k => by
    unfold runOps at h
    have next : ∀ {r H1}, runOps C gl l (s.put o.dst r) H1 = some (s', H') → WpOps P gl e l (s.env.put o.dst r) H1 Q := by
      intro r H1 h1
      rw [← Fr.env_put]
      exact runOps_sound hC h1 k
    unfold WpOps
    rcases hg : o.guard with _ | ⟨t, b⟩
    · rw [hg] at h
      simp only [Option.bind_eq_bind, Option.bind_eq_some_iff] at h
      obtain ⟨⟨r, H1⟩, h1, h2⟩ := h
      exact runOp_sound hC (K := fun r H' => WpOps P gl e l (s.env.put o.dst r) H' Q) h1 (next h2)
    · rw [hg] at h
      simp only [Option.bind_eq_bind, Option.bind_eq_some_iff] at h
      obtain ⟨p, hp, h⟩ := h
      refine ⟨p, hp, fun hb => ?_, fun hb => ?_⟩
      · rw [if_pos hb] at h
        simp only [Option.bind_eq_some_iff] at h
        obtain ⟨⟨r, H1⟩, h1, h2⟩ := h
        exact runOp_sound hC (K := fun r H' => WpOps P gl e l (s.env.put o.dst r) H' Q) h1 (next h2)
      · rw [if_neg (by rw [hb]; simp)] at h
        exact ⟨0, fun _ => rfl, next h⟩
theorem WpOps_post {e : Bool} : ∀ (l : List ROper) (s : Env) (H : Hp) {Q Q' : Env → Hp → Prop}, WpOps P gl e l s H Q → (∀ s H, Q s H → Q' s H) → WpOps P gl e l s H Q'
  | [], s, H, Q, Q', h, hQ => hQ _ _ h
  | o :: l, s, H, Q, Q', h, hQ => by
    unfold WpOps at h ⊢
    rcases hg : o.guard with _ | ⟨t, b⟩
    · rw [hg] at h
      exact WpOp_mono h fun r H' hk => WpOps_post _ _ _ hk hQ
    · rw [hg] at h
      obtain ⟨p, hp, h1, h2⟩ := h
      exact ⟨p, hp, fun hb => WpOp_mono (h1 hb) fun r H' hk => WpOps_post _ _ _ hk hQ, fun hb => by
        obtain ⟨j, hj, h2⟩ := h2 hb
        exact ⟨j, hj, WpOps_post _ _ _ h2 hQ⟩⟩
theorem Wp_post' : ∀ (c : RCode) (s : Env) (H : Hp) (Q Q' : Ex → Env → Hp → Prop), Wp P gl c s H Q → (∀ e s H, Q e s H → Q' e s H) → Wp P gl c s H Q' := by
  intro c
  induction c with
  | skip => intro s H Q Q' h hQ; exact hQ _ _ _ h
  | exit id => intro s H Q Q' h hQ; exact hQ _ _ _ h
  | ret => intro s H Q Q' h hQ; exact hQ _ _ _ h
  | nope => intro s H Q Q' h hQ; exact h.elim
  | range x ps a b => intro s H Q Q' h hQ; exact h.elim
  | region l d => intro s H Q Q' h hQ; obtain ⟨e, h1, h2⟩ := h; exact ⟨e, h1, WpOps_post _ _ _ h2 fun s H => hQ _ s H⟩
  | seq a b iha ihb =>
    intro s H Q Q' h hQ
    refine iha _ _ _ _ h fun e s1 H1 hq => ?_
    cases e with
    | normal => exact ihb _ _ _ _ hq hQ
    | exit j => exact hQ _ _ _ hq
    | ret => exact hQ _ _ _ hq
  | cond c a b iha ihb =>
    intro s H Q Q' ⟨t, ht, h1, h2⟩ hQ
    exact ⟨t, ht, fun hb => iha _ _ _ _ (h1 hb) hQ, fun hb => ihb _ _ _ _ (h2 hb) hQ⟩
  | block id c ih =>
    intro s H Q Q' h hQ
    refine ih _ _ _ _ h fun e s1 H1 hq => ?_
    cases e with
    | normal => exact hQ _ _ _ hq
    | exit j =>
      simp only at hq ⊢
      split
      · rename_i hj; rw [if_pos hj] at hq; exact hQ _ _ _ hq
      · rename_i hj; rw [if_neg hj] at hq; exact hQ _ _ _ hq
    | ret => exact hQ _ _ _ hq
  | loop c ih =>
    intro s H Q Q' ⟨I, hI, h⟩ hQ
    refine ⟨I, hI, fun n s H hi => ih _ _ _ _ (h n s H hi) fun e s1 H1 hq => ?_⟩
    cases e with
    | normal => exact hq
    | exit j => exact hQ _ _ _ hq
    | ret => exact hQ _ _ _ hq
theorem Wp_post {c : RCode} {s : Env} {H : Hp} {Q Q' : Ex → Env → Hp → Prop} (h : Wp P gl c s H Q) (hQ : ∀ e s H, Q e s H → Q' e s H) : Wp P gl c s H Q' := Wp_post' c s H Q Q' h hQ
theorem runC_sound (hC : ∀ f as r, C f as = some r → Pure P gl f as r) {k : Nat} : ∀ (c : RCode) (s s' : Fr) (H H' : Hp) (e : Ex), regsOk c = true → runC C gl k c s H = some (e, s', H') → Wp P gl c s.env H fun e1 s1 H1 => e1 = e ∧ s1 = s'.env ∧ H1 = H' := by
  intro c
  induction c with
  | skip =>
    intro s s' H H' e _ h
    simp only [runC, Option.some.injEq, Prod.mk.injEq] at h
    obtain ⟨rfl, rfl, rfl⟩ := h
    exact ⟨rfl, rfl, rfl⟩
  | exit id =>
    intro s s' H H' e _ h
    simp only [runC, Option.some.injEq, Prod.mk.injEq] at h
    obtain ⟨rfl, rfl, rfl⟩ := h
    exact ⟨rfl, rfl, rfl⟩
  | ret =>
    intro s s' H H' e _ h
    simp only [runC, Option.some.injEq, Prod.mk.injEq] at h
    obtain ⟨rfl, rfl, rfl⟩ := h
    exact ⟨rfl, rfl, rfl⟩
  | nope =>
    intro s s' H H' e _ h
    cases h
  | range x ps a b =>
    intro s s' H H' e _ h
    cases h
  | region l d =>
    intro s s' H H' e hr h
    simp only [runC, Option.bind_eq_bind, Option.bind_eq_some_iff, Option.some.injEq, Prod.mk.injEq] at h
    obtain ⟨⟨s1, H1⟩, h1, rfl, rfl, rfl⟩ := h
    simp only [regsOk, Bool.or_eq_true, Bool.not_eq_true'] at hr
    refine ⟨false, fun hd => hr.resolve_left (by simp [hd]), ?_⟩
    exact runOps_sound hC h1 ⟨rfl, rfl, rfl⟩
  | seq a b iha ihb =>
    intro s s' H H' e hr h
    simp only [regsOk, Bool.and_eq_true] at hr
    unfold runC at h
    split at h
    · rename_i s1 H1 h1
      have := iha _ _ _ _ _ hr.1 h1
      unfold Wp
      refine Wp_post this fun e1 s2 H2 he => ?_
      obtain ⟨rfl, rfl, rfl⟩ := he
      exact ihb _ _ _ _ _ hr.2 h
    · rename_i hne
      unfold Wp
      refine Wp_post (iha _ _ _ _ _ hr.1 h) fun e1 s2 H2 he => ?_
      obtain ⟨rfl, rfl, rfl⟩ := he
      cases e1 with
      | normal => exact absurd h (hne _ _)
      | exit j => exact ⟨rfl, rfl, rfl⟩
      | ret => exact ⟨rfl, rfl, rfl⟩
  | cond c a b iha ihb =>
    intro s s' H H' e hr h
    simp only [regsOk, Bool.and_eq_true] at hr
    unfold runC at h
    split at h
    · rename_i hc
      exact ⟨true, hc, fun _ => iha _ _ _ _ _ hr.1 h, by simp⟩
    · rename_i hc
      exact ⟨false, hc, by simp, fun _ => ihb _ _ _ _ _ hr.2 h⟩
    · cases h
  | block id c ih =>
    intro s s' H H' e hr h
    unfold runC at h
    unfold Wp
    split at h
    · rename_i j s1 H1 h1
      refine Wp_post (ih _ _ _ _ _ hr h1) fun e1 s2 H2 he => ?_
      obtain ⟨rfl, rfl, rfl⟩ := he
      simp only
      split at h
      · rename_i hj
        simp only [Option.some.injEq, Prod.mk.injEq] at h
        rw [if_pos hj]
        obtain ⟨rfl, rfl, rfl⟩ := h
        exact ⟨rfl, rfl, rfl⟩
      · rename_i hj
        simp only [Option.some.injEq, Prod.mk.injEq] at h
        rw [if_neg hj]
        obtain ⟨rfl, rfl, rfl⟩ := h
        exact ⟨rfl, rfl, rfl⟩
    · rename_i hne
      refine Wp_post (ih _ _ _ _ _ hr h) fun e1 s2 H2 he => ?_
      obtain ⟨rfl, rfl, rfl⟩ := he
      cases e1 with
      | normal => exact ⟨rfl, rfl, rfl⟩
      | exit j => exact absurd h (hne _ _ _)
      | ret => exact ⟨rfl, rfl, rfl⟩
  | loop c ih =>
    intro s s' H H' e hr h
    unfold runC at h
    refine ⟨fun n s1 H1 => ∃ f : Fr, s1 = f.env ∧ runLoop (runC C gl k c) n f H1 = some (e, s', H'), ⟨k, s, rfl, h⟩, ?_⟩
    rintro n s1 H1 ⟨f, rfl, hn⟩
    cases n with
    | zero => cases hn
    | succ n =>
      unfold runLoop at hn
      split at hn
      · rename_i s2 H2 h2
        refine Wp_post (ih _ _ _ _ _ hr h2) fun e1 s3 H3 he => ?_
        obtain ⟨rfl, rfl, rfl⟩ := he
        exact ⟨n, Nat.lt_succ_self n, s2, rfl, hn⟩
      · rename_i hne
        refine Wp_post (ih _ _ _ _ _ hr hn) fun e1 s3 H3 he => ?_
        obtain ⟨rfl, rfl, rfl⟩ := he
        cases e1 with
        | normal => exact absurd hn (hne _ _)
        | exit j => exact ⟨rfl, rfl, rfl⟩
        | ret => exact ⟨rfl, rfl, rfl⟩
def frOf : Nat → List PV → Fr
  | _, [] => []
  | n, p :: l => (n, some p) :: frOf (n + 1) l
theorem frOf_get : ∀ {l : List PV} {n t : Nat}, (frOf n l).get t = if n ≤ t then l[t - n]? else none
  | [], n, t => by simp [frOf, Fr.get]
  | p :: l, n, t => by
    simp only [frOf, Fr.get, cond_eq_ite, beq_iff_eq]
    by_cases h : n = t
    · subst h; simp
    · rw [if_neg h, frOf_get]
      by_cases h2 : n ≤ t
      · rw [if_pos h2, if_pos (by omega), show t - n = (t - (n + 1)) + 1 by omega, List.getElem?_cons_succ]
      · rw [if_neg h2, if_neg (by omega)]
theorem frOf_env (l : List PV) : (frOf 0 l).env = envOf l := by
  funext t
  show (frOf 0 l).get t = l[t]?
  rw [frOf_get]
  simp
abbrev Tab := List (FuncId × RFn)
def Tab.get (f : FuncId) : Tab → Option RFn
  | [] => none
  | (g, K) :: l => bif g == f then some K else get f l
def clc (T : Tab) (gl : Nat → Option PV) (k : Nat) : Nat → Calc
  | 0, _, _ => none
  | d + 1, f, as => do
    let K ← T.get f
    match runC (clc T gl k d) gl k K.code (frOf 0 as) Hp.none with
    | some (.exit _, _, _) => none
    | some (_, s, H) => do
      let r ← retOf K.res H s.env
      soft H true r
    | none => none
def TabOk (P : Program) : Tab → Prop
  | [] => True
  | (f, K) :: l => (∃ ow, fnOf P ow f = some K) ∧ regsOk K.code = true ∧ TabOk P l
theorem TabOk.get {T : Tab} : TabOk P T → ∀ {f : FuncId} {K : RFn}, T.get f = some K → (∃ ow, fnOf P ow f = some K) ∧ regsOk K.code = true := by
  induction T with
  | nil => intro _ f K h; cases h
  | cons x l ih =>
    obtain ⟨g, K'⟩ := x
    rintro ⟨h1, h2, h3⟩ f K h
    simp only [Tab.get, cond_eq_ite, beq_iff_eq] at h
    split at h
    · rename_i e
      injection h with h
      subst e h
      exact ⟨h1, h2⟩
    · exact ih h3 h
theorem clc_sound (hmix : P.follows .mixedOrders = true) {T : Tab} (hT : TabOk P T) {k : Nat} : ∀ {d : Nat} {f : FuncId} {as : List PV} {r : PV}, clc T gl k d f as = some r → Pure P gl f as r
  | 0, f, as, r, h => by cases h
  | d + 1, f, as, r, h => by
    simp only [clc, Option.bind_eq_bind, Option.bind_eq_some_iff] at h
    obtain ⟨K, hK, h⟩ := h
    obtain ⟨⟨ow, hf⟩, hreg⟩ := hT.get hK
    split at h
    · cases h
    · rename_i e s H hne hrun
      simp only [Option.bind_eq_some_iff] at h
      obtain ⟨r0, hr0, hs⟩ := h
      have hw := runC_sound (P := P) (gl := gl) (fun f as r h => clc_sound hmix hT h) _ _ _ _ _ _ hreg hrun
      rw [frOf_env] at hw
      refine Pure.tr hmix hf (tr_mono (tr_wp hw) ?_)
      rintro e1 s1 H1 ⟨rfl, rfl, rfl⟩
      cases e1 with
      | normal => exact ⟨r0, hr0, hs⟩
      | exit j => exact (hne _ rfl).elim
      | ret => exact ⟨r0, hr0, hs⟩
    · cases h
end
end Go.Vm
namespace Go.Vm
open Go Go.RowKit
section
variable {P : Program} {gl : Nat → Option PV} {n0 : Nat} {s : Env} {H : Hp} {Q : Ex → Env → Hp → Prop}
def Told {α : Type} (s : Env) (ks : List Nat) (n : Nat) (md : α → List (Nat × Option PV)) (hl : α → List (Option Blk)) (y : α) (s' : Env) (H' : Hp) : Prop :=
  (∀ t p, t ∉ ks → s t = some p → s' t = some p) ∧ chkE H' n s' (md y) ∧ chkH H' n (hl y) 0
theorem Told.gh {α : Type} {s s' : Env} {H' : Hp} {ks : List Nat} {n : Nat} {md : α → List (Nat × Option PV)} {hl : α → List (Option Blk)} {y : α} (hn0 : n0 ≤ n) (hlen : (hl y).length = n) (hk : (md y).map (·.1) = ks) (hw : ∀ t p, s t = some p → p.under n = true) (h : Told s ks n md hl y s' H') :
    Gh gl n0 s' H' (s.ov (md y)) (Hp.ofL (hl y)) :=
  gh_to hlen hn0 (by rw [hk]; exact h.1) (fun t p _ hp => hw t p hp) h.2.1 h.2.2
def LoopV {α : Type} (s : Env) (ks : List Nat) (n : Nat) (md : α → List (Nat × Option PV)) (hl : α → List (Option Blk)) (inv : α → Prop) (mu : α → Nat) (x : α) (Q : Ex → Env → Hp → Prop) (e : Ex) (s' : Env) (H' : Hp) : Prop :=
  match e with
  | .normal => ∃ y, inv y ∧ mu y < mu x ∧ Told s ks n md hl y s' H'
  | e => Q e s' H'
theorem tr_loop_v {α : Type} {c : RCode} (n : Nat) (md : α → List (Nat × Option PV)) (hl : α → List (Option Blk)) (inv : α → Prop) (mu : α → Nat) (x0 : α) {ks : List Nat} (hk : ∀ x, (md x).map (·.1) = ks) (hlen : ∀ x, (hl x).length = n) (hH : H.n = n) (hn0 : n0 ≤ n) (h0 : inv x0)
    (hE : chkE H n s (md x0)) (hB : chkH H n (hl x0) 0) (h : ∀ x, inv x → Tr P gl n0 c (s.ov (md x)) (Hp.ofL (hl x)) (LoopV s ks n md hl inv mu x Q)) : Tr P gl n0 (.loop c) s H Q := by
  refine tr_wf fun hw => ?_
  rw [hH] at hw
  refine tr_loop (fun k s' H' => ∃ x, inv x ∧ mu x = k ∧ Gh gl n0 s' H' (s.ov (md x)) (Hp.ofL (hl x))) ⟨x0, h0, rfl, Told.gh hn0 (hlen x0) (hk x0) hw ⟨fun t p _ hp => hp, hE, hB⟩⟩ ?_
  rintro k s' H' ⟨x, hx, rfl, hg⟩
  refine tr_ghost hg (tr_mono (h x hx) fun e s1 H1 hq => ?_)
  cases e with
  | normal => obtain ⟨y, h1, h2, h3⟩ := hq; exact ⟨mu y, h2, y, h1, rfl, h3.gh hn0 (hlen y) (hk y) hw⟩
  | exit id => exact hq
  | ret => exact hq
mutual
theorem under_mono {k k' : Nat} (hk : k ≤ k') : ∀ (p : PV), p.under k = true → p.under k' = true
  | .agg l, h => by simp only [PV.under] at h ⊢; exact underL_mono hk l h
  | .tup l, h => by simp only [PV.under] at h ⊢; exact underL_mono hk l h
  | .lit l, h => by simp only [PV.under] at h ⊢; exact underL_mono hk l h
  | .fptr l, h => by simp only [PV.under] at h ⊢; exact underL_mono hk l h
  | .fn _ l, h => by simp only [PV.under] at h ⊢; exact underL_mono hk l h
  | .ref .., h => by simp only [PV.under, decide_eq_true_eq] at h ⊢; omega
  | .ptr .., h => by simp only [PV.under, decide_eq_true_eq] at h ⊢; omega
  | .cref .., h => by simp only [PV.under, decide_eq_true_eq] at h ⊢; omega
  | .mp _, h => by simp only [PV.under, decide_eq_true_eq] at h ⊢; omega
  | .yld _, h => by simp only [PV.under, decide_eq_true_eq] at h ⊢; omega
  | .ifc _ p, h => by simp only [PV.under] at h ⊢; exact under_mono hk p h
  | .int .., _ => rfl
  | .bool _, _ => rfl
  | .str _, _ => rfl
  | .nilp, _ => rfl
  | .nilf, _ => rfl
  | .nili, _ => rfl
  | .nilm, _ => rfl
  | .sl _, _ => rfl
  | .raw _, _ => rfl
  | .lp .., _ => rfl
theorem underL_mono {k k' : Nat} (hk : k ≤ k') : ∀ (l : List PV), underL k l = true → underL k' l = true
  | [], _ => rfl
  | x :: r, h => by
    simp only [underL, Bool.and_eq_true] at h ⊢
    exact ⟨under_mono hk x h.1, underL_mono hk r h.2⟩
end
theorem loopV_exit {α : Type} {s0 : Env} {ks : List Nat} {n : Nat} {md : α → List (Nat × Option PV)} {hl : α → List (Option Blk)} {inv : α → Prop} {mu : α → Nat} {x : α} {i : Nat} (h : Q (.exit i) s H) : LoopV s0 ks n md hl inv mu x Q (.exit i) s H := h
theorem loopV_ret {α : Type} {s0 : Env} {ks : List Nat} {n : Nat} {md : α → List (Nat × Option PV)} {hl : α → List (Option Blk)} {inv : α → Prop} {mu : α → Nat} {x : α} (h : Q .ret s H) : LoopV s0 ks n md hl inv mu x Q .ret s H := h
theorem loopV_normal {α : Type} {s0 : Env} {ks : List Nat} {n : Nat} {md : α → List (Nat × Option PV)} {hl : α → List (Option Blk)} {inv : α → Prop} {mu : α → Nat} {x : α} (y : α) (hs : ∀ t p, t ∉ ks → s0 t = some p → s t = some p) (hE : chkE H n s (md y)) (hB : chkH H n (hl y) 0) (hmu : mu y < mu x) (hi : inv y) : LoopV s0 ks n md hl inv mu x Q .normal s H := ⟨y, hi, hmu, hs, hE, hB⟩
def UnrQ (P : Program) (gl : Nat → Option PV) (n0 : Nat) (c : RCode) (Q : Ex → Env → Hp → Prop) : Nat → Ex → Env → Hp → Prop
  | 0, e, s, H => match e with | .normal => False | e => Q e s H
  | n + 1, e, s, H => match e with | .normal => Tr P gl n0 c s H (UnrQ P gl n0 c Q n) | e => Q e s H
theorem tr_unroll {c : RCode} (n : Nat) (h : Tr P gl n0 c s H (UnrQ P gl n0 c Q n)) : Tr P gl n0 (.loop c) s H Q := by
  refine tr_loop (fun n s H => Tr P gl n0 c s H (UnrQ P gl n0 c Q n)) h fun n s H h => tr_mono h fun e s1 H1 hq => ?_
  cases n with
  | zero => cases e with
    | normal => exact hq.elim
    | exit id => exact hq
    | ret => exact hq
  | succ n => cases e with
    | normal => exact ⟨n, Nat.lt_succ_self n, hq⟩
    | exit id => exact hq
    | ret => exact hq
theorem unrQ_normal {c : RCode} {n : Nat} (h : Tr P gl n0 c s H (UnrQ P gl n0 c Q n)) : UnrQ P gl n0 c Q (n + 1) .normal s H := h
theorem unrQ_exit {c : RCode} {n i : Nat} (h : Q (.exit i) s H) : UnrQ P gl n0 c Q n (.exit i) s H := by cases n <;> exact h
theorem unrQ_ret {c : RCode} {n : Nat} (h : Q .ret s H) : UnrQ P gl n0 c Q n .ret s H := by cases n <;> exact h
theorem tr_virt {c : RCode} (t sz n : Nat) (hH : H.n = n) (hn0 : n0 ≤ n) (h : s t = some (.lit [])) (k : Tr P gl n0 c (s.put (some t) (some (.ref n 0 0 0))) (H.add [⟨0, sz, []⟩]) Q) : Tr P gl n0 c s H Q := by
  subst hH
  exact tr_ghost (gh_virt t sz hn0 h) k
mutual
theorem pure1_underP (k : Nat) : ∀ (p : PV), pureI p = true → p.under k = true
  | .int .., _ => rfl
  | .bool _, _ => rfl
  | .str _, _ => rfl
  | .nilp, _ => rfl
  | .nilf, _ => rfl
  | .nili, _ => rfl
  | .nilm, _ => rfl
  | .sl _, _ => rfl
  | .raw _, _ => rfl
  | .agg l, h => by
    simp only [PV.under]
    exact pure1s_underL k l (by simpa [pureI] using h)
  | .fn _ l, h => by
    simp only [PV.under]
    exact pure1s_underL k l (by simpa [pureI, pure1] using h)
  | .fptr l, h => by
    simp only [PV.under]
    exact pure1s_underL k l (by simpa [pureI, pure1] using h)
  | .ifc t p, h => by
    simp only [PV.under]
    exact pure1_underP k p (by rw [← pure1_ifc t p]; exact h)
  | .tup _, h => by simp [pureI, pure1] at h
  | .lit _, h => by simp [pureI, pure1] at h
  | .ref .., h => by simp [pureI, pure1] at h
  | .ptr .., h => by simp [pureI, pure1] at h
  | .cref .., h => by simp [pureI, pure1] at h
  | .mp _, h => by simp [pureI, pure1] at h
  | .yld _, h => by simp [pureI, pure1] at h
  | .lp .., h => by simp [pureI, pure1] at h
theorem pure1s_underL (k : Nat) : ∀ (l : List PV), pure1s l = true → underL k l = true
  | [], _ => rfl
  | x :: r, h => by
    simp only [pure1s, Bool.and_eq_true] at h
    simp only [underL, Bool.and_eq_true]
    exact ⟨pure1_underP k x (pure1_I h.1), pure1s_underL k r h.2⟩
end
theorem pure1_under {p : PV} (h : pure1 p = true) (k : Nat) : p.under k = true := pure1_underP k p (pure1_I h)
theorem underL_pure {k : Nat} : ∀ {l : List PV}, l.all pure1 = true → underL k l = true
  | [], _ => rfl
  | x :: r, h => by
    simp only [List.all_cons, Bool.and_eq_true] at h
    simp only [underL, Bool.and_eq_true]
    exact ⟨pure1_under h.1 k, underL_pure h.2⟩
theorem pureE_under {p : PV} (h : pureE p = true) (k : Nat) : p.under k = true := by
  cases p
  case agg l =>
    simp only [PV.under]
    exact underL_pure (by simpa [pureE] using h)
  case tup l => simp [pureE] at h
  all_goals exact pure1_under h k
theorem fzP_pure {k : Nat} : ∀ {l : List PV}, l.all pureE = true → fzP H k l = some l
  | [], _ => rfl
  | x :: r, h => by
    simp only [List.all_cons, Bool.and_eq_true] at h
    simp only [fzP, fz_below (pureE_under h.1 k), fzP_pure h.2, Option.bind_eq_bind, Option.bind_some]
def ints (l : List Int) : List PV := l.map (.int .i64)
theorem ints_pure (l : List Int) : (ints l).all pureE = true := by simp [ints, pureE, pure1]
theorem ints_length (l : List Int) : (ints l).length = l.length := by simp [ints]
theorem ints_get (l : List Int) (i : Nat) : (ints l)[i]? = l[i]?.map (.int .i64) := by simp [ints]
end
end Go.Vm
namespace Go.Vm
section
variable {P : Program} {gl : Nat → Option PV} {n0 : Nat} {s : Env} {H : Hp} {Q : Ex → Env → Hp → Prop} {a b : RCode} {t : Bool}
theorem condT_T (h : t = true) (k : Tr P gl n0 a s H Q) : CondT P gl n0 t a b s H Q := by subst h; exact k
theorem condT_F (h : t = false) (k : Tr P gl n0 b s H Q) : CondT P gl n0 t a b s H Q := by subst h; exact condT_f k
end
end Go.Vm
namespace Go.Vm
section
variable {P : Program} {gl : Nat → Option PV} {e : Bool} {s : Env} {H : Hp} {l : Nodes} {Q : Env → Hp → Prop} {d : Option Nat} {bf : Nat}
theorem n_idx_ints {x i : RO} {k : IntKind} {xs : List Int} {c : Int} (hx : x.ev gl s = some (.sl (ints xs))) (hi : i.ev gl s = some (.int k c)) (h : 0 ≤ c ∧ c < (ints xs).length) (kk : WN P gl e l (s.put d (some (.fptr [.int .i64 (xs.getD c.toNat 0)]))) H Q) : WN P gl e (.op d (.idxAddr 1 x i) bf l) s H Q := by
  have hl : c.toNat < xs.length := by have := h.2; rw [ints_length] at this; omega
  refine n_idx_sl (y := .int .i64 (xs.getD c.toNat 0)) hx hi h.1 ?_ rfl kk
  rw [ints_get, List.getElem?_eq_getElem hl]
  simp [hl]
end
end Go.Vm
namespace Go.Vm
section
variable {P : Program} {gl : Nat → Option PV} {e : Bool} {s : Env} {H : Hp} {l : Nodes} {Q : Env → Hp → Prop} {d : Option Nat} {bf : Nat}
end
theorem wrap_i64_of {n : Int} (h : -9223372036854775808 ≤ n ∧ n ≤ 9223372036854775807) : IntKind.i64.wrap n = n := by rw [IntKind.wrap_i64]; omega
end Go.Vm
namespace Go.Vm
end Go.Vm
namespace Go.Vm
section
variable {P : Program} {gl : Nat → Option PV} {e : Bool} {s : Env} {H : Hp} {l : Nodes} {Q : Env → Hp → Prop} {bf : Nat}
theorem n_andF {t p a : Nat} {sub : Nodes} {x : Bool} (hx : s t = some (.bool x)) (ht : sub.dsts.contains t = false) (h : x = false) (k : WN P gl e l ((s.less sub.dsts).put (some p) (some (.bool false))) H Q) : WN P gl e (.grd t true sub (.op (some p) (.pick (.t t) (.t a) (.c (.bool false))) bf l)) s H Q :=
  n_and (y := false) hx ht (fun h' => by rw [h] at h'; cases h') (by rw [h]; exact k)
theorem n_orT {t p a : Nat} {sub : Nodes} {x : Bool} (hx : s t = some (.bool x)) (ht : sub.dsts.contains t = false) (h : x = true) (k : WN P gl e l ((s.less sub.dsts).put (some p) (some (.bool true))) H Q) : WN P gl e (.grd t false sub (.op (some p) (.pick (.t t) (.c (.bool true)) (.t a)) bf l)) s H Q :=
  n_or (y := true) hx ht (fun h' => by rw [h] at h'; cases h') (by rw [h]; exact k)
end
theorem zz : (∀ (p : Prop) [Decidable p], (decide p = true) = p) ∧ (∀ (p : Prop) [Decidable p], (decide p = false) = ¬ p) ∧ (∀ a b : Bool, ((a || b) = false) = (a = false ∧ b = false)) ∧ (∀ a b : Bool, ((a && b) = true) = (a = true ∧ b = true)) ∧ (∀ b : Bool, ((!b) = true) = (b = false)) ∧ (∀ b : Bool, ((!b) = false) = (b = true)) ∧ ((!true) = false) ∧ ((!false) = true) ∧
    (∀ l : List Int, (ints l).length = l.length) ∧ (∀ (α β : Type) (f : α → β) (l : List α), (l.map f).length = l.length) ∧ (∀ n : Nat, (n : Int).toNat = n) :=
  ⟨fun p _ => decide_eq_true_eq, fun p _ => propext decide_eq_false_iff_not, fun a b => propext Bool.or_eq_false_iff, fun a b => Bool.and_eq_true a b, fun b => Bool.not_eq_true' b, fun b => Bool.not_eq_false' b, rfl, rfl, ints_length, fun _ _ f l => List.length_map f, Int.toNat_natCast⟩
abbrev rf (n : Nodes) : RCode := .region (n.flat none) false
abbrev rt (n : Nodes) : RCode := .region (n.flat none) true
abbrev Nodes.o (d : Nat) (r : RI) (l : Nodes) : Nodes := .op (some d) r 0 l
abbrev RI.m (t : Nat) : RI := .move (.t t)
abbrev RO.i (n : Int) : RO := .c (.int .i64 n)
end Go.Vm
namespace Go.Vm
open Go Go.RowKit
section
variable {P : Program} {gl : Nat → Option PV} {n0 : Nat} {G H H' : Hp} {A : Nat → Prop} {w0 : World} {F F0 : Nat → Prop} {m m0 : Nat → Slot} {w w00 : World}
theorem sim_freeze (hm0 : ∀ b, n0 ≤ b → m0 b = .unborn) (sim : Sim gl A w0 F m w G) (ev : Ev F0 m0 w00 F m w) (hn : n0 ≤ H'.n) (hH : HpFz G H') :
    ∃ F' m', Sim gl A w0 F' m' w H' ∧ Ev F0 m0 w00 F' m' w ∧ (∀ b, H'.n ≤ b → m' b = .unborn) ∧ (∀ v p q, VRel F w m v p → fz G H'.n p = some q → VRel F' w m' v q) := by
  let m' : Nat → Slot := fun b => if b < H'.n then m b else .unborn
  let F' : Nat → Prop := fun β => F β ∨ ∃ b sz g, H'.n ≤ b ∧ m b = .live β sz g
  have m'lt : ∀ b, b < H'.n → m' b = m b := fun b hb => if_pos hb
  have m'ge : ∀ b, H'.n ≤ b → m' b = .unborn := fun b hb => if_neg (by omega)
  have live' : ∀ {b β}, (m' b).at = some β → b < H'.n ∧ (m b).at = some β := by
    intro b β h
    by_cases hb : b < H'.n
    · rw [m'lt b hb] at h; exact ⟨hb, h⟩
    · rw [m'ge b (by omega)] at h; cases h
  have hF : ∀ β, F β → F' β := fun β h => .inl h
  have hl : ∀ b β sz g, H'.n ≤ b → m b = .live β sz g → F' β := fun b β sz g h1 h2 => .inr ⟨b, sz, g, h1, h2⟩
  have rel : ∀ {v p q}, VRel F w m v p → fz G H'.n p = some q → VRel F' w m' v q := fun h hq => fz_rel sim hF m'lt hl h hq
  refine ⟨F', m', ⟨sim.below, fun b β h => ?_, fun b b' β h h' => sim.inj b b' β (live' h).2 (live' h').2, fun β h => ?_, fun β h => ?_, fun b k hk hnu => ?_, fun g p hp => (sim.glob g p hp).monoV ⟨hF, fun _ _ => rfl, fun _ _ => rfl, fun _ => trivial, fun _ _ h => by simp [noM, Slot.at] at h⟩⟩,
    ⟨ev.grow, fun β h => hF β (ev.frz β h), ev.fnl, ev.keep, fun β ⟨b, h⟩ => ev.fresh β ⟨b, (live' h).2⟩, ev.size, fun b => ?_, ev.liv, fun β h => h.elim (ev.nfz β) fun ⟨b, _, _, _, h⟩ => .inr (ev.fresh β ⟨b, at_live h⟩)⟩, fun b hb => m'ge b hb, fun v p q h hq => rel h hq⟩
  · obtain ⟨hb, h⟩ := live' h
    obtain ⟨a1, a2, a3⟩ := sim.live b β h
    refine ⟨a1, a2, fun hf => ?_⟩
    rcases hf with hf | ⟨b', sz', g', h1, h2⟩
    · exact a3 hf
    · have := sim.inj b b' β h (at_live h2)
      omega
  · rcases h with h | ⟨b, sz, g, _, h⟩
    · exact sim.frz β h
    · exact .inr (sim.live b β (at_live h)).1
  · rcases h with h | ⟨b, sz, g, _, h⟩
    · exact sim.frzlt β h
    · exact (sim.live b β (at_live h)).2.1
  · by_cases hb : b < H'.n
    · rw [m'lt b hb] at hnu ⊢
      obtain ⟨k0, hk0, e1, e2, e3⟩ := hH b k hb hk
      obtain ⟨el, eg⟩ := fzP_get e3
      rcases sim.blk b k0 hk0 hnu with ⟨β, hm, ⟨cs, T, h1, h2, h3, h4⟩⟩ | ⟨hv, hx⟩ | ⟨β, hm, hok⟩ | ⟨β, hm, hok⟩
      rotate_right
      · exact .inr (.inr (.inr ⟨β, hm, fzP_lp rel hok e3⟩))
      rotate_right
      · exact .inr (.inr (.inl ⟨β, hm, fzP_map hok e3⟩))
      · refine .inl ⟨β, by rw [e1, e2]; exact hm, cs, T, h1, by rw [e2, ← el]; exact h2, fun x hx => ?_, fun i hi j hj => ?_⟩
        · obtain ⟨i, hi, rfl⟩ := List.mem_iff_getElem.1 hx
          rw [e2, ← h3 _ (List.getElem_mem (show i < k0.xs.length by omega))]
          exact (fz_cells (eg i (by omega) hi)).1.symm
        · obtain ⟨c1, c2⟩ := fz_cells (eg i (by omega) hi)
          obtain ⟨v, hv, hrel⟩ := h4 i (by omega) j (by omega)
          rw [e2]
          exact ⟨v, hv, rel hrel (c2 j (by omega) hj)⟩
      · refine .inr (.inl ⟨by rw [e1]; exact hv, ?_⟩)
        rw [hx] at el
        exact List.eq_nil_of_length_eq_zero el.symm
    · exact absurd (m'ge b (by omega)) hnu
  · by_cases hb : b < H'.n
    · rw [m'lt b hb]; exact ev.slot b
    · have : m0 b = .unborn := hm0 b (by omega)
      rw [this]; trivial
theorem hpfz_ofL {G : Hp} {l : List (Option Blk)} (h2 : chkH G l.length l 0) : HpFz G (Hp.ofL l) := by
  intro b k' hb hk
  simp only [Hp.ofL] at hb hk
  have hk2 : l[b]? = some (some k') := by
    cases h : l[b]? with
    | none => rw [h] at hk; cases hk
    | some o => rw [h] at hk; exact congrArg some hk
  have := chkH_get h2 b k' hk2
  rwa [Nat.zero_add] at this
theorem HSpec.cut {f : FuncId} {args : List PV} {R0 R : PV → Hp → Prop} (h : HSpec P gl f args H R0) (k : ∀ r G, R0 r G → ∃ r' H', H.n ≤ H'.n ∧ fz G H'.n r = some r' ∧ HpFz G H' ∧ R r' H') : HSpec P gl f args H R := by
  refine ⟨h.1, fun A w0 F m w vs sim hU hvs => (h.2 A w0 F m w vs sim hU hvs).mono ?_⟩
  rintro e w' ⟨v, F1, m1, r, G, rfl, hR, sim1, hU1, ev1, hrel⟩
  obtain ⟨r', H', h1, h2, h3, h4⟩ := k r G hR
  obtain ⟨F', m', s', e', u', rel⟩ := sim_freeze (n0 := H.n) hU sim1 ev1 h1 h3
  exact ⟨v, F', m', r', H', rfl, h4, s', u', e', rel v r r' hrel h2⟩
theorem Fresh.cut {f : FuncId} {args : List PV} {r r' : PV} {G K : Hp} (h : Fresh P gl f args r G) (h1 : fz G K.n r = some r') (h2 : HpFz G K) : Fresh P gl f args r' K := by
  refine ⟨h.1, fun A w vs hA hg hvs => (h.2 A w vs hA hg hvs).mono ?_⟩
  rintro e w' ⟨v, F1, m1, rfl, sim1, hU1, hF, hrel⟩
  have ev : Ev A noM w F1 m1 w' := ⟨sim1.below.size, hF, fun β hb => ⟨hA β hb, fun ⟨b, e⟩ => by simp [noM, Slot.at] at e⟩, fun β hb _ => sim1.below.block β hb, fun β ⟨b, e⟩ => .inr (sim1.live b β e).1,
    fun β hb => by unfold rowSize; rw [sim1.below.block β hb], fun b => trivial, fun b β e => by simp [noM, Slot.at] at e, fun β h => (sim1.frz β h).elim .inl fun h => .inr (.inr h)⟩
  obtain ⟨F', m', s', e', u', rel⟩ := sim_freeze (n0 := 0) (H' := K) (fun b _ => rfl) sim1 ev (Nat.zero_le _) h2
  exact ⟨v, F', m', rfl, s', u', e'.frz, rel v r r' hrel h1⟩
theorem Fresh.fnL {ow : Nat → Nat → Bool} {f : FuncId} {c : RCode} {rs : List RRes} {args : List PV} {r' : PV} {l : List (Option Blk)} (hmix : P.follows .mixedOrders = true) (hf : fnOf P ow f = some ⟨c, rs⟩)
    (h : Tr P gl 0 c (envOf args) Hp.none (FnQ rs fun r0 G => fz G l.length r0 = some r' ∧ chkH G l.length l 0)) : Fresh P gl f args r' (Hp.ofL l) := by
  refine ⟨(fnOf_spec hf).1, fun A w vs hA hg hvs => ?_⟩
  refine (calls_tr (H := Hp.none) hmix hf h (Sim.none hA hg) (fun _ _ => rfl) hvs).mono ?_
  rintro e w' ⟨v, F1, m1, r, G, rfl, ⟨h1, h2⟩, sim1, hU1, ev, hrel⟩
  obtain ⟨F', m', s', e', u', rel⟩ := sim_freeze (n0 := 0) (H' := Hp.ofL l) (fun b _ => rfl) sim1 ev (Nat.zero_le _) (hpfz_ofL h2)
  exact ⟨v, F', m', rfl, s', u', e'.frz, rel v r r' hrel h1⟩
theorem HSpec.fnL {ow : Nat → Nat → Bool} {f : FuncId} {c : RCode} {rs : List RRes} {args : List PV} {r' : PV} {l : List (Option Blk)} (hn : H.n ≤ l.length) (hmix : P.follows .mixedOrders = true) (hf : fnOf P ow f = some ⟨c, rs⟩)
    (h : Tr P gl H.n c (envOf args) H (FnQ rs fun r0 G => fz G l.length r0 = some r' ∧ chkH G l.length l 0)) : HSpec P gl f args H (fun r0 G => r0 = r' ∧ G = Hp.ofL l) := by
  refine HSpec.cut (HSpec.fn hmix hf h) ?_
  rintro r G ⟨h1, h2⟩
  exact ⟨r', Hp.ofL l, hn, h1, hpfz_ofL h2, rfl, rfl⟩
theorem Fresh.pure {f : FuncId} {args : List PV} {r r' : PV} {K : Hp} (h : Fresh P gl f args r K) (h2 : soft K true r = some r') : Pure P gl f args r' := by
  refine ⟨h.1, fun A w vs hA hg hvs => (h.2 A w vs hA hg hvs).mono ?_⟩
  rintro e w' ⟨v, F', m', rfl, sim, hU, hF, hrel⟩
  refine ⟨v, rfl, sim.below, ?_⟩
  exact soft_rel sim (fun _ _ h => h) (fun β h => by
    rcases sim.frz β h with h' | h'
    · exact .inl h'
    · exact .inr ⟨h', sim.frzlt β h⟩) (fun _ β h1 h2 => .inr ⟨h1, h2⟩) hrel h2
end
section
variable {gl : Nat → Option PV} {s : Env} {H : Hp}
theorem fnQ_told_ret {rs : List RRes} {l : List (Option Blk)} {r r' : PV} (h : retOf rs H s = some r) (h1 : fz H l.length r = some r') (h2 : chkH H l.length l 0) : FnQ rs (fun r0 G => fz G l.length r0 = some r' ∧ chkH G l.length l 0) .ret s H := ⟨r, h, h1, h2⟩
end
end Go.Vm
namespace Go.Vm
open Go Go.RowKit
inductive ShL (n : Nat) : List (Option Blk) → List (Option Blk) → Prop
  | nil : ShL n [] []
  | none {l l' : List (Option Blk)} (h : ShL n l l') : ShL n (none :: l) (none :: l')
  | some {g sz : Nat} {xs xs' : List PV} {l l' : List (Option Blk)} (hx : shiftPs n xs = .some xs') (h : ShL n l l') : ShL n (.some ⟨g, sz, xs⟩ :: l) (.some ⟨g, sz, xs'⟩ :: l')
theorem ShL.length {n : Nat} {l l' : List (Option Blk)} (h : ShL n l l') : l.length = l'.length := by
  induction h <;> simp [*]
theorem ShL.get {n : Nat} {l l' : List (Option Blk)} (h : ShL n l l') : ∀ i : Nat, (l'[i]?).join = ((l[i]?).join).bind (shiftB n) := by
  induction h with
  | nil => intro i; simp
  | none h ih => intro i; cases i with
    | zero => rfl
    | succ i => simpa using ih i
  | some hx h ih => intro i; cases i with
    | zero => simp [shiftB, hx]
    | succ i => simpa using ih i
def Hp.addO (H : Hp) (l : List (Option Blk)) : Hp := ⟨H.n + l.length, fun c => if c < H.n then H.f c else (l[c - H.n]?).join, fun c hc => by
  rw [if_neg (by omega), List.getElem?_eq_none (by omega)]
  rfl⟩
theorem hn5 (H : Hp) (l : List (Option Blk)) : (H.addO l).n = H.n + l.length := rfl
theorem addH_ofL {H : Hp} {n : Nat} (hn : H.n = n) {l l' : List (Option Blk)} (h : ShL n l l') : H.addH (Hp.ofL l) = H.addO l' := by
  subst hn
  refine Hp.ext ?_ ?_
  · show H.n + l.length = H.n + l'.length
    rw [h.length]
  · funext c
    show (if c < H.n then H.f c else ((l[c - H.n]?).join).bind (shiftB H.n)) = (if c < H.n then H.f c else (l'[c - H.n]?).join)
    rw [h.get]
theorem shift1_pure {n : Nat} {p : PV} (h : pure1 p = true) : shift1 n p = some p := by unfold shift1 shiftN; rw [if_pos h]
theorem shiftL_pure {n : Nat} : ∀ {l : List PV}, l.all pure1 = true → shiftL n l = some l
  | [], _ => rfl
  | x :: r, h => by
    simp only [List.all_cons, Bool.and_eq_true] at h
    simp only [shiftL, shift1_pure h.1, shiftL_pure h.2, Option.bind_eq_bind, Option.bind_some]
theorem shiftP_pure {n : Nat} {p : PV} (h : pureE p = true) : shiftP n p = some p := by
  cases p
  case agg l => simp only [shiftP, shift0, shiftL_pure (l := l) (by simpa [pureE] using h), Option.map_some]
  case tup l => simp [pureE, pure1] at h
  all_goals
    unfold shiftP shift0
    exact shift1_pure (by exact h)
theorem shiftPs_pure {n : Nat} : ∀ {l : List PV}, l.all pureE = true → shiftPs n l = some l
  | [], _ => rfl
  | x :: r, h => by
    simp only [List.all_cons, Bool.and_eq_true] at h
    simp only [shiftPs, shiftP_pure h.1, shiftPs_pure h.2, Option.bind_eq_bind, Option.bind_some]
section
variable {P : Program} {gl : Nat → Option PV} {e : Bool} {s : Env} {H : Hp} {l : Nodes} {Q : Env → Hp → Prop} {d : Option Nat} {bf : Nat}
theorem n_freshL {f : FuncId} {args : List RO} {as as' : List PV} {r r' : PV} {bl bl' : List (Option Blk)} {n : Nat} (hn : H.n = n) (h1 : evs (RO.ev gl s) args = some as) (h2 : softs H false as = some as') (h3 : Fresh P gl f as' r (Hp.ofL bl)) (h4 : shiftP n r = some r') (h5 : ShL n bl bl') (k : WN P gl e l (s.put d (some r')) (H.addO bl') Q) : WN P gl e (.op d (.call f args) bf l) s H Q :=
  n_fresh hn h1 h2 h3 h4 (by rw [addH_ofL hn h5]; exact k)
end
end Go.Vm
