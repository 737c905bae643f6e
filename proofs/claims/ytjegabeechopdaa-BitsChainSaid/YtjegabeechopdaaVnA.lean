/- Rules, one an instruction. -/
import Derived.Test.YtjegabeechopdaaVmZ
set_option linter.unusedSimpArgs false
set_option linter.unusedVariables false
namespace Go.Vm
open Go Go.RowKit

theorem Hp.n_none : Hp.none.n = 0 := rfl
theorem Hp.n_app (H : Hp) (l : List Blk) : (H.app l).n = H.n + l.length := by rw [Hp.app_eq]; rfl
theorem Hp.n_add (H : Hp) (l : List Blk) : (H.add l).n = H.n + l.length := rfl
theorem Hp.n_set (H : Hp) (b : Nat) (k : Blk) : (H.set b k).n = H.n := rfl
theorem Hp.n_addH (H G : Hp) : (H.addH G).n = H.n + G.n := rfl

/-- A heap, block by block; some that nothing is known of. -/
def Hp.ofL (l : List (Option Blk)) : Hp := ⟨l.length, fun b => (l[b]?).join, fun b hb => by rw [List.getElem?_eq_none hb]; rfl⟩
theorem Hp.n_ofL (l : List (Option Blk)) : (Hp.ofL l).n = l.length := rfl

/-- A frame that tells of some temporaries otherwise. -/
def Env.ov (s : Env) : List (Nat × Option PV) → Env
  | [] => s
  | (d, r) :: l => (Env.ov s l).put (some d) r

/-- A comparison leaf by leaf, as one bool. -/
def eqAll (l r : List PV) : List (Nat × Nat) → Option Bool
  | [] => some true
  | o :: os => do
    let x ← l[o.1]?
    let y ← r[o.1]?
    let b ← eq1 o.2 x y
    let c ← eqAll l r os
    some (b && c)

theorem eqAll_eqL {l r : List PV} : ∀ {os : List (Nat × Nat)} {b : Bool}, eqAll l r os = some b → eqL l r os = some b
  | [], b, h => h
  | o :: os, b, h => by
    simp only [eqAll, Option.bind_eq_bind, Option.bind_eq_some_iff, Option.some.injEq] at h
    obtain ⟨x, hx, y, hy, c, hc, d, hd, rfl⟩ := h
    simp only [eqL, hx, hy, hc, Option.bind_eq_bind, Option.bind_some]
    cases c with
    | true => simpa using eqAll_eqL hd
    | false => rfl

def RI.plain : RI → Bool
  | .call .. | .callv .. | .store .. | .append .. | .copy .. => false
  | _ => true

section
variable {P : Program} {gl : Nat → Option PV} {e : Bool} {s : Env} {H : Hp} {l : Nodes} {Q : Env → Hp → Prop} {d : Option Nat} {op : RI} {bf : Nat}

theorem n_nil (h : Q s H) : WN P gl e .nil s H Q := ⟨s, Env.le_refl s, h⟩

theorem WpOp_plain {K : Option PV → Hp → Prop} (hp : op.plain = true) {r : PV} {ext : List Blk} (h : stepN (RO.ev gl s) H op = some (r, ext)) (k : K (some r) (H.app ext)) : WpOp P gl e op s H K := by
  cases op <;> first | (exact ⟨r, ext, h, k⟩) | (simp [RI.plain] at hp)

/-- Nothing made. -/
theorem n_val (hp : op.plain = true) {r : PV} (h : stepN (RO.ev gl s) H op = some (r, [])) (k : WN P gl e l (s.put d (some r)) H Q) : WN P gl e (.op d op bf l) s H Q := WpOp_plain hp h k
/-- One block made. -/
theorem n_new (hp : op.plain = true) {n : Nat} (hn : H.n = n) {k : Blk} (h : stepN (RO.ev gl s) H op = some (.ptr H.n 0 0 0, [k])) (kk : WN P gl e l (s.put d (some (.ptr n 0 0 0))) (H.add [k]) Q) : WN P gl e (.op d op bf l) s H Q := by
  subst hn
  exact WpOp_plain hp h kk
theorem n_row (hp : op.plain = true) {n len : Nat} (hn : H.n = n) {k : Blk} (h : stepN (RO.ev gl s) H op = some (.ref H.n 0 0 len, [k])) (kk : WN P gl e l (s.put d (some (.ref n 0 0 len))) (H.add [k]) Q) : WN P gl e (.op d op bf l) s H Q := by
  subst hn
  exact WpOp_plain hp h kk
/-- A row of so many zeros. -/
theorem n_mkslice {sz : Nat} {z : PV} {x : RO} {c : Int} {n : Nat} (hx : x.ev gl s = some (.int .i64 c)) (hz : z.cells.length = sz) (hc : 0 ≤ c ∧ c ≤ 1048576) (hn : H.n = n) (k : WN P gl e l (s.put d (some (.ref n 0 0 c.toNat))) (H.add [⟨0, sz, List.replicate c.toNat z⟩]) Q) : WN P gl e (.op d (.mkslice sz z x) bf l) s H Q := by
  subst hn
  have h : stepN (RO.ev gl s) H (.mkslice sz z x) = some (.ref H.n 0 0 c.toNat, [⟨0, sz, List.replicate c.toNat z⟩]) := by simp [stepN, hx, hz, hc]
  have kk : WpOp P gl e (.mkslice sz z x) s H fun r H' => WpN P gl e l (s.put d r) H' fun s1 H1 => ∃ s', s'.le s1 ∧ Q s' H1 := WpOp_plain rfl h k
  exact kk

theorem n_eqs {ne : Bool} {ls : List (Nat × Nat)} {x y : RO} {lx ly : List PV} {b : Bool} (hx : x.ev gl s = some (.agg lx)) (hy : y.ev gl s = some (.agg ly)) (h : eqAll lx ly ls = some b) (k : WN P gl e l (s.put d (some (.bool (if ne then !b else b)))) H Q) : WN P gl e (.op d (.eqs ne ls x y) bf l) s H Q :=
  n_val rfl (by simp [stepN, hx, hy, eqAll_eqL h]) k
theorem n_eqs_f {ls : List (Nat × Nat)} {x y : RO} {lx ly : List PV} {b : Bool} (hx : x.ev gl s = some (.agg lx)) (hy : y.ev gl s = some (.agg ly)) (h : eqAll lx ly ls = some b) (k : WN P gl e l (s.put d (some (.bool b))) H Q) : WN P gl e (.op d (.eqs false ls x y) bf l) s H Q := n_eqs hx hy h k
theorem n_eqs_t {ls : List (Nat × Nat)} {x y : RO} {lx ly : List PV} {b : Bool} (hx : x.ev gl s = some (.agg lx)) (hy : y.ev gl s = some (.agg ly)) (h : eqAll lx ly ls = some b) (k : WN P gl e l (s.put d (some (.bool (!b)))) H Q) : WN P gl e (.op d (.eqs true ls x y) bf l) s H Q := n_eqs hx hy h k

theorem n_store {n b g i off sz : Nat} {x v : RO} {p : PV} {xs xs' : List PV} (hx : x.ev gl s = some (.ptr b g i off)) (hv : v.ev gl s = some p) (hb : H.f b = some ⟨g, sz, xs⟩) (hn : (p.cells.length == n && p.cells.all PV.one) = true) (hp : putAt xs i off p = some xs') (k : WN P gl e l (s.put d none) (H.set b ⟨g, sz, xs'⟩) Q) : WN P gl e (.op d (.store n x v) bf l) s H Q := by
  refine ⟨none, _, ?_, k⟩
  simp only [Bool.and_eq_true, beq_iff_eq] at hn
  simp [stepE, hx, hv, Hp.blk, hb, hn.1, hp]
  exact List.all_eq_true.1 hn.2

/-- Are values of so many cells, each of one? -/
def cellsOk (sz : Nat) (l : List PV) : Bool := l.all fun y => y.cells.length == sz && y.cells.all PV.one

theorem n_append {sz b g len : Nat} {z : PV} {x v : RO} {p : PV} {xs ys : List PV} (hx : x.ev gl s = some (.ref b g 0 len)) (hv : v.ev gl s = some p) (hb : H.f b = some ⟨g, sz, xs⟩) (hl : len = xs.length) (he : elems H p = some ys) (ho : cellsOk sz ys = true) (hm : xs.length + ys.length ≤ 1048576)
    {len' : Nat} (hl' : (xs ++ ys).length = len') (k : WN P gl e l (s.put d (some (.ref b (g + 1) 0 len'))) (H.set b ⟨g + 1, sz, xs ++ ys⟩) Q) : WN P gl e (.op d (.append sz z x v) bf l) s H Q := by
  subst hl
  subst hl'
  refine ⟨some (.ref b (g + 1) 0 (xs.length + ys.length)), H.set b ⟨g + 1, sz, xs ++ ys⟩, ?_, by rw [List.length_append] at k; exact k⟩
  have h1 : (ys.all (fun y => y.cells.length == sz && y.cells.all PV.one) && decide ((PV.ref b g 0 xs.length).lenP.getD 0 + ys.length ≤ 1048576)) = true := by
    rw [show ys.all (fun y => y.cells.length == sz && y.cells.all PV.one) = true from ho]
    simp [PV.lenP, hm]
  simp only [stepE, hx, hv, he, Option.bind_eq_bind, Option.bind_some, Hp.blk, hb, if_true, h1, and_self]

theorem n_append_lit {sz : Nat} {z : PV} {x v : RO} {p : PV} {xs ys : List PV} {n len : Nat} (hx : x.ev gl s = some (.lit xs)) (hv : v.ev gl s = some p) (he : elems H p = some ys) (ho : cellsOk sz (xs ++ ys) = true) (hne : ys.isEmpty = false) (hm : xs.length + ys.length ≤ 1048576) (hn : H.n = n) (hl : (xs ++ ys).length = len)
    (k : WN P gl e l (s.put d (some (.ref n 0 0 len))) (H.add [⟨0, sz, xs ++ ys⟩]) Q) : WN P gl e (.op d (.append sz z x v) bf l) s H Q := by
  subst hn
  subst hl
  refine ⟨some (.ref H.n 0 0 (xs.length + ys.length)), H.add [⟨0, sz, xs ++ ys⟩], ?_, by rw [List.length_append] at k; exact k⟩
  simp only [cellsOk, List.all_append, Bool.and_eq_true] at ho
  have h1 : (ys.all (fun y => y.cells.length == sz && y.cells.all PV.one) && decide ((PV.lit xs).lenP.getD 0 + ys.length ≤ 1048576)) = true := by
    rw [ho.2]
    simp [PV.lenP, hm]
  have h2 : (xs.all (fun y => y.cells.length == sz && y.cells.all PV.one) && !ys.isEmpty) = true := by
    rw [ho.1, hne]; rfl
  simp only [stepE, hx, hv, he, Option.bind_eq_bind, Option.bind_some, h1, h2, if_true]

theorem n_appendF {sz : Nat} {z : PV} {x v : RO} {p : PV} {xs ys : List PV} (hx : x.ev gl s = some (.lit xs)) (hv : v.ev gl s = some p) (he : elems H p = some ys) (ho : ((xs ++ ys).all fun y => y.cells.length == sz && y.cells.all pureF) = true) (hm : (xs ++ ys).length ≤ 1048576)
    (k : WN P gl e l (s.put d (some (.sl (xs ++ ys)))) H Q) : WN P gl e (.op d (.appendF sz z x v) bf l) s H Q := by
  refine n_val rfl ?_ k
  simp only [stepN, hx, hv, he, Option.bind_eq_bind, Option.bind_some]
  rw [if_pos (by rw [ho]; simpa using hm)]

theorem n_copy {sz b g off len : Nat} {x v : RO} {p : PV} {xs ys : List PV} (hx : x.ev gl s = some (.ref b g off len)) (hv : v.ev gl s = some p) (hb : H.f b = some ⟨g, sz, xs⟩) (he : elems H p = some ys) (ho : cellsOk sz (ys.take (min ys.length len)) = true) (hm : off + len ≤ xs.length)
    (k : WN P gl e l (s.put d (some (.int .i64 (min ys.length len : Nat)))) (H.set b ⟨g, sz, splice xs off (ys.take (min ys.length len))⟩) Q) : WN P gl e (.op d (.copy sz x v) bf l) s H Q := by
  refine ⟨_, _, ?_, k⟩
  simp only [stepE, hx, hv, he, Option.bind_eq_bind, Option.bind_some, Hp.blk, hb, if_true]
  rw [if_pos ⟨hm, trivial, ho⟩]

/-- An element of a frozen slice, at a number that is known to be one of it. -/
theorem n_idx_sl {sz : Nat} {x i : RO} {k : IntKind} {xs : List PV} {c : Int} {y : PV} (hx : x.ev gl s = some (.sl xs)) (hi : i.ev gl s = some (.int k c)) (h0 : 0 ≤ c) (hy : xs[c.toNat]? = some y) (hz : y.cells.length = sz) (kk : WN P gl e l (s.put d (some (.fptr y.cells))) H Q) : WN P gl e (.op d (.idxAddr sz x i) bf l) s H Q := by
  refine n_val rfl ?_ kk
  simp only [stepN, hx, hi, Option.bind_eq_bind, Option.bind_some, if_pos h0, hy, if_pos hz]
theorem n_idx_lit {sz : Nat} {x i : RO} {k : IntKind} {xs : List PV} {c : Int} {y : PV} (hx : x.ev gl s = some (.lit xs)) (hi : i.ev gl s = some (.int k c)) (h0 : 0 ≤ c) (hy : xs[c.toNat]? = some y) (hz : y.cells.length = sz) (kk : WN P gl e l (s.put d (some (.fptr y.cells))) H Q) : WN P gl e (.op d (.idxAddr sz x i) bf l) s H Q := by
  refine n_val rfl ?_ kk
  simp only [stepN, hx, hi, Option.bind_eq_bind, Option.bind_some, if_pos h0, hy, if_pos hz]
theorem n_idx_ref {sz b g off len : Nat} {x i : RO} {k : IntKind} {xs : List PV} {c : Int} (hx : x.ev gl s = some (.ref b g off len)) (hi : i.ev gl s = some (.int k c)) (hb : H.f b = some ⟨g, sz, xs⟩) (h0 : 0 ≤ c ∧ c < len) (kk : WN P gl e l (s.put d (some (.ptr b g (off + c.toNat) 0))) H Q) : WN P gl e (.op d (.idxAddr sz x i) bf l) s H Q := by
  refine n_val rfl ?_ kk
  simp only [stepN, hx, hi, Option.bind_eq_bind, Option.bind_some, Hp.blk, hb, if_true]
  rw [if_pos ⟨h0.1, h0.2, trivial⟩]
theorem n_idx_arr {len sz : Nat} {x i : RO} {b g j o : Nat} {k : IntKind} {c : Int} (hx : x.ev gl s = some (.ptr b g j o)) (hi : i.ev gl s = some (.int k c)) (h0 : 0 ≤ c ∧ c < len) (kk : WN P gl e l (s.put d (some (.ptr b g j (o + c.toNat * sz)))) H Q) : WN P gl e (.op d (.idxAddrA len sz x i) bf l) s H Q := by
  refine n_val rfl ?_ kk
  simp only [stepN, hx, hi, Option.bind_eq_bind, Option.bind_some, if_pos h0]
/-- What stands at a place of a row of one's own. -/
theorem n_load_at {x : RO} {b g i sz : Nat} {xs : List PV} {y : PV} (hx : x.ev gl s = some (.ptr b g i 0)) (hb : H.f b = some ⟨g, sz, xs⟩) (hy : xs[i]? = some y) {es : Shape} {r : PV} (hr : subv es y.cells = some r) (kk : WN P gl e l (s.put d (some r)) H Q) : WN P gl e (.op d (.load es x) bf l) s H Q := by
  refine n_val rfl ?_ kk
  simp only [stepN, hx, Option.bind_eq_bind, Option.bind_some, Hp.blk, hb, if_true, hy, List.drop_zero, hr, Option.pure_def]
theorem n_shift {o : BinOp} {x y : RO} {k k' : IntKind} {a c : Int} {r : PV} (hx : x.ev gl s = some (.int k a)) (hy : y.ev gl s = some (.int k' c)) (hr : binP o (.int k a) (.int k' c) = some r) (kk : WN P gl e l (s.put d (some r)) H Q) : WN P gl e (.op d (.bin o x y) bf l) s H Q := by
  refine n_val rfl ?_ kk
  simp only [stepN, hx, hy, Option.bind_eq_bind, Option.bind_some, hr, Option.pure_def]

/-! ### Calls -/
theorem n_call {f : FuncId} {args : List RO} {as as' : List PV} {r : PV} (h1 : evs (RO.ev gl s) args = some as) (h2 : softs H false as = some as') (h3 : Pure P gl f as' r) (k : WN P gl e l (s.put d (some r)) H Q) : WN P gl e (.op d (.call f args) bf l) s H Q :=
  ⟨as, h1, .inl ⟨false, as', r, h2, h3, (by simp), k⟩⟩
theorem n_callb {f : FuncId} {args : List RO} {as as' : List PV} {r : PV} (h1 : evs (RO.ev gl s) args = some as) (h2 : softs H true as = some as') (h3 : Pure P gl f as' r) (h4 : scal r = true) (k : WN P gl e l (s.put d (some r)) H Q) : WN P gl e (.op d (.call f args) bf l) s H Q :=
  ⟨as, h1, .inl ⟨true, as', r, h2, h3, fun _ => h4, k⟩⟩
theorem n_fresh {f : FuncId} {args : List RO} {as as' : List PV} {r r' : PV} {G : Hp} {n : Nat} (hn : H.n = n) (h1 : evs (RO.ev gl s) args = some as) (h2 : softs H false as = some as') (h3 : Fresh P gl f as' r G) (h4 : shiftP n r = some r') (k : WN P gl e l (s.put d (some r')) (H.addH G) Q) : WN P gl e (.op d (.call f args) bf l) s H Q := by
  subst hn
  exact ⟨as, h1, .inr (.inl ⟨as', r, r', G, h2, h3, h4, k⟩)⟩
theorem n_spec {f : FuncId} {args : List RO} {as : List PV} {r : PV} {H' : Hp} (h1 : evs (RO.ev gl s) args = some as) (h3 : HSpec P gl f as H (fun r0 G => r0 = r ∧ G = H')) (hn : H.n ≤ H'.n) (k : WN P gl true l (s.put d (some r)) H' Q) : WN P gl true (.op d (.call f args) bf l) s H Q :=
  ⟨as, h1, .inr (.inr ⟨rfl, r, H', h3, hn, k⟩)⟩
theorem n_callv {f : FuncId} {x : RO} {caps : List PV} {args : List RO} {as as' : List PV} {r : PV} (h0 : x.ev gl s = some (.fn f caps)) (h1 : evs (RO.ev gl s) args = some as) (h2 : softs H false (as ++ caps) = some as') (h3 : Pure P gl f as' r) (k : WN P gl e l (s.put d (some r)) H Q) : WN P gl e (.op d (.callv x args) bf l) s H Q :=
  ⟨f, caps, as, h0, h1, .inl ⟨false, as', r, h2, h3, (by simp), k⟩⟩
theorem n_specv {f : FuncId} {x : RO} {caps : List PV} {args : List RO} {as : List PV} {r : PV} {H' : Hp} (h0 : x.ev gl s = some (.fn f caps)) (h1 : evs (RO.ev gl s) args = some as) (h3 : HSpec P gl f (as ++ caps) H (fun r0 G => r0 = r ∧ G = H')) (hn : H.n ≤ H'.n) (k : WN P gl true l (s.put d (some r)) H' Q) : WN P gl true (.op d (.callv x args) bf l) s H Q :=
  ⟨f, caps, as, h0, h1, .inr (.inr ⟨rfl, r, H', h3, hn, k⟩)⟩

/-! ### Parts under a guard -/
/-- Does more told do no harm? -/
theorem WpOp_more {s' : Env} {K K' : Option PV → Hp → Prop} (hs : s.le s') (he : ∀ o v, RO.ev gl s o = some v → RO.ev gl s' o = some v) (hN : ∀ {op : RI} {H : Hp} {r : PV × List Blk}, stepN (RO.ev gl s) H op = some r → stepN (RO.ev gl s') H op = some r) (hE : ∀ {op : RI} {H : Hp} {r : Option PV × Hp}, stepE (RO.ev gl s) H op = some r → stepE (RO.ev gl s') H op = some r)
    (hV : ∀ {l : List RO} {q : List PV}, evs (RO.ev gl s) l = some q → evs (RO.ev gl s') l = some q) (h : WpOp P gl e op s H K) (hK : ∀ r H, K r H → K' r H) : WpOp P gl e op s' H K' := by
  cases op
  case call =>
    obtain ⟨as, h1, h2⟩ := h
    exact ⟨as, hV h1, WpCall_mono h2 hK⟩
  case callv =>
    obtain ⟨f, caps, as, h1, h2, h3⟩ := h
    exact ⟨f, caps, as, he _ _ h1, hV h2, WpCall_mono h3 hK⟩
  all_goals
    obtain ⟨r, x, h1, h2⟩ := h
    first
      | exact ⟨r, x, hN h1, hK _ _ h2⟩
      | exact ⟨r, x, hE h1, hK _ _ h2⟩
end

section
variable {ev ev' : RO → Option PV} {H : Hp}

theorem bind_more {α β : Type} {x y : Option α} {f g : α → Option β} {r : β} (h : x.bind f = some r) (hx : ∀ v, x = some v → y = some v) (hf : ∀ v, f v = some r → g v = some r) : y.bind g = some r := by
  rw [Option.bind_eq_some_iff] at h ⊢
  obtain ⟨v, h1, h2⟩ := h
  exact ⟨v, hx v h1, hf v h2⟩

theorem fillP_more (he : ∀ o v, ev o = some v → ev' o = some v) : ∀ {ps : List (Nat × Nat × RO)} {l q : List PV}, fillP ev ps l = some q → fillP ev' ps l = some q
  | [], l, q, h => h
  | (off, n, x) :: r, l, q, h => by
    simp only [fillP] at h ⊢
    refine bind_more h (he _) fun v h => ?_
    split at h
    · rename_i hc
      rw [if_pos hc]
      exact fillP_more he h
    · cases h

theorem fillE_more (he : ∀ o v, ev o = some v → ev' o = some v) {sz : Nat} : ∀ {ps : List (Nat × RO)} {l q : List PV}, fillE ev sz ps l = some q → fillE ev' sz ps l = some q
  | [], l, q, h => h
  | (i, x) :: r, l, q, h => by
    simp only [fillE] at h ⊢
    refine bind_more h (he _) fun v h => ?_
    split at h
    · rename_i hc
      rw [if_pos hc]
      exact fillE_more he h
    · cases h

theorem mmL_more (he : ∀ o v, ev o = some v → ev' o = some v) {mx : Bool} : ∀ {l : List RO} {x q : PV}, mmL ev mx x l = some q → mmL ev' mx x l = some q
  | [], x, q, h => h
  | y :: r, x, q, h => by
    simp only [mmL] at h ⊢
    exact bind_more h (he _) fun v h => bind_more h (fun _ h => h) fun _ h => mmL_more he h

theorem evs_more (he : ∀ o v, ev o = some v → ev' o = some v) : ∀ {l : List RO} {q : List PV}, evs ev l = some q → evs ev' l = some q
  | [], q, h => h
  | x :: r, q, h => by
    simp only [evs] at h ⊢
    exact bind_more h (he _) fun v h => bind_more h (fun _ h => evs_more he h) fun _ h => h

theorem stepN_more (he : ∀ o v, ev o = some v → ev' o = some v) {op : RI} {r : PV × List Blk} (h : stepN ev H op = some r) : stepN ev' H op = some r := by
  cases op <;> simp only [stepN] at h ⊢ <;> try (first | exact h | cases h)
  case move => exact bind_more h (he _) fun v h => h
  case pick =>
    refine bind_more h (he _) fun v h => ?_
    split at h
    · exact bind_more h (he _) fun v h => h
    · cases h
  case box => exact bind_more h (he _) fun v h => h
  case build => exact bind_more h (fun _ h => fillP_more he h) fun v h => h
  case bslice =>
    split at h
    · rename_i hc
      rw [if_pos hc]
      exact bind_more h (fun _ h => fillE_more he h) fun v h => h
    · cases h
  case load => exact bind_more h (he _) fun v h => h
  case bin => exact bind_more h (he _) fun v h => bind_more h (he _) fun v h => h
  case binb => exact bind_more h (he _) fun v h => bind_more h (he _) fun v h => h
  case eqs => exact bind_more h (he _) fun v h => bind_more h (he _) fun v h => h
  case un => exact bind_more h (he _) fun v h => h
  case conv => exact bind_more h (he _) fun v h => h
  case fieldAddr => exact bind_more h (he _) fun v h => h
  case field => exact bind_more h (he _) fun v h => h
  case idxAddr => exact bind_more h (he _) fun v h => bind_more h (he _) fun v h => h
  case idxAddrA => exact bind_more h (he _) fun v h => bind_more h (he _) fun v h => h
  case idx => exact bind_more h (he _) fun v h => bind_more h (he _) fun v h => h
  case extract => exact bind_more h (he _) fun v h => h
  case len => exact bind_more h (he _) fun v h => h
  case mm => exact bind_more h (he _) fun v h => bind_more h (fun _ h => mmL_more he h) fun v h => h
  case mkslice => exact bind_more h (he _) fun v h => h
  case mkfunc => exact bind_more h (fun _ h => evs_more he h) fun v h => h
  case appendF =>
    refine bind_more h (he _) fun v h => ?_
    split at h
    · exact bind_more h (he _) fun v h => h
    · cases h

theorem stepE_more (he : ∀ o v, ev o = some v → ev' o = some v) {op : RI} {r : Option PV × Hp} (h : stepE ev H op = some r) : stepE ev' H op = some r := by
  cases op <;> simp only [stepE] at h ⊢ <;> try (first | exact h | cases h)
  case store => exact bind_more h (he _) fun v h => bind_more h (he _) fun v h => h
  case append => exact bind_more h (he _) fun v h => bind_more h (he _) fun v h => h
  case copy =>
    refine bind_more h (he _) fun v h => ?_
    split at h
    · exact bind_more h (fun _ h => h) fun v h => bind_more h (he _) fun v h => h
    · cases h
end

section
variable {P : Program} {gl : Nat → Option PV} {e : Bool}

theorem RO.ev_more {s s' : Env} (h : s.le s') : ∀ (o : RO) v, RO.ev gl s o = some v → RO.ev gl s' o = some v
  | .t n, v, hv => h n v hv
  | .c _, v, hv => hv
  | .g _, v, hv => hv

theorem Env.le_put {s s' : Env} (h : s.le s') (d : Option Nat) (r : Option PV) : (s.put d r).le (s'.put d r) := by
  cases d with
  | none => exact h
  | some d =>
    intro t p hp
    simp only [Env.put] at hp ⊢
    split
    · rename_i e; rw [if_pos e] at hp; exact hp
    · rename_i e; rw [if_neg e] at hp; exact h t p hp

theorem undef_le : ∀ {ds : List Nat} {s s' : Env}, s.le s' → (s.undef ds).le (s'.undef ds)
  | [], s, s', h => h
  | d :: r, s, s', h => undef_le (ds := r) (Env.le_put h (some d) (some (.tup [])))

theorem wpN_more : ∀ {N : Nodes} {s s' : Env} {H : Hp} {Q Q' : Env → Hp → Prop}, s.le s' → WpN P gl e N s H Q → (∀ a b H, a.le b → Q a H → Q' b H) → WpN P gl e N s' H Q'
  | .nil, s, s', H, Q, Q', hs, h, hQ => hQ _ _ _ hs h
  | .op d o bf l, s, s', H, Q, Q', hs, h, hQ => WpOp_more hs (RO.ev_more hs) (fun h => stepN_more (RO.ev_more hs) h) (fun h => stepE_more (RO.ev_more hs) h) (fun h => evs_more (RO.ev_more hs) h) h fun r H' hk => wpN_more (Env.le_put hs _ _) hk hQ
  | .grd t b sub l, s, s', H, Q, Q', hs, ⟨x, hx, h1, h2⟩, hQ => ⟨x, hs _ _ hx, fun hb => wpN_more hs (h1 hb) fun a b H hab h => wpN_more hab h hQ, fun hb => wpN_more (undef_le hs) (h2 hb) hQ⟩

theorem wn_more {N : Nodes} {s s' : Env} {H : Hp} {Q : Env → Hp → Prop} (hs : s.le s') (h : WN P gl e N s H Q) : WN P gl e N s' H Q :=
  wpN_more hs h fun a b H hab ⟨c, hc, hq⟩ => ⟨c, Env.le_trans hc hab, hq⟩

/-- A frame without some temporaries. -/
def Env.less (s : Env) (ds : List Nat) : Env := fun t => if ds.contains t then none else s t

variable {s : Env} {H : Hp} {l : Nodes} {Q : Env → Hp → Prop} {bf : Nat}

theorem less_le_undef {ds : List Nat} : (s.less ds).le (s.undef ds) := by
  intro t p hp
  simp only [Env.less] at hp
  split at hp
  · cases hp
  · rename_i h
    rw [undef_other (by simpa using h)]
    exact hp

/-- Both of two: the second one is asked only if the first one holds. -/
theorem n_and {t p a : Nat} {sub : Nodes} {x y : Bool} (hx : s t = some (.bool x)) (ht : sub.dsts.contains t = false) (h : x = true → WN P gl e sub s H fun s1 H1 => s1 a = some (.bool y) ∧ H1 = H)
    (k : WN P gl e l ((s.less sub.dsts).put (some p) (some (.bool (x && y)))) H Q) : WN P gl e (.grd t true sub (.op (some p) (.pick (.t t) (.t a) (.c (.bool false))) bf l)) s H Q := by
  have ht' : t ∉ sub.dsts := by simpa using ht
  refine ⟨x, hx, fun hb => ?_, fun hb => ?_⟩
  · subst hb
    refine wpN_post (wpN_frame (h rfl)) fun s1 H1 ⟨⟨s', hs', ha, hH⟩, hfr⟩ => ?_
    subst hH
    refine ⟨.bool y, [], ?_, ?_⟩
    · have : s1 t = some (.bool true) := by rw [hfr t ht', hx]
      simp [stepN, RO.ev, this, hs' a _ ha]
    · refine wn_more (Env.le_put ?_ _ _) k
      intro u q hq
      simp only [Env.less] at hq
      split at hq
      · cases hq
      · rename_i hu
        rw [hfr u (by simpa using hu)]
        exact hq
  · simp only [Bool.not_true] at hb
    subst hb
    refine ⟨.bool false, [], ?_, ?_⟩
    · have : (s.undef sub.dsts) t = some (.bool false) := by rw [undef_other ht', hx]
      simp [stepN, RO.ev, this]
    · exact wn_more (Env.le_put less_le_undef _ _) k

/-- One of two: the second one is asked only if the first one doesn't hold. -/
theorem n_or {t p a : Nat} {sub : Nodes} {x y : Bool} (hx : s t = some (.bool x)) (ht : sub.dsts.contains t = false) (h : x = false → WN P gl e sub s H fun s1 H1 => s1 a = some (.bool y) ∧ H1 = H)
    (k : WN P gl e l ((s.less sub.dsts).put (some p) (some (.bool (x || y)))) H Q) : WN P gl e (.grd t false sub (.op (some p) (.pick (.t t) (.c (.bool true)) (.t a)) bf l)) s H Q := by
  have ht' : t ∉ sub.dsts := by simpa using ht
  refine ⟨x, hx, fun hb => ?_, fun hb => ?_⟩
  · subst hb
    refine wpN_post (wpN_frame (h rfl)) fun s1 H1 ⟨⟨s', hs', ha, hH⟩, hfr⟩ => ?_
    subst hH
    refine ⟨.bool y, [], ?_, ?_⟩
    · have : s1 t = some (.bool false) := by rw [hfr t ht', hx]
      simp [stepN, RO.ev, this, hs' a _ ha]
    · refine wn_more (Env.le_put ?_ _ _) k
      intro u q hq
      simp only [Env.less] at hq
      split at hq
      · cases hq
      · rename_i hu
        rw [hfr u (by simpa using hu)]
        exact hq
  · simp only [Bool.not_false] at hb
    subst hb
    refine ⟨.bool true, [], ?_, ?_⟩
    · have : (s.undef sub.dsts) t = some (.bool true) := by rw [undef_other ht', hx]
      simp [stepN, RO.ev, this]
    · exact wn_more (Env.le_put less_le_undef _ _) k
/-- By cases of a guard. -/
theorem n_split {t : Nat} {b x : Bool} {sub : Nodes} (hx : s t = some (.bool x)) (h1 : x = b → WN P gl e sub s H fun s1 H1 => WN P gl e l s1 H1 Q) (h2 : x = !b → WN P gl e l (s.undef sub.dsts) H Q) : WN P gl e (.grd t b sub l) s H Q :=
  ⟨x, hx, fun hb => wpN_post (h1 hb) fun s1 H1 ⟨s', hs', h⟩ => wn_more hs' h, h2⟩
end

/-! ### Code -/
section
variable {P : Program} {gl : Nat → Option PV} {n0 : Nat} {s : Env} {H : Hp} {Q : Ex → Env → Hp → Prop}

theorem fnQ_ret {rs : List RRes} {R : PV → Hp → Prop} {r : PV} (h : retOf rs H s = some r) (k : R r H) : FnQ rs R .ret s H := ⟨r, h, k⟩
theorem fnQ_normal {rs : List RRes} {R : PV → Hp → Prop} {r : PV} (h : retOf rs H s = some r) (k : R r H) : FnQ rs R .normal s H := ⟨r, h, k⟩
theorem fnQ_ret_soft {rs : List RRes} {r r' rr : PV} (h : retOf rs H s = some r) (h2 : soft H true r = some r') (h3 : r' = rr) : FnQ rs (fun r0 H' => soft H' true r0 = some rr) .ret s H := ⟨r, h, h2.trans (congrArg some h3)⟩
theorem fnQ_normal_soft {rs : List RRes} {r r' rr : PV} (h : retOf rs H s = some r) (h2 : soft H true r = some r') (h3 : r' = rr) : FnQ rs (fun r0 H' => soft H' true r0 = some rr) .normal s H := ⟨r, h, h2.trans (congrArg some h3)⟩
theorem seqQ_normal {b : RCode} (h : Tr P gl n0 b s H Q) : SeqQ P gl n0 b Q .normal s H := h
theorem seqQ_exit {b : RCode} {i : Nat} (h : Q (.exit i) s H) : SeqQ P gl n0 b Q (.exit i) s H := h
theorem seqQ_ret {b : RCode} (h : Q .ret s H) : SeqQ P gl n0 b Q .ret s H := h
theorem blkQ_normal {i : Nat} (h : Q .normal s H) : BlkQ i Q .normal s H := h
theorem blkQ_exit {i : Nat} (h : Q .normal s H) : BlkQ i Q (.exit i) s H := by unfold BlkQ; simpa using h
theorem blkQ_exit_ne {i j : Nat} (hne : (j == i) = false) (h : Q (.exit j) s H) : BlkQ i Q (.exit j) s H := by simp only [BlkQ]; rw [if_neg (by simpa using hne)]; exact h
theorem blkQ_ret {i : Nat} (h : Q .ret s H) : BlkQ i Q .ret s H := h

/-- One of two, by a bool. -/
def CondT (P : Program) (gl : Nat → Option PV) (n0 : Nat) (t : Bool) (a b : RCode) (s : Env) (H : Hp) (Q : Ex → Env → Hp → Prop) : Prop := if t = true then Tr P gl n0 a s H Q else Tr P gl n0 b s H Q
theorem tr_cond_e {c : RO} {a b : RCode} {t : Bool} (h : c.ev gl s = some (.bool t)) (k : CondT P gl n0 t a b s H Q) : Tr P gl n0 (.cond c a b) s H Q := by
  cases t with
  | true => exact tr_cond h (fun _ => k) (by simp)
  | false => exact tr_cond h (by simp) (fun _ => k)
theorem condT_t {a b : RCode} (k : Tr P gl n0 a s H Q) : CondT P gl n0 true a b s H Q := k
theorem condT_f {a b : RCode} (k : Tr P gl n0 b s H Q) : CondT P gl n0 false a b s H Q := by unfold CondT; rw [if_neg (by simp)]; exact k
theorem condT_split {a b : RCode} {t : Bool} (k1 : t = true → Tr P gl n0 a s H Q) (k2 : t = false → Tr P gl n0 b s H Q) : CondT P gl n0 t a b s H Q := by
  cases t with
  | true => exact k1 rfl
  | false => exact condT_f (k2 rfl)

/-! ### Loops -/
/-- What a round leaves: a state of the invariant, or an end. -/
def LoopQ {α : Type} (gl : Nat → Option PV) (n0 : Nat) (E : α → Env) (K : α → Hp) (inv : α → Prop) (mu : α → Nat) (x : α) (Q : Ex → Env → Hp → Prop) (e : Ex) (s : Env) (H : Hp) : Prop :=
  match e with
  | .normal => ∃ y, inv y ∧ mu y < mu x ∧ Gh gl n0 s H (E y) (K y)
  | e => Q e s H

theorem tr_loop_x {α : Type} {c : RCode} (E : α → Env) (K : α → Hp) (inv : α → Prop) (mu : α → Nat) (x0 : α) (h0 : inv x0) (hg : Gh gl n0 s H (E x0) (K x0)) (h : ∀ x, inv x → (∀ t p, E x t = some p → p.under (K x).n = true) → Tr P gl n0 c (E x) (K x) (LoopQ gl n0 E K inv mu x Q)) : Tr P gl n0 (.loop c) s H Q := by
  refine tr_loop (fun n s H => ∃ x, inv x ∧ mu x = n ∧ Gh gl n0 s H (E x) (K x)) ⟨x0, h0, rfl, hg⟩ ?_
  rintro n s H ⟨x, hx, rfl, hg⟩
  refine tr_ghost hg (tr_wf fun hw => ?_)
  refine tr_mono (h x hx hw) fun e s' H' hq => ?_
  cases e with
  | normal => obtain ⟨y, h1, h2, h3⟩ := hq; exact ⟨mu y, h2, y, h1, rfl, h3⟩
  | exit id => exact hq
  | ret => exact hq

/-! ### From one frame and heap to another one -/
def chkH (H : Hp) (n : Nat) : List (Option Blk) → Nat → Prop
  | [], _ => True
  | none :: l, b => chkH H n l (b + 1)
  | some k :: l, b => (∃ k0, H.f b = some k0 ∧ k.g = k0.g ∧ k.sz = k0.sz ∧ fzP H n k0.xs = some k.xs) ∧ chkH H n l (b + 1)

theorem chkH_get {H : Hp} {n : Nat} : ∀ {l : List (Option Blk)} {b : Nat}, chkH H n l b → ∀ i k, l[i]? = some (some k) → ∃ k0, H.f (b + i) = some k0 ∧ k.g = k0.g ∧ k.sz = k0.sz ∧ fzP H n k0.xs = some k.xs
  | [], b, _, i, k, hk => by simp at hk
  | none :: l, b, h, i, k, hk => by
    cases i with
    | zero => simp at hk
    | succ i =>
      have := chkH_get (b := b + 1) h i k (by simpa using hk)
      rwa [show b + 1 + i = b + (i + 1) by omega] at this
  | some k' :: l, b, h, i, k, hk => by
    cases i with
    | zero =>
      simp only [List.getElem?_cons_zero, Option.some.injEq] at hk
      subst hk
      exact h.1
    | succ i =>
      have := chkH_get (b := b + 1) h.2 i k (by simpa using hk)
      rwa [show b + 1 + i = b + (i + 1) by omega] at this

def chkE (H : Hp) (n : Nat) (s : Env) : List (Nat × Option PV) → Prop
  | [] => True
  | (_, none) :: l => chkE H n s l
  | (t, some q) :: l => (∃ p, s t = some p ∧ fz H n p = some q) ∧ chkE H n s l

theorem ov_get {s : Env} : ∀ {L : List (Nat × Option PV)} {t : Nat} {q : PV}, s.ov L t = some q → (∃ r, (t, r) ∈ L ∧ r = some q) ∨ (t ∉ L.map (·.1) ∧ s t = some q)
  | [], t, q, h => .inr ⟨by simp, h⟩
  | (d, r) :: l, t, q, h => by
    simp only [Env.ov, Env.put] at h
    split at h
    · rename_i e
      exact .inl ⟨r, by simp [e], h⟩
    · rename_i e
      rcases ov_get h with ⟨r', h1, h2⟩ | ⟨h1, h2⟩
      · exact .inl ⟨r', by simp [h1], h2⟩
      · exact .inr ⟨by simp only [List.map_cons, List.mem_cons, not_or]; exact ⟨e, h1⟩, h2⟩

theorem chkE_get {H : Hp} {n : Nat} {s : Env} : ∀ {L : List (Nat × Option PV)}, chkE H n s L → ∀ t q, (t, some q) ∈ L → ∃ p, s t = some p ∧ fz H n p = some q
  | [], _, t, q, h => by simp at h
  | (d, none) :: l, hc, t, q, h => chkE_get (L := l) hc t q (by simpa using h)
  | (d, some r) :: l, hc, t, q, h => by
    simp only [List.mem_cons, Prod.mk.injEq, Option.some.injEq] at h
    rcases h with ⟨rfl, rfl⟩ | h
    · exact hc.1
    · exact chkE_get hc.2 t q h

/-- To a frame that tells otherwise of what may have changed, and to a heap block by block. -/
theorem gh_to {s0 s : Env} {L : List (Nat × Option PV)} {l : List (Option Blk)} {n : Nat} (hn : l.length = n) (hn0 : n0 ≤ n) (hs : ∀ t p, t ∉ L.map (·.1) → s0 t = some p → s t = some p) (hb : ∀ t p, t ∉ L.map (·.1) → s0 t = some p → p.under n = true) (hE : chkE H n s L) (hH : chkH H n l 0) : Gh gl n0 s H (s0.ov L) (Hp.ofL l) := by
  subst hn
  refine gh_freeze hn0 (fun t q hq => ?_) (fun b k' hb hk => ?_)
  · rcases ov_get hq with ⟨r, h1, rfl⟩ | ⟨h1, h2⟩
    · exact chkE_get hE t q h1
    · exact ⟨q, hs t q h1 h2, fz_below (hb t q h1 h2)⟩
  · simp only [Hp.ofL] at hb hk
    have hk2 : l[b]? = some (some k') := by
      cases h : l[b]? with
      | none => rw [h] at hk; cases hk
      | some o => rw [h] at hk; exact congrArg some hk
    have := chkH_get hH b k' hk2
    rwa [Nat.zero_add] at this

/-- The frame behind some operations, against the one ahead of them. -/
theorem only_refl {s : Env} {ks : List Nat} : ∀ t p, t ∉ ks → s t = some p → s t = some p := fun _ _ _ h => h
theorem only_put {s0 s : Env} {ks : List Nat} {d : Nat} {r : Option PV} (hd : ks.contains d = true) (h : ∀ t p, t ∉ ks → s0 t = some p → s t = some p) : ∀ t p, t ∉ ks → s0 t = some p → s.put (some d) r t = some p := by
  intro t p ht hp
  simp only [Env.put]
  rw [if_neg (fun e => ht (by subst e; simpa using hd))]
  exact h t p ht hp
theorem only_less {s0 s : Env} {ks ds : List Nat} (hd : ds.all ks.contains = true) (h : ∀ t p, t ∉ ks → s0 t = some p → s t = some p) : ∀ t p, t ∉ ks → s0 t = some p → s.less ds t = some p := by
  intro t p ht hp
  simp only [Env.less]
  rw [if_neg (fun e => ht (by
    have := List.all_eq_true.1 hd t (by simpa using e)
    simpa using this))]
  exact h t p ht hp
theorem only_ov {s0 s : Env} {ks : List Nat} {L : List (Nat × Option PV)} (hd : (L.map (·.1)).all ks.contains = true) (h : ∀ t p, t ∉ ks → s0 t = some p → s t = some p) : ∀ t p, t ∉ ks → s0 t = some p → s.ov L t = some p := by
  induction L with
  | nil => exact h
  | cons x L ih =>
    simp only [List.map_cons, List.all_cons, Bool.and_eq_true] at hd
    exact only_put hd.1 (ih hd.2)
end
end Go.Vm
namespace Go.Vm
/-- Which literals and appends are one's own to write: all but these. -/
def owOf (l : List (Nat × Nat)) : Nat → Nat → Bool := fun r i => !l.contains (r, i)
end Go.Vm
namespace Go.Vm
section
variable {P : Program} {gl : Nat → Option PV} {ow : Nat → Nat → Bool} {f : FuncId} {c : RCode} {rs : List RRes} {args : List PV} {r : PV} {H : Hp}
theorem Pure.fn (hmix : P.follows .mixedOrders = true) (hf : fnOf P ow f = some ⟨c, rs⟩) (h : Tr P gl 0 c (envOf args) Hp.none (FnQ rs fun r0 H' => soft H' true r0 = some r)) : Pure P gl f args r := Pure.tr hmix hf h
theorem Fresh.fn (hmix : P.follows .mixedOrders = true) (hf : fnOf P ow f = some ⟨c, rs⟩) (h : Tr P gl 0 c (envOf args) Hp.none (FnQ rs fun r0 G => r0 = r ∧ G = H)) : Fresh P gl f args r H := Fresh.tr hmix hf h
theorem HSpec.fn {R : PV → Hp → Prop} (hmix : P.follows .mixedOrders = true) (hf : fnOf P ow f = some ⟨c, rs⟩) (h : Tr P gl H.n c (envOf args) H (FnQ rs R)) : HSpec P gl f args H R := HSpec.tr hmix hf h
end
end Go.Vm
namespace Go.Vm
theorem hn0 : Hp.none.n = 0 := rfl
theorem hn1 (H : Hp) (l : List Blk) : (H.add l).n = H.n + l.length := rfl
theorem hn2 (H : Hp) (b : Nat) (k : Blk) : (H.set b k).n = H.n := rfl
theorem hn3 (H G : Hp) : (H.addH G).n = H.n + G.n := rfl
theorem hn4 (l : List (Option Blk)) : (Hp.ofL l).n = l.length := rfl
end Go.Vm
