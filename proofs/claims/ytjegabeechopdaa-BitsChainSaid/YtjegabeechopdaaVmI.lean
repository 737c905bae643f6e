/- Building structs and slices: sound. -/
import Derived.Test.YtjegabeechopdaaVmH
set_option linter.unusedSimpArgs false
set_option linter.unusedVariables false
namespace Go.Vm
open Go Go.RowKit

theorem splice_length {l c : List PV} {off : Nat} (h : off + c.length ≤ l.length) : (splice l off c).length = l.length := by
  simp [splice]; omega

theorem splice_get {l c : List PV} {off : Nat} (h : off + c.length ≤ l.length) (k : Nat) : (splice l off c)[k]? = if off ≤ k ∧ k < off + c.length then c[k - off]? else l[k]? := by
  unfold splice
  have e1 : (l.take off).length = off := by simp; omega
  by_cases h1 : k < off
  · rw [if_neg (by omega), List.append_assoc, List.getElem?_append_left (by omega), List.getElem?_take_of_lt h1]
  · by_cases h2 : k < off + c.length
    · rw [if_pos (by omega), List.append_assoc, List.getElem?_append_right (by omega), List.getElem?_append_left (by omega), e1]
    · rw [if_neg (by omega), List.getElem?_append_right (by simp; omega), List.getElem?_drop]
      congr 1
      simp
      omega

theorem foldl_set (off : Nat) : ∀ (vs : List Value) (s : Nat) (cells : Array Value), off + s + vs.length ≤ cells.size →
    ((vs.zipIdx s).foldl (fun cs (x : Value × Nat) => cs.setIfInBounds (off + x.2) x.1) cells).size = cells.size ∧
    ∀ k : Nat, ((vs.zipIdx s).foldl (fun cs (x : Value × Nat) => cs.setIfInBounds (off + x.2) x.1) cells)[k]? = if off + s ≤ k ∧ k < off + s + vs.length then vs[k - (off + s)]? else cells[k]?
  | [], s, cells, _ => by simp; intro k h1 h2; omega
  | v :: vs, s, cells, h => by
    obtain ⟨e1, e2⟩ := foldl_set off vs (s + 1) (cells.setIfInBounds (off + s) v) (by simp at h ⊢; omega)
    simp only [List.zipIdx_cons, List.foldl_cons]
    refine ⟨by rw [e1]; simp, fun k => ?_⟩
    rw [e2 k]
    simp only [List.length_cons] at h ⊢
    by_cases h1 : k = off + s
    · subst h1
      rw [if_neg (by omega), if_pos (by omega), Array.getElem?_setIfInBounds_self_of_lt (by omega)]
      simp
    · by_cases h2 : off + (s + 1) ≤ k ∧ k < off + (s + 1) + vs.length
      · rw [if_pos h2, if_pos (by omega), show k - (off + s) = (k - (off + (s + 1))) + 1 by omega, List.getElem?_cons_succ]
      · rw [if_neg h2, if_neg (by omega), Array.getElem?_setIfInBounds_ne (by omega)]

section
variable {P : Program} {gl : Nat → Option PV} {A : Nat → Prop} {w0 : World} {F : Nat → Prop} {m : Nat → Slot} {w : World} {G H : Hp} {a : Act} {env : Env} {o : Oper} {p : PV} {own : Bool}

theorem CsRel.get {xs : Array Value} {l : List PV} (h : CsRel F m w xs l) {k : Nat} {q : PV} (hq : l[k]? = some q) : ∃ v, xs[k]? = some v ∧ VRel F w m v q := by
  obtain ⟨h1, rfl⟩ := List.getElem?_eq_some_iff.1 hq
  exact ⟨xs[k]'(by have := h.1; omega), Array.getElem?_eq_getElem _, h.2 k _ h1⟩

theorem CsRel.of_get {xs : Array Value} {l : List PV} (hs : xs.size = l.length) (h : ∀ (k : Nat) (q : PV), l[k]? = some q → ∃ v, xs[k]? = some v ∧ VRel F w m v q) : CsRel F m w xs l := by
  refine ⟨hs, fun j h1 h2 => ?_⟩
  obtain ⟨v, hv, hr⟩ := h j _ (List.getElem?_eq_getElem h2)
  rw [Array.getElem?_eq_getElem h1] at hv
  injection hv with hv
  rw [hv]; exact hr

theorem CsRel.splice {cells : Array Value} {l : List PV} {v : Value} {q : PV} {off : Nat} (h : CsRel F m w cells l) (hv : VRel F w m v q) (hb : off + q.cells.length ≤ l.length) :
    CsRel F m w (v.cells.zipIdx.foldl (fun cs (x : Value × Nat) => cs.setIfInBounds (off + x.2) x.1) cells) (splice l off q.cells) := by
  obtain ⟨e, hc⟩ := hv.size
  have hsz := h.1
  have hz : v.cells.zipIdx.foldl (fun cs (x : Value × Nat) => cs.setIfInBounds (off + x.2) x.1) cells = (v.cells.toList.zipIdx 0).foldl (fun cs (x : Value × Nat) => cs.setIfInBounds (off + x.2) x.1) cells := by
    rw [← Array.foldl_toList, Array.toList_zipIdx]
  obtain ⟨e1, e2⟩ := foldl_set off v.cells.toList 0 cells (by simp; omega)
  rw [hz]
  refine .of_get (by rw [e1, splice_length hb]; exact h.1) (fun k r hr => ?_)
  rw [splice_get hb] at hr
  rw [e2 k]
  simp only [Nat.add_zero, Array.length_toList]
  by_cases hk : off ≤ k ∧ k < off + q.cells.length
  · rw [if_pos hk] at hr
    rw [if_pos (by omega)]
    obtain ⟨h1, rfl⟩ := List.getElem?_eq_some_iff.1 hr
    exact ⟨v.cells[k - off]'(by omega), by rw [Array.getElem?_toList]; exact Array.getElem?_eq_getElem _, hc _ _ h1⟩
  · rw [if_neg hk] at hr
    rw [if_neg (by omega)]
    exact h.get hr

theorem fill_rel (sim : Sim gl A w0 F m w G) (place : Nat → Option (Nat × Nat)) : ∀ (ps : List (Nat × Operand)) (qs : List (Nat × Nat × RO)) (cells : Array Value) (l l' : List PV), partsOf place ps = some qs →
    ERel F m w a env (readsL (qs.map (·.2.2))) → CsRel F m w cells l → fillP (RO.ev gl env) qs l = some l' →
    ∃ cells', Instr.fill place cells (ps.map fun x => (x.1, a.eval x.2)) = some cells' ∧ CsRel F m w cells' l'
  | [], qs, cells, l, l', h, _, hc, hf => by
    simp [partsOf] at h
    subst h
    simp [fillP] at hf
    subst hf
    exact ⟨cells, rfl, hc⟩
  | (i, x) :: ps, qs, cells, l, l', h, he, hc, hf => by
    simp only [partsOf, Option.bind_eq_bind, Option.bind_eq_some_iff, Option.some.injEq] at h
    obtain ⟨⟨off, n⟩, hpl, r, hr, qs', hqs, rfl⟩ := h
    simp only [List.map_cons, readsL] at he
    obtain ⟨e1, e2⟩ := he.app
    simp only [fillP, Option.bind_eq_bind, Option.bind_eq_some_iff] at hf
    obtain ⟨v, hv, hf⟩ := hf
    split at hf
    · rename_i hcond
      have hrel := RO.rel sim hr e1 hv
      have hs : (a.eval x).cells.size = v.cells.length := hrel.size.1
      obtain ⟨c1, c2⟩ := hcond
      obtain ⟨cells', hfl, hcr⟩ := fill_rel sim place ps qs' _ _ l' hqs e2 (hc.splice (off := off) hrel (by omega)) hf
      refine ⟨cells', ?_, hcr⟩
      have hsz : cells.size = l.length := hc.1
      simp only [List.map_cons, Instr.fill, hpl]
      rw [if_neg (by simp only [Bool.or_eq_true, decide_eq_true_eq]; omega)]
      exact hfl
    · cases hf

theorem zero_cells {z : Value} {q : PV} (h : VRel F w m z q) : CsRel F m w z.cells q.cells := h.size

theorem ok_build (sim : Sim gl A w0 F m w G) {t : TypeId} {parts : Array (Nat × Operand)} {z : PV} {qs : List (Nat × Nat × RO)} {place : Nat → Option (Nat × Nat)} (ho : o.op = .build t parts) (hz : zeroOf P t = some z)
    (hpl : (∃ pl, placesOf P t = some pl ∧ place = (pl.toArray[·]?)) ∨ (∃ n e s, P.underlying t = some (.array n e) ∧ szOf P e = some s ∧ place = fun i => some (i * s, s)))
    (hqs : partsOf place parts.toList = some qs) (he : ERel F m w a env (readsL (qs.map (·.2.2)))) (n ext : Nat) (hp : stepN (RO.ev gl env) H (.build z.cells qs) = some (p, [])) : NOk P gl A w0 F m w G n a o p ext := by
  simp only [stepN, Option.bind_eq_bind, Option.bind_eq_some_iff, Option.pure_def, Option.some.injEq, Prod.mk.injEq] at hp
  obtain ⟨l', hl', rfl, _⟩ := hp
  unfold zeroOf at hz
  simp only [Option.bind_eq_some_iff] at hz
  obtain ⟨it, hit, zv, hzv, hzz⟩ := hz
  obtain ⟨cells', hf, hcr⟩ := fill_rel sim place parts.toList qs zv.cells z.cells l' hqs he (zero_cells (ofZero_rel hzz)) hl'
  have hb : P.built t (parts.map fun x => (x.1, a.eval x.2)).toList = some cells' := by
    unfold Program.built
    rcases hpl with ⟨pl, hpl, rfl⟩ | ⟨N, e, s, hu, hs, rfl⟩
    · unfold placesOf at hpl
      split at hpl
      · rename_i fs hu
        simp only [hit, hu, hzv, hpl, Array.toList_map]
        exact hf
      · cases hpl
    · unfold szOf at hs
      rw [Option.map_eq_some_iff] at hs
      obtain ⟨ie, hie, rfl⟩ := hs
      simp only [hit, hu, hzv, hie, Array.toList_map]
      exact hf
  refine .same sim (v := .agg cells') (by simp only [execOp, ho, Sem.run_bind, run_build w t _ _ hb, Result.andThen_ok, Sem.run_pure]) (.agg _ _ hcr.1 hcr.2)
end
end Go.Vm
