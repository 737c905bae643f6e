/- Still more of the VM's instructions: comparing, building, making. -/
import Derived.Test.YtjegabeechopdaaVmF
import Derived.ChangeKeysEq
import Derived.Laws.StructEq
set_option linter.unusedSimpArgs false
set_option linter.unusedVariables false
namespace Go.Vm
open Go Go.RowKit

theorem eqL_append (l r : List PV) : ∀ (a b : List (Nat × Nat)), eqL l r (a ++ b) = (eqL l r a).bind fun t => if t then eqL l r b else some false
  | [], b => by simp [eqL]
  | o :: a, b => by
    simp only [List.cons_append, eqL, Option.bind_eq_bind]
    cases l[o.1]? with
    | none => rfl
    | some x =>
      cases r[o.1]? with
      | none => rfl
      | some y =>
        simp only [Option.bind_some]
        cases eq1 o.2 x y with
        | none => rfl
        | some t =>
          cases t
          · simp
          · simp [eqL_append l r a b]

theorem eqL_window (l r : List PV) (off s : Nat) : ∀ (q : List (Nat × Nat)), (∀ x ∈ q, x.1 < s) → eqL l r (q.map fun x => (off + x.1, x.2)) = eqL ((l.drop off).take s) ((r.drop off).take s) q
  | [], _ => rfl
  | x :: q, h => by
    have hx := h x (by simp)
    have e1 : ((l.drop off).take s)[x.1]? = l[off + x.1]? := by rw [List.getElem?_take_of_lt hx, List.getElem?_drop]
    have e2 : ((r.drop off).take s)[x.1]? = r[off + x.1]? := by rw [List.getElem?_take_of_lt hx, List.getElem?_drop]
    simp only [List.map_cons, eqL, e1, e2, eqL_window l r off s q (fun y hy => h y (by simp [hy]))]

section
variable {P : Program} {gl : Nat → Option PV} {A : Nat → Prop} {w0 : World} {F : Nat → Prop} {m : Nat → Slot} {w : World} {G H : Hp} {a : Act} {env : Env} {o : Oper} {p : PV} {own : Bool}

/-- Cells that stand to PVs one by one. -/
def CsRel (F : Nat → Prop) (m : Nat → Slot) (w : World) (xs : Array Value) (l : List PV) : Prop := xs.size = l.length ∧ ∀ j (h1 : j < xs.size) (h2 : j < l.length), VRel F w m xs[j] l[j]

theorem CsRel.window {xs : Array Value} {l : List PV} (h : CsRel F m w xs l) (off s : Nat) : CsRel F m w (xs.extract off (off + s)) ((l.drop off).take s) := by
  obtain ⟨e, h⟩ := h
  refine ⟨by simp; omega, fun j h1 h2 => ?_⟩
  simp at h1 h2
  simpa using h (off + j) (by omega) (by omega)

/-- What comparing comes to, at a place inside cells. -/
def EqGoal (P : Program) (F : Nat → Prop) (m : Nat → Slot) (w : World) (n : Nat) (t : TypeId) (ls : List (Nat × Nat)) : Prop :=
  ∀ (xs ys : Array Value) (l r : List PV) (off : Nat) (b : Bool), CsRel F m w xs l → CsRel F m w ys r → eqL l r (ls.map fun x => (off + x.1, x.2)) = some b →
    ∃ vx vy, (part t xs off).run P w = .ok vx w ∧ (part t ys off).run P w = .ok vy w ∧ (Op.equalIn n t vx vy).run P w = .ok b w

theorem eq_fields (n : Nat) (xs ys : Array Value) (l r : List PV) (hx : CsRel F m w xs l) (hy : CsRel F m w ys r) (lv : TypeId → Option (List (Nat × Nat))) (ih : ∀ t ls, lv t = some ls → EqGoal P F m w n t ls) :
    ∀ (fs : List Field) (L : List (List (Nat × Nat))) (b : Bool), (fs.mapM fun f => if f.name = "_" then none else (lv f.type).map fun q => q.map fun x => (f.offset + x.1, x.2)) = some L → eqL l r L.flatten = some b →
      (Op.eqFields n xs ys fs).run P w = .ok b w
  | [], L, b, h, hb => by
    simp at h
    subst h
    simp [eqL] at hb
    subst hb
    simp [Op.eqFields]
  | f :: fs, L, b, h, hb => by
    rw [List.mapM_cons] at h
    simp only [bind, Option.bind_eq_some_iff, pure, Option.some.injEq] at h
    obtain ⟨q, hq, L', hL, rfl⟩ := h
    split at hq
    · cases hq
    · rename_i hn
      rw [Option.map_eq_some_iff] at hq
      obtain ⟨q', hq', rfl⟩ := hq
      rw [List.flatten_cons, eqL_append, Option.bind_eq_some_iff] at hb
      obtain ⟨t, ht, hb⟩ := hb
      obtain ⟨vx, vy, r1, r2, r3⟩ := ih f.type q' hq' xs ys l r f.offset t hx hy ht
      simp only [Op.eqFields, ne_eq, hn, not_false_eq_true, if_true, Sem.run_bind, r1, r2, r3, Result.andThen_ok]
      cases t with
      | false => simp at hb; subst hb; simp
      | true =>
        simp only [if_true] at hb
        simpa using eq_fields n xs ys l r hx hy lv ih fs L' b hL hb

theorem eq_items (n : Nat) (e : TypeId) (c : Nat) (q : List (Nat × Nat)) (xs ys : Array Value) (l r : List PV) (hx : CsRel F m w xs l) (hy : CsRel F m w ys r) (ih : EqGoal P F m w n e q) :
    ∀ (is : List Nat) (b : Bool), eqL l r (is.map fun i => q.map fun x => (i * c + x.1, x.2)).flatten = some b → (Op.eqItems n e c xs ys is).run P w = .ok b w
  | [], b, hb => by
    simp [eqL] at hb
    subst hb
    simp [Op.eqItems]
  | i :: is, b, hb => by
    rw [List.map_cons, List.flatten_cons, eqL_append, Option.bind_eq_some_iff] at hb
    obtain ⟨t, ht, hb⟩ := hb
    obtain ⟨vx, vy, r1, r2, r3⟩ := ih xs ys l r (i * c) t hx hy ht
    simp only [Op.eqItems, Sem.run_bind, r1, r2, r3, Result.andThen_ok]
    cases t with
    | false => simp at hb; subst hb; simp
    | true =>
      simp only [if_true] at hb
      simpa using eq_items n e c q xs ys l r hx hy ih is b hb

theorem run_part_agg {t : TypeId} {s : Nat} (ht : shp P t = some (some s)) (hs : szOf P t = some s) (xs : Array Value) (off : Nat) : (part t xs off).run P w = .ok (.agg (xs.extract off (off + s))) w := by
  obtain ⟨ha, _⟩ := run_isAgg ht w
  simp only [part, Sem.run_bind, ha, Result.andThen_ok, Option.isSome_some, if_true, run_sizeOf' hs w, Sem.run_pure]

theorem run_part_one {t : TypeId} (ht : shp P t = some none) (xs : Array Value) (off : Nat) (v : Value) (h : xs[off]? = some v) : (part t xs off).run P w = .ok v w := by
  obtain ⟨ha, _⟩ := run_isAgg ht w
  simp only [part, Sem.run_bind, ha, Result.andThen_ok, Option.isSome_none, Bool.false_eq_true, if_false, h, Sem.run_pure]

theorem eq_leaves : ∀ (d : Nat) (t : TypeId) (ls : List (Nat × Nat)) (n : Nat), leavesOf P d t = some ls → d ≤ n → EqGoal P F m w n t ls
  | 0, t, ls, n, h, _ => by simp [leavesOf] at h
  | d + 1, t, ls, n, h, hn => by
    obtain ⟨n, rfl⟩ : ∃ k, n = k + 1 := ⟨n - 1, by omega⟩
    intro xs ys l r off b hx hy hb
    -- one cell
    have one : ∀ tag, ls = [(0, tag)] → shp P t = some none → (∀ vx vy px py, VRel F w m vx px → VRel F w m vy py → eq1 tag px py = some b → (Op.equalIn (n + 1) t vx vy).run P w = .ok b w) →
        ∃ vx vy, (part t xs off).run P w = .ok vx w ∧ (part t ys off).run P w = .ok vy w ∧ (Op.equalIn (n + 1) t vx vy).run P w = .ok b w := by
      rintro tag rfl hsh hq
      simp only [List.map_cons, List.map_nil, Nat.add_zero, eqL, Option.bind_eq_bind, Option.bind_eq_some_iff] at hb
      obtain ⟨px, hpx, py, hpy, t', ht', hb⟩ := hb
      obtain ⟨h1, rfl⟩ := List.getElem?_eq_some_iff.1 hpx
      obtain ⟨h2, rfl⟩ := List.getElem?_eq_some_iff.1 hpy
      have hbt : b = t' := by cases t' <;> simp at hb <;> exact hb
      subst hbt
      have g1 : xs[off]? = some (xs[off]'(by have := hx.1; omega)) := Array.getElem?_eq_getElem _
      have g2 : ys[off]? = some (ys[off]'(by have := hy.1; omega)) := Array.getElem?_eq_getElem _
      exact ⟨_, _, run_part_one hsh xs off _ g1, run_part_one hsh ys off _ g2, hq _ _ _ _ (hx.2 off (by have := hx.1; omega) h1) (hy.2 off (by have := hy.1; omega) h2) ht'⟩
    unfold leavesOf at h
    split at h
    · rename_i hu
      injection h with h
      refine one 0 h.symm (by simp [shp, hu]) (fun vx vy px py r1 r2 he => ?_)
      unfold eq1 at he
      split at he <;> first | contradiction | (cases r1; cases r2; injection he with he; subst he; exact run_equalIn_bool w n t _ _ hu)
    · rename_i k hu
      injection h with h
      refine one 1 h.symm (by simp [shp, hu]) (fun vx vy px py r1 r2 he => ?_)
      unfold eq1 at he
      split at he <;> first | contradiction | skip
      cases r1
      cases r2
      split at he
      · rename_i e
        subst e
        injection he with he
        subst he
        exact run_equalIn_int w n t _ k _ _ hu
      · cases he
    · rename_i hu
      injection h with h
      refine one 2 h.symm (by simp [shp, hu]) (fun vx vy px py r1 r2 he => ?_)
      unfold eq1 at he
      split at he <;> first | contradiction | skip
      cases r1
      cases r2
      injection he with he
      subst he
      rw [beq_toListBytes]
      exact run_equalIn_string w n t _ _ hu
    · rename_i fs hu
      split at h
      · cases h
      · rename_i hst
        simp only [Option.bind_eq_bind, Option.bind_eq_some_iff] at h
        obtain ⟨s, hs, L, hL, h⟩ := h
        split at h
        · rename_i hall
          injection h with h
          subst h
          have hall' : ∀ q ∈ L.flatten, q.1 < s := fun q hq => by simpa using List.all_eq_true.1 hall q hq
          rw [eqL_window l r off s _ hall'] at hb
          have hsh : shp P t = some (some s) := by
            unfold szOf at hs
            simp only [shp, hu]
            rw [Option.map_eq_some_iff] at hs ⊢
            obtain ⟨i, hi, rfl⟩ := hs
            exact ⟨i, hi, rfl⟩
          refine ⟨_, _, run_part_agg hsh hs xs off, run_part_agg hsh hs ys off, ?_⟩
          have hf : P.fieldsOf t = fs := by simp [Program.fieldsOf, hu]
          rw [run_equalIn_agg w n t _ _ (by rw [hf]; exact hu) (by simpa using hst), hf]
          exact eq_fields n _ _ _ _ (hx.window off s) (hy.window off s) (leavesOf P d) (fun t' ls' h' => eq_leaves d t' ls' n h' (by omega)) fs.toList L b hL hb
        · cases h
    · rename_i N e hu
      simp only [Option.bind_eq_bind, Option.bind_eq_some_iff] at h
      obtain ⟨q, hq, z, hz, s, hs, h⟩ := h
      split at h
      · rename_i hall
        injection h with h
        subst h
        have hall' : ∀ x ∈ ((List.range N).map fun i => q.map fun x => (i * z + x.1, x.2)).flatten, x.1 < s := fun x hx => by simpa using List.all_eq_true.1 hall x hx
        rw [eqL_window l r off s _ hall'] at hb
        have hsh : shp P t = some (some s) := by
          unfold szOf at hs
          simp only [shp, hu]
          rw [Option.map_eq_some_iff] at hs ⊢
          obtain ⟨i, hi, rfl⟩ := hs
          exact ⟨i, hi, rfl⟩
        refine ⟨_, _, run_part_agg hsh hs xs off, run_part_agg hsh hs ys off, ?_⟩
        unfold szOf at hz
        rw [Option.map_eq_some_iff] at hz
        obtain ⟨ie, hie, rfl⟩ := hz
        rw [run_equalIn_array w n _ _ hu hie]
        have hc : P.cellsOf e = ie.size := by simp [Program.cellsOf, hie]
        rw [hc]
        exact eq_items n e ie.size q _ _ _ _ (hx.window off s) (hy.window off s) (eq_leaves d e q n hq (by omega)) (List.range N) b hb
      · cases h
    · cases h
end
end Go.Vm
