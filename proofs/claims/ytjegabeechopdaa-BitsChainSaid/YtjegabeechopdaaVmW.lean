/- Arguments of plain data, read as values without memory. -/
import Derived.Test.YtjegabeechopdaaVmA
import Derived.OpenShut
import Derived.ChangeShapes
import Derived.ChangeOld
set_option linter.unusedSimpArgs false
set_option linter.unusedVariables false
namespace Go.Vm
open Go

inductive Ty where
  | bool | int (k : IntKind) | str | sl (e : Ty) | nil | cons (a b : Ty) | arr (n : Nat) (e : Ty) | st (f : Ty)

def Ty.isAgg : Ty → Bool
  | .st _ | .arr .. => true
  | _ => false

def FitsN (p : List PV → Prop) : Nat → List PV → Prop
  | 0, cs => cs = []
  | n + 1, cs => ∃ x y, cs = x ++ y ∧ p x ∧ FitsN p n y

/-- Are these cells a value of the type? -/
def Fits : Ty → List PV → Prop
  | .bool, cs => ∃ b, cs = [.bool b]
  | .int k, cs => ∃ n, cs = [.int k n] ∧ (Lit.int k n).wf = true
  | .str, cs => ∃ s : ByteArray, cs = [.str s] ∧ s.size ≤ maxLen
  | .sl e, cs => ∃ l, cs = [.sl l] ∧ l.length ≤ maxLen ∧ ∀ x ∈ l, (e.isAgg = true ∧ ∃ c, x = .agg c ∧ Fits e c) ∨ (e.isAgg = false ∧ Fits e [x])
  | .nil, cs => cs = []
  | .cons a b, cs => ∃ x y, cs = x ++ y ∧ Fits a x ∧ Fits b y
  | .arr n e, cs => FitsN (Fits e) n cs
  | .st f, cs => Fits f cs

def FitsV (e : Ty) (x : PV) : Prop := (e.isAgg = true ∧ ∃ c, x = .agg c ∧ Fits e c) ∨ (e.isAgg = false ∧ Fits e [x])

def fieldsOf (tf : TypeId → Option Ty) (P : Program) (total : Nat) : Nat → List Field → Option Ty
  | off, [] => if off = total then some .nil else none
  | off, f :: r => if f.offset = off then do
      let a ← tf f.type
      let b ← fieldsOf tf P total (off + P.cellsOf f.type) r
      some (.cons a b) else none

def tyOf (P : Program) : Nat → TypeId → Option Ty
  | 0, _ => none
  | d + 1, t => match P.underlying t with
    | some .bool => some .bool
    | some (.int k) => some (.int k)
    | some .string => some .str
    | some (.slice e) => if P.cellsOf e = 0 then none else (tyOf P d e).map .sl
    | some (.struct fs) => (fieldsOf (tyOf P d) P (P.cellsOf t) 0 fs.toList).map .st
    | some (.array n e) => if P.cellsOf t = n * P.cellsOf e then (tyOf P d e).map (.arr n) else none
    | _ => none

section
variable {H : Type} {enc : TypeId × Value → H} {P : Program} {w : World} {base : Nat} {spare : Nat → Bool} {held : Bool}

def Old (w : World) : Nat → Prop := fun β => β < w.heap.size

def CellsRel (w : World) (cs : List Value) (ps : List PV) : Prop := cs.length = ps.length ∧ ∀ i (h1 : i < cs.length) (h2 : i < ps.length), VRel (Old w) w noM cs[i] ps[i]

theorem CellsRel.append {a b : List Value} {p q : List PV} (h : CellsRel w a p) (k : CellsRel w b q) : CellsRel w (a ++ b) (p ++ q) := by
  refine ⟨by simp [h.1, k.1], fun i h1 h2 => ?_⟩
  have e := h.1
  by_cases hi : i < a.length
  · rw [List.getElem_append_left hi, List.getElem_append_left (by omega)]
    exact h.2 i hi (by omega)
  · have h1' := h1
    have h2' := h2
    simp only [List.length_append] at h1' h2'
    rw [List.getElem_append_right (by omega), List.getElem_append_right (by omega)]
    have := k.2 (i - a.length) (by omega) (by omega)
    simp only [e] at this ⊢
    exact this

theorem CellsRel.one {v : Value} {p : PV} (h : VRel (Old w) w noM v p) : CellsRel w [v] [p] := by
  refine ⟨rfl, fun i h1 h2 => ?_⟩
  simp at h1
  subst h1
  exact h

theorem fits_one {d : Nat} {t : TypeId} {T : Ty} {ps : List PV} (h : tyOf P d t = some T) (ha : T.isAgg = false) (hf : Fits T ps) : ∃ p, ps = [p] ∧ p.cells = [p] := by
  cases d with
  | zero => simp [tyOf] at h
  | succ d =>
    unfold tyOf at h
    split at h
    · injection h with h; subst h; obtain ⟨b, rfl⟩ := hf; exact ⟨_, rfl, rfl⟩
    · injection h with h; subst h; obtain ⟨n, rfl, _⟩ := hf; exact ⟨_, rfl, rfl⟩
    · injection h with h; subst h; obtain ⟨s, rfl, _⟩ := hf; exact ⟨_, rfl, rfl⟩
    · split at h
      · cases h
      · rw [Option.map_eq_some_iff] at h
        obtain ⟨e, _, rfl⟩ := h
        obtain ⟨l, rfl, _⟩ := hf
        exact ⟨_, rfl, rfl⟩
    · rw [Option.map_eq_some_iff] at h
      obtain ⟨e, _, rfl⟩ := h
      cases ha
    · split at h
      · rw [Option.map_eq_some_iff] at h
        obtain ⟨e, _, rfl⟩ := h
        cases ha
      · cases h
    · cases h

theorem cells_get {a : Addr} {n : Nat} {cs : List Value} (h : w.cells? base a n = some cs) : cs.length = n ∧ ∀ i, i < n → w.cell? (a.add i) = cs[i]? := by
  unfold World.cells? at h
  split at h
  · refine ⟨by have := mapM_some_length h; simpa using this, fun i hi => ?_⟩
    exact mapM_some_get h i i (by simp [hi])
  · cases h

theorem add_add' (a : Addr) (i j : Nat) : (a.add i).add j = a.add (i + j) := by
  by_cases hi : i = 0
  · subst hi
    simp [Addr.add]
  · by_cases hj : j = 0
    · subst hj
      simp [Addr.add]
    · simp [Addr.add, hi, hj, Nat.add_assoc]

theorem cell_block {a : Addr} {v : Value} (h : w.cell? a = some v) : a.block < w.heap.size := by
  unfold World.cell? at h
  split at h
  · rename_i h1
    exact (Array.getElem?_eq_some_iff.1 h1).1
  · cases h

theorem trod_fits : ∀ (d : Nat) (t : TypeId) (T : Ty) (fuel : Nat) (cs : List Value) (x : DataW H × List MemPlace), tyOf P d t = some T → DataW.trod enc P w base spare held fuel t cs = some x → ∃ ps, CellsRel w cs ps ∧ Fits T ps := by
  intro d
  induction d with
  | zero => intro t T fuel cs x h; simp [tyOf] at h
  | succ d ih =>
    intro t T fuel cs x hT h
    unfold tyOf at hT
    split at hT
    · rename_i hu
      injection hT with hT
      subst hT
      obtain ⟨b, rfl, _⟩ := DataW.trod_bool hu h
      exact ⟨[.bool b], .one (.bool b), b, rfl⟩
    · rename_i k hu
      injection hT with hT
      subst hT
      obtain ⟨n, rfl, _, hw⟩ := DataW.trod_int hu h
      exact ⟨[.int k n], .one (.int k n), n, rfl, hw⟩
    · rename_i hu
      injection hT with hT
      subst hT
      obtain ⟨s, rfl, _, hw⟩ := DataW.trod_string hu h
      exact ⟨[.str s], .one (.str s), s, rfl, hw⟩
    · rename_i e hu
      split at hT
      · cases hT
      rename_i hc
      rw [Option.map_eq_some_iff] at hT
      obtain ⟨E, hE, rfl⟩ := hT
      rcases DataW.trod_slice hu h with ⟨rfl, _⟩ | ⟨a, len, cap, elems, rest, n, _, rfl, rfl, hb, hl, hm, hlen, hel, _, _⟩
      · exact ⟨[.sl []], .one (.slnil none 0 (Nat.zero_le _)), [], rfl, Nat.zero_le _, fun x hx => by simp at hx⟩
      · have each : ∀ i, i < len → ∃ (csi : List Value) (psi : List PV), w.cells? base (a.add (i * P.cellsOf e)) (P.cellsOf e) = some csi ∧ CellsRel w csi psi ∧ Fits E psi := by
          intro i hi
          have h1 := hel i hi
          rw [List.getElem?_eq_getElem (by omega), Option.bind_eq_some_iff] at h1
          obtain ⟨csi, hcs, htr⟩ := h1
          obtain ⟨psi, h2, h3⟩ := ih e E n csi _ hE htr
          exact ⟨csi, psi, hcs, h2, h3⟩
        rcases Nat.eq_zero_or_pos len with h0 | hpos
        · subst h0
          exact ⟨[.sl []], .one (.slnil (some a) cap hm), [], rfl, Nat.zero_le _, fun x hx => by simp at hx⟩
        · let csF : Nat → List Value := fun i => if h : i < len then (each i h).choose else []
          let psF : Nat → List PV := fun i => if h : i < len then (each i h).choose_spec.choose else []
          have hF : ∀ i, i < len → w.cells? base (a.add (i * P.cellsOf e)) (P.cellsOf e) = some (csF i) ∧ CellsRel w (csF i) (psF i) ∧ Fits E (psF i) := by
            intro i hi
            simp only [csF, psF, hi, dif_pos]
            exact (each i hi).choose_spec.choose_spec
          let val : List PV → PV := fun c => if E.isAgg = true then .agg c else c.headD .nilp
          have hval : ∀ i, i < len → (val (psF i)).cells = psF i := by
            intro i hi
            simp only [val]
            split
            · rfl
            · rename_i hag
              obtain ⟨p, hp, hpc⟩ := fits_one hE (by simpa using hag) (hF i hi).2.2
              rw [hp]
              exact hpc
          have hlen2 : ∀ i, i < len → (psF i).length = P.cellsOf e := by
            intro i hi
            rw [← (hF i hi).2.1.1]
            exact (cells_get (hF i hi).1).1
          let l : List PV := (List.range len).map fun i => val (psF i)
          have hll : l.length = len := by simp [l]
          have hget : ∀ i (h : i < l.length), l[i] = val (psF i) := by intro i h; simp [l]
          refine ⟨[.sl l], .one ?_, l, rfl, by omega, fun x hx => ?_⟩
          · have hv : VRel (Old w) w noM (.slice (some a) l.length cap) (.sl l) := by
              refine .sl a cap (P.cellsOf e) l (fun i j => (csF i).getD j undef) ?_ (by omega) hm ?_ ?_ ?_
              · have h1 := (cells_get (hF 0 hpos).1).2 0 (by omega)
                rw [List.getElem?_eq_getElem (by rw [(cells_get (hF 0 hpos).1).1]; omega)] at h1
                have := cell_block h1
                rwa [add_block, add_block] at this
              · intro x hx
                obtain ⟨i, hi, rfl⟩ := List.getElem_of_mem hx
                rw [hget i hi, hval i (by omega), hlen2 i (by omega)]
              · intro i hi j hj
                have h1 := (cells_get (hF i (by omega)).1).2 j hj
                rw [add_add'] at h1
                rw [h1, List.getElem?_eq_getElem (by rw [(cells_get (hF i (by omega)).1).1]; omega)]
                simp [List.getD_eq_getElem?_getD, List.getElem?_eq_getElem (show j < (csF i).length by rw [(cells_get (hF i (by omega)).1).1]; omega)]
              · intro i hi j hj
                have e1 : (l[i]).cells = psF i := by rw [hget i hi]; exact hval i (by omega)
                have hj' : j < (psF i).length := by rw [← e1]; exact hj
                have hj2 : j < (csF i).length := by rw [(hF i (by omega)).2.1.1]; exact hj'
                simp only [List.getD_eq_getElem?_getD, List.getElem?_eq_getElem hj2, Option.getD_some]
                have := (hF i (by omega)).2.1.2 j hj2 hj'
                simpa only [e1] using this
            rwa [hll] at hv
          · obtain ⟨i, hi, rfl⟩ := List.getElem_of_mem hx
            rw [hget i hi]
            have hf := (hF i (by omega)).2.2
            simp only [val]
            split
            · rename_i hag
              exact .inl ⟨hag, _, rfl, hf⟩
            · rename_i hag
              obtain ⟨p, hp, hpc⟩ := fits_one hE (by simpa using hag) hf
              rw [hp] at hf ⊢
              exact .inr ⟨by simpa using hag, hf⟩
    · rename_i fs hu
      rw [Option.map_eq_some_iff] at hT
      obtain ⟨F, hF, rfl⟩ := hT
      obtain ⟨xs, n, _, _, hlen, hxs, hel⟩ := DataW.trod_struct hu h
      have all : ∀ f ∈ fs.toList, ∃ y, DataW.trod enc P w base spare held n f.type ((cs.drop f.offset).take (P.cellsOf f.type)) = some y := by
        intro f hf
        obtain ⟨i, hi, rfl⟩ := List.getElem_of_mem hf
        have := hel i (fs.toList[i]) (by simp at hi; simp [hi])
        rw [List.getElem?_eq_getElem (by simp at hi; omega)] at this
        exact ⟨_, this⟩
      have go : ∀ (l : List Field) (off : Nat) (F : Ty), fieldsOf (tyOf P d) P (P.cellsOf t) off l = some F → (∀ f ∈ l, ∃ y, DataW.trod enc P w base spare held n f.type ((cs.drop f.offset).take (P.cellsOf f.type)) = some y) → ∃ ps, CellsRel w (cs.drop off) ps ∧ Fits F ps := by
        intro l
        induction l with
        | nil =>
          intro off F hF _
          unfold fieldsOf at hF
          split at hF
          · rename_i ho
            injection hF with hF
            subst hF
            refine ⟨[], ?_, rfl⟩
            rw [List.drop_eq_nil_of_le (by omega)]
            exact ⟨rfl, fun i h => by simp at h⟩
          · cases hF
        | cons f r ihl =>
          intro off F hF hall
          unfold fieldsOf at hF
          split at hF
          · rename_i ho
            simp only [Option.bind_eq_bind, Option.bind_eq_some_iff, Option.some.injEq] at hF
            obtain ⟨A, hA, B, hB, rfl⟩ := hF
            obtain ⟨y, hy⟩ := hall f (by simp)
            obtain ⟨pa, ha, fa⟩ := ih f.type A n _ _ hA hy
            obtain ⟨pb, hb, fb⟩ := ihl _ B hB (fun g hg => hall g (by simp [hg]))
            refine ⟨pa ++ pb, ?_, pa, pb, rfl, fa, fb⟩
            rw [ho] at ha
            have := ha.append hb
            rwa [← List.drop_drop, List.take_append_drop] at this
          · cases hF
      obtain ⟨ps, h1, h2⟩ := go fs.toList 0 F hF all
      exact ⟨ps, by simpa using h1, h2⟩
    · rename_i m e hu
      split at hT
      · rename_i hsz
        rw [Option.map_eq_some_iff] at hT
        obtain ⟨E, hE, rfl⟩ := hT
        obtain ⟨xs, n, _, _, hlen, hxs, hel⟩ := DataW.trod_array hu h
        have go : ∀ (k : Nat), k ≤ m → ∃ ps, CellsRel w (cs.drop ((m - k) * P.cellsOf e)) ps ∧ FitsN (Fits E) k ps := by
          intro k
          induction k with
          | zero =>
            intro _
            refine ⟨[], ?_, rfl⟩
            rw [List.drop_eq_nil_of_le (by rw [hlen, hsz, Nat.sub_zero]; exact Nat.le_refl _)]
            exact ⟨rfl, fun i h => by simp at h⟩
          | succ k ihk =>
            intro hk
            obtain ⟨pb, hb, fb⟩ := ihk (by omega)
            have := hel (m - (k + 1)) (by omega)
            rw [List.getElem?_eq_getElem (by omega)] at this
            obtain ⟨pa, ha, fa⟩ := ih e E n _ _ hE this
            refine ⟨pa ++ pb, ?_, pa, pb, rfl, fa, fb⟩
            have h2 := ha.append hb
            rwa [show (m - k) * P.cellsOf e = (m - (k + 1)) * P.cellsOf e + P.cellsOf e by rw [← Nat.succ_mul]; congr 1; omega, ← List.drop_drop, List.take_append_drop] at h2
        obtain ⟨ps, h1, h2⟩ := go m (Nat.le_refl _)
        exact ⟨ps, by simpa using h1, h2⟩
      · cases hT
    · cases hT

/-- An argument of plain data. -/
theorem arg_open {d : Nat} {t : TypeId} {T : Ty} {v : Value} {r : Reach} {b0 : Nat} {dd : DataW H} {ps : List MemPlace} (hT : tyOf P d t = some T) (hval : Value.okWide P w r b0 t v) (hd : DataW.Trod enc P w base spare held t v dd ps) :
    ∃ pv, VRel (Old w) w noM v pv ∧ FitsV T pv := by
  obtain ⟨fuel, hf⟩ := hd
  obtain ⟨qs, hq, hfit⟩ := trod_fits d t T fuel _ _ hT hf
  cases d with
  | zero => simp [tyOf] at hT
  | succ d =>
    have hT' := hT
    have agg : T.isAgg = true → (∃ cs, v = .agg cs) → ∃ pv, VRel (Old w) w noM v pv ∧ FitsV T pv := by
      rintro ha ⟨cs, rfl⟩
      refine ⟨.agg qs, .agg cs qs (by simpa [Value.cells] using hq.1) (fun i h1 h2 => ?_), .inl ⟨ha, _, rfl, hfit⟩⟩
      have := hq.2 i (by simpa [Value.cells] using h1) h2
      simpa [Value.cells] using this
    have one : T.isAgg = false → v.cells = #[v] → ∃ pv, VRel (Old w) w noM v pv ∧ FitsV T pv := by
      intro ha hv
      obtain ⟨p, rfl, _⟩ := fits_one hT' ha hfit
      refine ⟨p, ?_, .inr ⟨ha, hfit⟩⟩
      have := hq.2 0 (by rw [hv]; simp) (by simp)
      simpa [hv] using this
    unfold tyOf at hT
    unfold Value.okWide at hval
    split at hT
    · rename_i hu
      injection hT with hT
      subst hT
      rw [hu] at hval
      exact one rfl (by cases v <;> first | rfl | (exfalso; simp only [Cell.okWide, Cell.ok, hu] at hval))
    · rename_i hu
      injection hT with hT
      subst hT
      rw [hu] at hval
      exact one rfl (by cases v <;> first | rfl | (exfalso; simp only [Cell.okWide, Cell.ok, hu] at hval))
    · rename_i hu
      injection hT with hT
      subst hT
      rw [hu] at hval
      exact one rfl (by cases v <;> first | rfl | (exfalso; simp only [Cell.okWide, Cell.ok, hu] at hval))
    · rename_i hu
      split at hT
      · cases hT
      rw [Option.map_eq_some_iff] at hT
      obtain ⟨e, _, rfl⟩ := hT
      rw [hu] at hval
      exact one rfl (by cases v <;> first | rfl | (exfalso; simp only [Cell.okWide, Cell.ok, hu] at hval))
    · rename_i hu
      rw [Option.map_eq_some_iff] at hT
      obtain ⟨e, _, rfl⟩ := hT
      rw [hu] at hval
      obtain ⟨cs, rfl, _⟩ := hval
      exact agg rfl ⟨cs, rfl⟩
    · rename_i hu
      split at hT
      · rw [Option.map_eq_some_iff] at hT
        obtain ⟨e, _, rfl⟩ := hT
        rw [hu] at hval
        obtain ⟨cs, rfl, _⟩ := hval
        exact agg rfl ⟨cs, rfl⟩
      · cases hT
    · cases hT
end
end Go.Vm
