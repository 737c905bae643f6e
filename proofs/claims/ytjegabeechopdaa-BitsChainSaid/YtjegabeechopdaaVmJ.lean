/- Slices that are made: sound. -/
import Derived.Test.YtjegabeechopdaaVmI
set_option linter.unusedSimpArgs false
set_option linter.unusedVariables false
namespace Go.Vm
open Go Go.RowKit

def flat (l : List PV) : List PV := l.flatMap PV.cells

theorem flat_length {s : Nat} : ∀ {l : List PV}, (∀ e ∈ l, e.cells.length = s) → (flat l).length = l.length * s
  | [], _ => by simp [flat]
  | x :: l, h => by
    have ih := flat_length (l := l) (fun e he => h e (by simp [he]))
    unfold flat at ih ⊢
    simp only [List.flatMap_cons, List.length_append, ih, h x (by simp), List.length_cons, Nat.add_mul, Nat.one_mul]
    omega

theorem flat_get {s : Nat} : ∀ {l : List PV}, (∀ e ∈ l, e.cells.length = s) → ∀ i (h : i < l.length) j, j < s → (flat l)[i * s + j]? = (l[i]).cells[j]?
  | [], _, i, h, _, _ => absurd h (by simp)
  | x :: l, h, i, hi, j, hj => by
    have hx := h x (by simp)
    cases i with
    | zero =>
      simp only [flat, List.flatMap_cons, Nat.zero_mul, Nat.zero_add, List.getElem_cons_zero]
      exact List.getElem?_append_left (by omega)
    | succ i =>
      have ih := flat_get (l := l) (fun e he => h e (by simp [he])) i (by simpa using hi) j hj
      simp only [flat, List.flatMap_cons, List.getElem_cons_succ] at ih ⊢
      rw [List.getElem?_append_right (by rw [hx, Nat.add_mul]; omega), hx, ← ih]
      congr 1
      rw [Nat.add_mul]; omega

theorem flat_set {s : Nat} : ∀ {l : List PV} (i : Nat) (v : PV), (∀ e ∈ l, e.cells.length = s) → i < l.length → v.cells.length = s → flat (l.set i v) = splice (flat l) (i * s) v.cells
  | [], i, v, _, h, _ => absurd h (by simp)
  | x :: l, i, v, h, hi, hv => by
    have hx := h x (by simp)
    cases i with
    | zero =>
      simp only [flat, List.set_cons_zero, List.flatMap_cons, splice, Nat.zero_mul, List.take_zero, List.nil_append, Nat.zero_add]
      rw [List.drop_append_of_le_length (by omega), hv, ← hx, List.drop_length, List.nil_append]
    | succ i =>
      have ih := flat_set (l := l) i v (fun e he => h e (by simp [he])) (by simpa using hi) hv
      simp only [flat, List.set_cons_succ, List.flatMap_cons] at ih ⊢
      rw [ih]
      unfold splice
      have e1 : (i + 1) * s = x.cells.length + i * s := by rw [Nat.add_mul, hx]; omega
      rw [e1, Nat.add_assoc, List.take_length_add_append, List.drop_length_add_append, List.append_assoc, List.append_assoc, List.append_assoc]

theorem flat_replicate_get (z : PV) (s : Nat) (hz : z.cells.length = s) (n k : Nat) (h : k < n * s) : (flat (List.replicate n z))[k]? = z.cells[k % s]? := by
  have hs : 0 < s := by rcases Nat.eq_zero_or_pos s with e | e; (subst e; simp at h); exact e
  have hk : k = (k / s) * s + k % s := by rw [Nat.mul_comm]; exact (Nat.div_add_mod k s).symm
  have hi : k / s < n := Nat.div_lt_of_lt_mul (by rw [Nat.mul_comm]; exact h)
  have := flat_get (l := List.replicate n z) (s := s) (fun e he => by rw [List.eq_of_mem_replicate he]; exact hz) (k / s) (by simpa using hi) (k % s) (Nat.mod_lt _ hs)
  rw [← hk] at this
  rw [this]
  simp

theorem fillE_rel {ev : RO → Option PV} {s : Nat} : ∀ (ps : List (Nat × Operand)) (es : List (Nat × RO)) (l l' : List PV), elemsOf ps = some es → (∀ e ∈ l, e.cells.length = s) → fillE ev s es l = some l' →
    partsOf (fun i => some (i * s, s)) ps = some (es.map fun x => (x.1 * s, s, x.2)) ∧ fillP ev (es.map fun x => (x.1 * s, s, x.2)) (flat l) = some (flat l') ∧ (∀ e ∈ l', e.cells.length = s) ∧ l'.length = l.length
  | [], es, l, l', h, hl, hf => by
    simp [elemsOf] at h
    subst h
    simp [fillE] at hf
    subst hf
    exact ⟨rfl, rfl, hl, rfl⟩
  | (i, x) :: ps, es, l, l', h, hl, hf => by
    simp only [elemsOf, Option.bind_eq_bind, Option.bind_eq_some_iff, Option.some.injEq] at h
    obtain ⟨r, hr, es', hes, rfl⟩ := h
    simp only [fillE, Option.bind_eq_bind, Option.bind_eq_some_iff] at hf
    obtain ⟨v, hv, hf⟩ := hf
    split at hf
    · rename_i hc
      have hl2 : ∀ e ∈ l.set i v, e.cells.length = s := by
        intro e he
        rcases List.mem_or_eq_of_mem_set he with he | rfl
        · exact hl e he
        · exact hc.1
      obtain ⟨h1, h2, h3, h4⟩ := fillE_rel ps es' (l.set i v) l' hes hl2 hf
      refine ⟨by simp [partsOf, hr, h1], ?_, h3, by simpa using h4⟩
      simp only [List.map_cons, fillP, hv, Option.bind_eq_bind, Option.bind_some]
      rw [if_pos ⟨hc.1, by rw [flat_length hl, ← Nat.succ_mul]; exact Nat.mul_le_mul_right s hc.2⟩, ← flat_set i v hl hc.2 hc.1]
      exact h2
    · cases hf

section
variable {P : Program} {gl : Nat → Option PV} {A : Nat → Prop} {w0 : World} {F : Nat → Prop} {m : Nat → Slot} {w : World} {G H : Hp} {a : Act} {env : Env} {o : Oper} {p : PV} {own : Bool}

theorem made_rel {z : Value} {q : PV} {n s : Nat} (h : VRel F w m z q) (hs : q.cells.length = s) : CsRel F m w ((Array.range (n * s)).map (z.cells[· % z.cells.size]!)) (flat (List.replicate n q)) := by
  have hsz := h.size
  refine .of_get (by rw [flat_length (s := s) (fun e he => by rw [List.eq_of_mem_replicate he]; exact hs)]; simp) (fun k r hr => ?_)
  obtain ⟨hk, _⟩ := List.getElem?_eq_some_iff.1 hr
  rw [flat_length (s := s) (fun e he => by rw [List.eq_of_mem_replicate he]; exact hs)] at hk
  simp only [List.length_replicate] at hk
  rw [flat_replicate_get q s hs n k hk] at hr
  obtain ⟨h1, rfl⟩ := List.getElem?_eq_some_iff.1 hr
  have e : z.cells.size = s := by rw [hsz.1, hs]
  refine ⟨z.cells[k % s]'(by rw [e]; omega), ?_, hsz.2 _ _ h1⟩
  rw [Array.getElem?_eq_getElem (by simpa using hk)]
  simp [e]
  rw [getElem!_pos z.cells (k % s) (by rw [e]; omega)]

theorem blk_of_flat {cs : Array Value} {xs : List PV} {s : Nat} (h : CsRel F m w cs (flat xs)) (hs : ∀ e ∈ xs, e.cells.length = s) :
    xs.length * s ≤ cs.size ∧ ∀ i (hi : i < xs.length) j (hj : j < (xs[i]).cells.length), ∃ v, cs[i * s + j]? = some v ∧ VRel F w m v (xs[i]).cells[j] := by
  refine ⟨by rw [h.1, flat_length hs]; exact Nat.le_refl _, fun i hi j hj => ?_⟩
  have hj' : j < s := by rw [← hs _ (List.getElem_mem hi)]; exact hj
  exact h.get (by rw [flat_get hs i hi j hj']; exact List.getElem?_eq_getElem hj)

/-- A new row as a block of the call's own: the slice of all of it. -/
theorem ok_row (sim : Sim gl A w0 F m w G) {cs : Array Value} {T : TypeId} {xs : List PV} {s n : Nat} (h : CsRel F m w cs (flat xs)) (hs : ∀ e ∈ xs, e.cells.length = s) (hn : xs.length = n) (hm : n ≤ maxLen)
    (hX : G.f H.n = some ⟨0, s, xs⟩) (hU : m H.n = .unborn) (hr : (execOp a.eval o).run P w = .ok (.value (.slice (some ⟨w.heap.size, 0, none⟩) n n)) (w.alloc (.cells cs T))) :
    NOk P gl A w0 F m w G H.n a o (.ref H.n 0 0 n) 1 := by
  obtain ⟨b1, b2⟩ := blk_of_flat h hs
  obtain ⟨s', e⟩ := sim.alloc cs T H.n hU ⟨0, s, xs⟩ hX b1 hs b2
  refine ⟨_, _, F, _, hr, s', e, .ref _ _ _ _ _ _ ?_, fun b hb => mput_ne _ _ (by simpa using hb 0 (by omega))⟩
  rw [mput_eq]
  refine ⟨Nat.le_refl _, fun _ => ⟨by simp, Nat.le_refl _, hm, ?_⟩⟩
  unfold rowSize
  rw [heap_push_eq]
  simp only [Nat.zero_add]
  rw [← hn]; exact b1

/-- A new row that nobody writes. -/
theorem ok_rowF (sim : Sim gl A w0 F m w G) {cs : Array Value} {T : TypeId} {xs : List PV} {s n : Nat} (h : CsRel F m w cs (flat xs)) (hs : ∀ e ∈ xs, e.cells.length = s) (hn : xs.length = n) (hm : n ≤ maxLen) (N : Nat)
    (hr : (execOp a.eval o).run P w = .ok (.value (.slice (some ⟨w.heap.size, 0, none⟩) n n)) (w.alloc (.cells cs T))) : NOk P gl A w0 F m w G N a o (.lit xs) 0 := by
  obtain ⟨b1, b2⟩ := blk_of_flat h hs
  obtain ⟨s', e⟩ := sim.allocF (.cells cs T)
  subst hn
  refine ⟨_, _, _, m, hr, s', e, .lit ⟨w.heap.size, 0, none⟩ s xs (fun i j => cs.getD (i * s + j) undef) (.inr rfl) hm hs (fun i hi j hj => ?_) (fun i hi j hj => ?_), fun _ _ => rfl⟩
  · obtain ⟨v, hv, _⟩ := b2 i hi j (by rw [hs _ (List.getElem_mem hi)]; exact hj)
    rw [add_plain', cell_row (heap_push_eq _ _), Nat.zero_add, hv, Array.getD_eq_getD_getElem?, hv]
    rfl
  · obtain ⟨v, hv, hr⟩ := b2 i hi j hj
    rw [Array.getD_eq_getD_getElem?, hv]
    exact hr.mono e

theorem ok_bslice (sim : Sim gl A w0 F m w G) {t e : TypeId} {parts : Array (Nat × Operand)} {z : PV} {es : List (Nat × RO)} {s N : Nat} {ext : List Blk} (ho : o.op = .buildSlice t N parts) (hu : P.underlying t = some (.slice e)) (hs : szOf P e = some s)
    (hs0 : s ≠ 0) (hz : zeroOf P e = some z) (hes : elemsOf parts.toList = some es) (he : ERel F m w a env (readsL (es.map (·.2)))) (hp : stepN (RO.ev gl env) H (.bslice own s N z es) = some (p, ext))
    (hX : ∀ k (h : k < ext.length), G.f (H.n + k) = some ext[k]) (hU : ∀ k, k < ext.length → m (H.n + k) = .unborn) : NOk P gl A w0 F m w G H.n a o p ext.length := by
  simp only [stepN, Option.bind_eq_bind] at hp
  split at hp
  · rename_i hc
    obtain ⟨hzs, hb, hm⟩ := hc
    rw [Option.bind_eq_some_iff] at hp
    obtain ⟨l, hl, hp⟩ := hp
    obtain ⟨zv, hzv, hzz⟩ := run_zeroValue' hz w
    obtain ⟨f1, f2, f3, f4⟩ := fillE_rel parts.toList es (List.replicate N z) l hes (fun e he => by rw [List.eq_of_mem_replicate he]; exact hzs) hl
    have hln : l.length = N := by rw [f4]; simp
    have zr := ofZero_rel (F := F) (m := m) (w := w) hzz
    have zs : zv.cells.size = s := by rw [zr.size.1]; exact hzs
    -- the cells ahead of the parts
    have hbase : ∃ base : Array Value, (N * s = 0 → base = #[]) ∧ (N * s ≠ 0 → base = zv.cells) ∧ CsRel F m w ((Array.range (N * s)).map (base[· % base.size]!)) (flat (List.replicate N z)) := by
      by_cases h0 : N * s = 0
      · refine ⟨#[], fun _ => rfl, fun h => absurd h0 h, ?_⟩
        rw [h0]
        have : N = 0 := by rcases Nat.mul_eq_zero.1 h0 with h | h; exact h; exact absurd h hs0
        subst this
        exact ⟨by simp [flat], fun j h1 => absurd h1 (by simp)⟩
      · exact ⟨zv.cells, fun h => absurd h h0, fun _ => rfl, made_rel zr hzs⟩
    obtain ⟨base, hb0, hb1, hbc⟩ := hbase
    have hreads : ERel F m w a env (readsL ((es.map fun x => (x.1 * s, s, x.2)).map (·.2.2))) := by
      rw [List.map_map]
      exact he
    obtain ⟨cells', hfl, hcr⟩ := fill_rel sim (fun i => some (i * s, s)) parts.toList _ _ _ _ f1 hreads hbc f2
    have hrun : (execOp a.eval o).run P w = .ok (.value (.slice (some ⟨w.heap.size, 0, none⟩) N N)) (w.alloc (.cells cells' e)) := by
      by_cases h0 : N * s = 0
      · rw [hb0 h0] at hfl
        simp only [execOp, ho, Instr.buildSlice, Sem.run_bind, run_underlying hu w, Result.andThen_ok, run_sizeOf' hs w, show ¬ (N * s > 2 ^ 24) by omega, if_false, if_pos h0, Array.toList_map, hfl, newRow, run_newObj, Sem.run_pure]
        rfl
      · rw [hb1 h0] at hfl
        simp only [execOp, ho, Instr.buildSlice, Sem.run_bind, run_underlying hu w, Result.andThen_ok, run_sizeOf' hs w, show ¬ (N * s > 2 ^ 24) by omega, if_false, if_neg h0, hzv, Array.toList_map, hfl, newRow, run_newObj, Sem.run_pure]
        rfl
    split at hp
    · simp only [Option.some.injEq, Prod.mk.injEq] at hp
      obtain ⟨rfl, rfl⟩ := hp
      exact ok_row sim hcr f3 hln hm (by simpa using hX 0 (by simp)) (by simpa using hU 0 (by simp)) hrun
    · simp only [Option.some.injEq, Prod.mk.injEq] at hp
      obtain ⟨rfl, rfl⟩ := hp
      exact ok_rowF sim hcr f3 hln hm H.n hrun
  · cases hp

theorem ok_mkslice (sim : Sim gl A w0 F m w G) {t e : TypeId} {L C : Operand} {z : PV} {r : RO} {s : Nat} {ext : List Blk} (ho : o.op = .makeSlice t L C) (hu : P.underlying t = some (.slice e)) (hs : szOf P e = some s) (hz : zeroOf P e = some z)
    (hb : (P.info? e).any (fun i => decide (i.bytes ≤ 1048576)) = true) (hL : roOf L = some r) (hC : roOf C = some r) (he : ERel F m w a env r.reads) (hp : stepN (RO.ev gl env) H (.mkslice s z r) = some (p, ext))
    (hX : ∀ k (h : k < ext.length), G.f (H.n + k) = some ext[k]) (hU : ∀ k, k < ext.length → m (H.n + k) = .unborn) : NOk P gl A w0 F m w G H.n a o p ext.length := by
  simp only [stepN, Option.bind_eq_bind, Option.bind_eq_some_iff] at hp
  obtain ⟨q, hq, hp⟩ := hp
  have h1 := RO.rel sim hL he hq
  have h2 := RO.rel sim hC he hq
  generalize hv1 : a.eval L = v1 at h1
  generalize hv2 : a.eval C = v2 at h2
  split at hp
  · rename_i c
    split at hp
    · rename_i hc
      obtain ⟨h0, hmax, hzs⟩ := hc
      simp only [Option.some.injEq, Prod.mk.injEq] at hp
      obtain ⟨rfl, rfl⟩ := hp
      cases h1
      cases h2
      unfold zeroOf at hz
      simp only [Option.bind_eq_some_iff] at hz
      obtain ⟨ie, hie, zv, hzv, hzz⟩ := hz
      unfold szOf at hs
      rw [hie] at hs hb
      simp only [Option.map_some, Option.some.injEq, Option.any_some, decide_eq_true_eq] at hs hb
      have zr := ofZero_rel (F := F) (m := m) (w := w) hzz
      have hbyt : (ie.bytes : Int) * c ≤ 281474976710656 := by
        have : (ie.bytes : Int) * c ≤ 1048576 * 1048576 := Int.mul_le_mul (by omega) hmax h0 (by omega)
        omega
      have hrun := run_make (P := P) w t e ie zv hu hie hzv .i64 .i64 c c h0 (Int.le_refl _) hbyt (by omega)
      have hmk : CsRel F m w (madeCells zv.cells (c.toNat * ie.size)) (flat (List.replicate c.toNat z)) := by
        rw [hs]
        exact made_rel zr hzs
      refine ok_row (s := s) sim hmk (fun e he => by rw [List.eq_of_mem_replicate he]; exact hzs) (by simp) (by simp only [maxLen]; omega) (by simpa using hX 0 (by simp)) (by simpa using hU 0 (by simp)) (T := e) ?_
      simp only [execOp, ho, hv1, hv2, Sem.run_bind, hrun, Result.andThen_ok, Sem.run_pure]
    · cases hp
  · cases hp
end
end Go.Vm
