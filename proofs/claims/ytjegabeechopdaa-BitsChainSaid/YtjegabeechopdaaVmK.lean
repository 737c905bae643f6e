/- The VM's instructions that change the local heap: sound. -/
import Derived.Test.YtjegabeechopdaaVmJ
import Derived.Laws.Append
import Derived.Laws.AppendOwn
set_option linter.unusedSimpArgs false
set_option linter.unusedVariables false
namespace Go.Vm
open Go Go.RowKit
section
variable {P : Program} {gl : Nat → Option PV} {A : Nat → Prop} {w0 : World} {F : Nat → Prop} {m : Nat → Slot} {w : World} {G H : Hp} {a : Act} {env : Env} {o : Oper} {p : PV} {own : Bool}

def ORel (F : Nat → Prop) (m : Nat → Slot) (w : World) (v : Value) (r : Option PV) : Prop := ∀ p, r = some p → VRel F w m v p

/-- An instruction that changes the local heap from H to H', sound here. -/
def EOk (P : Program) (gl : Nat → Option PV) (A : Nat → Prop) (w0 : World) (F : Nat → Prop) (m : Nat → Slot) (w : World) (a : Act) (o : Oper) (r : Option PV) (H' : Hp) : Prop :=
  ∃ v w' F' m', ((execOp a.eval o).run P w = .ok (.value v) w' ∨ ((execOp a.eval o).run P w = .ok .skip w' ∧ v = undef)) ∧ Sim gl A w0 F' m' w' H' ∧ Ev F m w F' m' w' ∧ ORel F' m' w' v r ∧ ∀ b, H'.n ≤ b → m' b = .unborn

theorem heap_setRow_size (w : World) (β : Nat) (cs : Array Value) : (w.setRow β cs).heap.size = w.heap.size := by simp [World.setRow]

theorem below_setRow {w0 w : World} {β : Nat} {cs : Array Value} (h : Below w0.heap.size w0 w) (hb : w0.heap.size ≤ β) : Below w0.heap.size w0 (w.setRow β cs) :=
  ⟨h.os, h.tape, h.output, by rw [heap_setRow_size]; exact h.size, fun k hk => (setRow_other w β k cs (by omega)).trans (h.block k hk)⟩

theorem Hp.set_f {H : Hp} {b : Nat} {k k' : Blk} {c : Nat} (h : H.f b = some k) : (H.set b k').f c = if c = b then some k' else H.f c := by
  unfold Hp.set
  simp only
  by_cases e : c = b
  · subst e; rw [h]; simp
  · cases H.f c <;> simp [e]

/-- A row of the call's own is written. -/
theorem Sim.write (sim : Sim gl A w0 F m w H) {b β : Nat} {k : Blk} {cs cs' : Array Value} {T : TypeId} {g' : Nat} {xs' : List PV} (hk : H.f b = some k) (hm : m b = .live β k.sz k.g) (hc : w.heap[β]? = some (.cells cs T (0, 0))) (hs : cs'.size = cs.size)
    (hg : k.g ≤ g') (h1 : xs'.length * k.sz ≤ cs'.size) (h2 : ∀ x ∈ xs', x.cells.length = k.sz) (h3 : ∀ i (h : i < xs'.length) j (h2 : j < (xs'[i]).cells.length), ∃ v, cs'[i * k.sz + j]? = some v ∧ VRel F w m v (xs'[i]).cells[j]) :
    Sim gl A w0 F (mput m b (.live β k.sz g')) (w.setRow β cs') (H.set b ⟨g', k.sz, xs'⟩) ∧ Ev F m w F (mput m b (.live β k.sz g')) (w.setRow β cs') := by
  have hlive := sim.live b β k.sz k.g hm
  have ev : Ev F m w F (mput m b (.live β k.sz g')) (w.setRow β cs') := by
    refine ⟨by rw [heap_setRow_size]; exact Nat.le_refl _, fun _ h => h, sim.fnl, fun x _ hx => setRow_other w β x cs' (fun e => hx ⟨b, _, _, e ▸ hm⟩), fun x ⟨c, sz, g, hc'⟩ => ?_, fun x hx => ?_, fun c => ?_, sim.liv⟩
    · by_cases e : c = b
      · subst e
        rw [mput_eq] at hc'
        injection hc' with hc' _ _
        exact .inl ⟨c, _, _, hc' ▸ hm⟩
      · rw [mput_ne _ _ e] at hc'
        exact .inl ⟨c, sz, g, hc'⟩
    · unfold rowSize
      by_cases e : x = β
      · subst e
        rw [setRow_heap w x cs cs' T (0, 0) hc, hc]
        exact hs
      · rw [setRow_other w β x cs' e]
    · by_cases e : c = b
      · subst e
        rw [hm, mput_eq]
        exact .inr ⟨β, g', rfl, hg, fun _ => rfl⟩
      · rw [mput_ne _ _ e]; exact slot_refl _
  have live' : ∀ c β' sz g, mput m b (.live β k.sz g') c = .live β' sz g → ∃ sz0 g0, m c = .live β' sz0 g0 := by
    intro c β' sz g h
    by_cases e : c = b
    · subst e
      rw [mput_eq] at h
      injection h with h _ _
      subst h
      exact ⟨_, _, hm⟩
    · rw [mput_ne _ _ e] at h
      exact ⟨_, _, h⟩
  refine ⟨⟨below_setRow sim.below hlive.1, ?_, ?_, sim.frz, ?_, ?_, fun g p hp => (sim.glob g p hp).monoNo ev⟩, ev⟩
  · intro c β' sz g h
    obtain ⟨sz0, g0, h0⟩ := live' c β' sz g h
    rw [heap_setRow_size]
    exact sim.live c β' sz0 g0 h0
  · intro c c' β' sz g sz' g'' h h'
    obtain ⟨_, _, h0⟩ := live' c β' sz g h
    obtain ⟨_, _, h0'⟩ := live' c' β' sz' g'' h'
    exact sim.inj c c' β' _ _ _ _ h0 h0'
  · intro x hx
    rw [heap_setRow_size]
    exact sim.frzlt x hx
  · intro c k' hk' hnu
    rw [Hp.set_f hk] at hk'
    by_cases e : c = b
    · subst e
      rw [if_pos rfl] at hk'
      injection hk' with hk'
      subst hk'
      exact .inl ⟨β, mput_eq _ _ _, cs', T, setRow_heap w β cs cs' T (0, 0) hc, h1, h2, fun i hi j hj => by
        obtain ⟨v, hv, hr⟩ := h3 i hi j hj
        exact ⟨v, hv, hr.mono ev⟩⟩
    · rw [if_neg e] at hk'
      rw [mput_ne _ _ e] at hnu ⊢
      rcases sim.blk c k' hk' hnu with ⟨β', hm', hok⟩ | hv
      case inr => exact .inr hv
      refine .inl ⟨β', hm', hok.mono ev (setRow_other w β β' cs' fun e2 => e (sim.inj c b β' _ _ _ _ hm' (e2 ▸ hm)))⟩

theorem Sim.drew (sim : Sim gl A w0 F m w H) : Sim gl A w0 F m w.drew H ∧ Ev F m w F m w.drew := by
  have ev : Ev F m w F m w.drew := ⟨Nat.le_refl _, fun _ h => h, sim.fnl, fun _ _ _ => rfl, fun _ h => .inl h, fun _ _ => rfl, fun _ => slot_refl _, sim.liv⟩
  refine ⟨⟨sim.below.drew, sim.live, sim.inj, sim.frz, sim.frzlt, fun b k hk hnu => ?_, fun g p hp => (sim.glob g p hp).monoNo ev⟩, ev⟩
  rcases sim.blk b k hk hnu with ⟨β, hm, hok⟩ | hv
  case inr => exact .inr hv
  exact .inl ⟨β, hm, hok.mono ev rfl⟩

/-- A row of the call's own lies anew. -/
theorem Sim.regrow (sim : Sim gl A w0 F m w H) {b : Nat} {k : Blk} {cs' : Array Value} {T : TypeId} {xs' : List PV} (hk : H.f b = some k) (hm : m b = .virt k.g ∨ ∃ β, m b = .live β k.sz k.g) (h1 : xs'.length * k.sz ≤ cs'.size) (h2 : ∀ x ∈ xs', x.cells.length = k.sz)
    (h3 : ∀ i (h : i < xs'.length) j (h2 : j < (xs'[i]).cells.length), ∃ v, cs'[i * k.sz + j]? = some v ∧ VRel F w m v (xs'[i]).cells[j]) :
    Sim gl A w0 F (mput m b (.live w.heap.size k.sz (k.g + 1))) (w.alloc (.cells cs' T)) (H.set b ⟨k.g + 1, k.sz, xs'⟩) ∧ Ev F m w F (mput m b (.live w.heap.size k.sz (k.g + 1))) (w.alloc (.cells cs' T)) := by
  have ev : Ev F m w F (mput m b (.live w.heap.size k.sz (k.g + 1))) (w.alloc (.cells cs' T)) := by
    refine ⟨by rw [size_alloc]; omega, fun _ h => h, sim.fnl, fun x hx _ => heap_push_lt _ _ hx, fun x ⟨c, sz, g, hc'⟩ => ?_, fun x hx => rowSize_lt _ _ hx, fun c => ?_, sim.liv⟩
    · by_cases e : c = b
      · subst e
        rw [mput_eq] at hc'
        injection hc' with hc' _ _
        exact .inr (by omega)
      · rw [mput_ne _ _ e] at hc'
        exact .inl ⟨c, sz, g, hc'⟩
    by_cases e : c = b
    · subst e
      rw [mput_eq]
      rcases hm with hm | ⟨β, hm⟩
      · rw [hm]
        exact .inr (.inr ⟨_, _, _, rfl, by omega⟩)
      · rw [hm]
        exact .inr ⟨_, _, rfl, by omega, fun h => by omega⟩
    · rw [mput_ne _ _ e]; exact slot_refl _
  refine ⟨⟨sim.below.alloc sim.below.size _, ?_, ?_, sim.frz, ?_, ?_, fun g p hp => (sim.glob g p hp).monoNo ev⟩, ev⟩
  · intro c β' sz g h
    rw [size_alloc]
    by_cases e : c = b
    · subst e
      rw [mput_eq] at h
      injection h with h _ _
      subst h
      exact ⟨sim.below.size, by omega, fun hf => absurd (sim.frzlt _ hf) (by omega)⟩
    · rw [mput_ne _ _ e] at h
      obtain ⟨a1, a2, a3⟩ := sim.live c β' sz g h
      exact ⟨a1, by omega, a3⟩
  · intro c c' β' sz g sz' g' h h'
    by_cases e : c = b <;> by_cases e' : c' = b
    · rw [e, e']
    · subst e
      rw [mput_eq] at h
      rw [mput_ne _ _ e'] at h'
      injection h with h _ _
      subst h
      exact absurd (sim.live _ _ _ _ h').2.1 (by omega)
    · subst e'
      rw [mput_eq] at h'
      rw [mput_ne _ _ e] at h
      injection h' with h' _ _
      subst h'
      exact absurd (sim.live _ _ _ _ h).2.1 (by omega)
    · rw [mput_ne _ _ e] at h
      rw [mput_ne _ _ e'] at h'
      exact sim.inj c c' β' _ _ _ _ h h'
  · intro x hx
    rw [size_alloc]
    have := sim.frzlt x hx
    omega
  · intro c k' hk' hnu
    rw [Hp.set_f hk] at hk'
    by_cases e : c = b
    · subst e
      rw [if_pos rfl] at hk'
      injection hk' with hk'
      subst hk'
      exact .inl ⟨w.heap.size, mput_eq _ _ _, cs', T, heap_push_eq _ _, h1, h2, fun i hi j hj => by
        obtain ⟨v, hv, hr⟩ := h3 i hi j hj
        exact ⟨v, hv, hr.mono ev⟩⟩
    · rw [if_neg e] at hk'
      rw [mput_ne _ _ e] at hnu ⊢
      rcases sim.blk c k' hk' hnu with ⟨β', hm', hok⟩ | hv
      case inr => exact .inr hv
      exact .inl ⟨β', hm', hok.mono ev (heap_push_lt _ _ (sim.live _ _ _ _ hm').2.1)⟩

/-- A block as it is, its number risen. -/
theorem Sim.bump (sim : Sim gl A w0 F m w H) {b : Nat} {k : Blk} (hk : H.f b = some k) (hnu : m b ≠ .unborn) :
    ∃ s', Sim gl A w0 F (mput m b s') w (H.set b ⟨k.g + 1, k.sz, k.xs⟩) ∧ Ev F m w F (mput m b s') w ∧
      ((∃ β, m b = .live β k.sz k.g ∧ s' = .live β k.sz (k.g + 1)) ∨ (m b = .virt k.g ∧ k.xs = [] ∧ s' = .virt (k.g + 1))) := by
  have main : ∀ s', (∀ β sz g, s' = .live β sz g → ∃ sz0 g0, m b = .live β sz0 g0) → (match m b with
      | .unborn => True
      | .dead => s' = .dead
      | .virt g => s' = .dead ∨ (∃ g', s' = .virt g' ∧ g ≤ g') ∨ ∃ β' sz' g', s' = .live β' sz' g' ∧ g < g'
      | .live β sz g => s' = .dead ∨ ∃ β' g', s' = .live β' sz g' ∧ g ≤ g' ∧ (g = g' → β = β')) → s' ≠ .unborn →
      ((∃ β, m b = .live β k.sz k.g ∧ BlkOk F m w β k ∧ s' = .live β k.sz (k.g + 1)) ∨ (m b = .virt k.g ∧ k.xs = [] ∧ s' = .virt (k.g + 1))) →
      Sim gl A w0 F (mput m b s') w (H.set b ⟨k.g + 1, k.sz, k.xs⟩) ∧ Ev F m w F (mput m b s') w := by
    intro s' hl hsl hsu hcase
    have live' : ∀ c β' sz g, mput m b s' c = .live β' sz g → ∃ sz0 g0, m c = .live β' sz0 g0 := by
      intro c β' sz g h
      by_cases e : c = b
      · subst e
        rw [mput_eq] at h
        exact hl _ _ _ h
      · rw [mput_ne _ _ e] at h
        exact ⟨_, _, h⟩
    have ev : Ev F m w F (mput m b s') w := by
      refine ⟨Nat.le_refl _, fun _ h => h, sim.fnl, fun _ _ _ => rfl, fun x ⟨c, sz, g, hc⟩ => ?_, fun _ _ => rfl, fun c => ?_, sim.liv⟩
      · obtain ⟨sz0, g0, h0⟩ := live' c x sz g hc
        exact .inl ⟨c, sz0, g0, h0⟩
      · by_cases e : c = b
        · subst e
          rw [mput_eq]
          exact hsl
        · rw [mput_ne _ _ e]; exact slot_refl _
    refine ⟨⟨sim.below, fun c β sz g h => ?_, fun c c' β sz g sz' g' h h' => ?_, sim.frz, sim.frzlt, fun c k' hk' hnu => ?_, fun g p hp => (sim.glob g p hp).monoNo ev⟩, ev⟩
    · obtain ⟨sz0, g0, h0⟩ := live' c β sz g h
      exact sim.live c β sz0 g0 h0
    · obtain ⟨_, _, h0⟩ := live' c β sz g h
      obtain ⟨_, _, h0'⟩ := live' c' β sz' g' h'
      exact sim.inj c c' β _ _ _ _ h0 h0'
    · rw [Hp.set_f hk] at hk'
      by_cases e : c = b
      · subst e
        rw [if_pos rfl] at hk'
        injection hk' with hk'
        subst hk'
        rw [mput_eq]
        rcases hcase with ⟨β, _, hok, rfl⟩ | ⟨_, hxs, rfl⟩
        · exact .inl ⟨β, rfl, hok.mono ev rfl⟩
        · exact .inr ⟨rfl, hxs⟩
      · rw [if_neg e] at hk'
        rw [mput_ne _ _ e] at hnu ⊢
        rcases sim.blk c k' hk' hnu with ⟨β', hm', hok⟩ | hv
        case inr => exact .inr hv
        exact .inl ⟨β', hm', hok.mono ev rfl⟩
  rcases sim.blk b k hk hnu with ⟨β, hm, hok⟩ | ⟨hm, hxs⟩
  · obtain ⟨s1, e1⟩ := main (.live β k.sz (k.g + 1)) (fun β' sz g h => by injection h with h; subst h; exact ⟨_, _, hm⟩) (by rw [hm]; exact .inr ⟨_, _, rfl, by omega, fun _ => rfl⟩) (by simp) (.inl ⟨β, hm, hok, rfl⟩)
    exact ⟨_, s1, e1, .inl ⟨β, hm, rfl⟩⟩
  · obtain ⟨s1, e1⟩ := main (.virt (k.g + 1)) (fun β' sz g h => by cases h) (by rw [hm]; exact .inr (.inl ⟨_, rfl, by omega⟩)) (by simp) (.inr ⟨hm, hxs, rfl⟩)
    exact ⟨_, s1, e1, .inr ⟨hm, hxs, rfl⟩⟩

/-- What the cells of a row are when some are written over. -/
theorem rowWrite_get (cur : Array Value) (vs : List Value) (o : Nat) (h : o + vs.length ≤ cur.size) (k : Nat) :
    ((cur.toList.take o ++ vs ++ cur.toList.drop (o + vs.length)).toArray)[k]? = if o ≤ k ∧ k < o + vs.length then vs[k - o]? else cur[k]? := by
  simp only [List.getElem?_toArray]
  have e1 : (cur.toList.take o).length = o := by simp; omega
  by_cases h1 : k < o
  · rw [if_neg (by omega), List.append_assoc, List.getElem?_append_left (by omega), List.getElem?_take_of_lt h1, Array.getElem?_toList]
  · by_cases h2 : k < o + vs.length
    · rw [if_pos (by omega), List.append_assoc, List.getElem?_append_right (by omega), List.getElem?_append_left (by omega), e1]
    · rw [if_neg (by omega), List.getElem?_append_right (by simp; omega), List.getElem?_drop, Array.getElem?_toList]
      congr 1
      simp
      omega

theorem rowWrite_size (cur : Array Value) (vs : List Value) (o : Nat) (h : o + vs.length ≤ cur.size) : ((cur.toList.take o ++ vs ++ cur.toList.drop (o + vs.length)).toArray).size = cur.size := by
  simp; omega

theorem mput_same {m : Nat → Slot} {b : Nat} {s : Slot} (h : m b = s) : mput m b s = m := by
  funext c
  by_cases e : c = b
  · subst e; rw [mput_eq, h]
  · exact mput_ne _ _ e

theorem ok_store (sim : Sim gl A w0 F m w H) (hub : ∀ b, H.n ≤ b → m b = .unborn) {t : TypeId} {x v : Operand} {rx rv : RO} {n : Nat} {r : Option PV} {H' : Hp} (ho : o.op = .store t x v) (hn : szOf P t = some n) (hx : roOf x = some rx) (hv : roOf v = some rv)
    (he : ERel F m w a env (rx.reads ++ rv.reads)) (hp : stepE (RO.ev gl env) H (.store n rx rv) = some (r, H')) : EOk P gl A w0 F m w a o r H' := by
  simp only [stepE, Option.bind_eq_bind, Option.bind_eq_some_iff] at hp
  obtain ⟨q, hq, d, hd, hp⟩ := hp
  obtain ⟨e1, e2⟩ := he.app
  have hrd := RO.rel sim hx e1 hd
  have hrq := RO.rel sim hv e2 hq
  split at hp
  · rename_i b g i off
    simp only [Option.bind_eq_some_iff] at hp
    obtain ⟨k, hk, hp⟩ := hp
    split at hp
    · rename_i hc
      simp only [Option.bind_eq_some_iff, Option.pure_def, Option.some.injEq, Prod.mk.injEq] at hp
      obtain ⟨xs', hxs', rfl, rfl⟩ := hp
      obtain ⟨hf, hg⟩ := Hp.blk_some hk
      obtain ⟨β, hm, ⟨cs, T, h1, h2, h3, h4⟩, hev⟩ := ptr_at sim hrd hf hg
      obtain ⟨vs, vr⟩ := hrq.size
      -- the element and its new form
      unfold putAt at hxs'
      simp only [Option.bind_eq_bind, Option.bind_eq_some_iff] at hxs'
      obtain ⟨e, he', hxs'⟩ := hxs'
      obtain ⟨hi, rfl⟩ := List.getElem?_eq_some_iff.1 he'
      have hel := h3 _ (List.getElem_mem hi)
      have hnew : ∃ e', xs' = k.xs.set i e' ∧ e'.cells = splice (k.xs[i]).cells off q.cells ∧ off + q.cells.length ≤ (k.xs[i]).cells.length := by
        split at hxs'
        · rename_i h
          injection hxs' with hxs'
          obtain ⟨rfl, hl⟩ := h
          exact ⟨q, hxs'.symm, by simp [splice, hl], by omega⟩
        · split at hxs'
          · rename_i h
            injection hxs' with hxs'
            exact ⟨_, hxs'.symm, rfl, h⟩
          · cases hxs'
      obtain ⟨e', rfl, hcells, hfit⟩ := hnew
      have hlo : i * k.sz + k.sz ≤ cs.size := by
        have : (i + 1) * k.sz ≤ k.xs.length * k.sz := Nat.mul_le_mul_right _ hi
        rw [Nat.add_mul, Nat.one_mul] at this
        omega
      have hvl : (a.eval v).cells.toList.length = q.cells.length := by simpa using vs
      have hone : ∀ u ∈ (a.eval v).cells.toList, u.oneCell' = true := by
        intro u hu
        obtain ⟨j, hj, rfl⟩ := List.mem_iff_getElem.1 hu
        have hj2 : j < q.cells.length := by rw [← hvl]; exact hj
        rw [Array.getElem_toList]
        exact (vr j (by simpa using hj) hj2).one (List.all_eq_true.1 hc.2 _ (List.getElem_mem hj2))
      have hst := run_storeCells_at P β (i * k.sz + off) T (a.eval v).cells.toList 0 cs w h1 (by omega) hone
      have hrun : (execOp a.eval o).run P w = .ok .skip (w.setRow β (cs.toList.take (i * k.sz + off) ++ (a.eval v).cells.toList ++ cs.toList.drop (i * k.sz + off + (a.eval v).cells.toList.length)).toArray) := by
        simp only [execOp, ho, hev, Instr.storeAt, Instr.sureAddr, storeVar, Sem.run_bind, Sem.run_pure, Result.andThen_ok, run_sizeOf' hn w, show ¬ ((a.eval v).cells.size ≠ n) by omega, if_false, hst, Nat.add_zero]
      obtain ⟨s, ev⟩ := sim.write (g' := k.g) (xs' := k.xs.set i e') hf hm h1 (rowWrite_size cs (a.eval v).cells.toList (i * k.sz + off) (by omega)) (Nat.le_refl _) (by rw [rowWrite_size cs (a.eval v).cells.toList (i * k.sz + off) (by omega)]; simpa using h2)
        (by
          intro y hy
          rcases List.mem_or_eq_of_mem_set hy with hy | rfl
          · exact h3 _ hy
          · rw [hcells, splice_length hfit]; exact hel)
        (by
          intro i' hi' j hj
          simp only [List.length_set] at hi'
          by_cases ei : i' = i
          · subst ei
            simp only [List.getElem_set_self] at hj ⊢
            rw [rowWrite_get cs (a.eval v).cells.toList (i' * k.sz + off) (by omega)]
            have hjs : j < k.sz := by rw [hcells, splice_length hfit] at hj; omega
            have hg2 := splice_get hfit j
            rw [← hcells, List.getElem?_eq_getElem hj] at hg2
            by_cases hin : off ≤ j ∧ j < off + q.cells.length
            · rw [if_pos hin] at hg2
              rw [if_pos (by omega)]
              obtain ⟨h5, h6⟩ := List.getElem?_eq_some_iff.1 hg2.symm
              refine ⟨(a.eval v).cells[j - off]'(by omega), ?_, ?_⟩
              · rw [show i' * k.sz + j - (i' * k.sz + off) = j - off by omega, Array.getElem?_toList]
                exact Array.getElem?_eq_getElem _
              · rw [← h6]; exact vr _ _ h5
            · rw [if_neg hin] at hg2
              rw [if_neg (by omega)]
              obtain ⟨h5, h6⟩ := List.getElem?_eq_some_iff.1 hg2.symm
              obtain ⟨u, hu, hur⟩ := h4 i' hi j h5
              exact ⟨u, hu, by rw [← h6]; exact hur⟩
          · have hne : (k.xs.set i e')[i']'(by simpa using hi') = k.xs[i'] := List.getElem_set_ne (Ne.symm ei) _
            have hj' : j < (k.xs[i']).cells.length := by rw [← hne]; exact hj
            have hj2 : j < k.sz := by rw [← h3 _ (List.getElem_mem hi')]; exact hj'
            rw [rowWrite_get cs (a.eval v).cells.toList (i * k.sz + off) (by omega)]
            have hap : ¬ (i * k.sz + off ≤ i' * k.sz + j ∧ i' * k.sz + j < i * k.sz + off + (a.eval v).cells.toList.length) := by
              rcases Nat.lt_or_gt_of_ne ei with h | h
              · have : (i' + 1) * k.sz ≤ i * k.sz := Nat.mul_le_mul_right _ h
                rw [Nat.add_mul] at this
                omega
              · have : (i + 1) * k.sz ≤ i' * k.sz := Nat.mul_le_mul_right _ h
                rw [Nat.add_mul] at this
                omega
            rw [if_neg hap]
            obtain ⟨u, hu, hur⟩ := h4 i' hi' j hj'
            exact ⟨u, hu, by simp only [hne]; exact hur⟩)
      rw [mput_same hm] at s ev
      exact ⟨undef, _, F, m, .inr ⟨hrun, rfl⟩, s, ev, fun p hp => by simp at hp, fun c hc' => hub c hc'⟩
    · cases hp
  · cases hp
end
end Go.Vm
