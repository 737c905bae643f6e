/- Calls: what one says of a function; a step of a region; softened arguments. -/
import Derived.Test.YtjegabeechopdaaVmO
set_option linter.unusedSimpArgs false
set_option linter.unusedVariables false
namespace Go.Vm
open Go Go.RowKit

/-! ### Values without memory of one's own -/
/-- Does a cell lead into no local heap? -/
def pure1 : PV → Bool
  | .int .. | .bool _ | .str _ | .nilp | .nilf | .nili | .nilm | .sl _ => true
  | _ => false

def pureE (p : PV) : Bool :=
  match p with
  | .agg l => l.all pure1
  | .tup _ => false
  | v => pure1 v

/-- A cell as a callee sees it that cannot write: own rows as they now are. -/
def soft1 (H : Hp) (bor : Bool) : PV → Option PV
  | .lit l => if l.all pureE then some (.sl l) else none
  | .ref b g off len =>
    if bor then
      match elems H (.ref b g off len) with
      | some l => if l.all pureE then some (.sl l) else none
      | none => none
    else none
  | .fn f caps => if caps.all pure1 then some (.fn f caps) else none
  | v => if pure1 v then some v else none

def softL (H : Hp) (bor : Bool) : List PV → Option (List PV)
  | [] => some []
  | v :: r => do
    let x ← soft1 H bor v
    let l ← softL H bor r
    some (x :: l)

def soft0 (H : Hp) (bor : Bool) : PV → Option PV
  | .agg l => (softL H bor l).map .agg
  | v => soft1 H bor v

def softT (H : Hp) (bor : Bool) : List PV → Option (List PV)
  | [] => some []
  | v :: r => do
    let x ← soft0 H bor v
    let l ← softT H bor r
    some (x :: l)

def soft (H : Hp) (bor : Bool) : PV → Option PV
  | .tup l => (softT H bor l).map .tup
  | v => soft0 H bor v

def softs (H : Hp) (bor : Bool) : List PV → Option (List PV)
  | [] => some []
  | v :: r => do
    let x ← soft H bor v
    let l ← softs H bor r
    some (x :: l)

/-- Has a value no slice and no pointer in it? -/
def scal1 : PV → Bool
  | .int .. | .bool _ | .str _ | .nilp | .nilf | .nili | .nilm => true
  | _ => false

def scal (p : PV) : Bool :=
  match p with
  | .agg l | .tup l => l.all scal1
  | v => scal1 v

section
variable {P : Program} {gl : Nat → Option PV} {A : Nat → Prop} {w0 : World} {F : Nat → Prop} {m : Nat → Slot} {w : World} {G H : Hp} {a : Act} {env : Env} {o : Oper} {p : PV} {own : Bool}

theorem pure1_rel {F' : Nat → Prop} (hF : ∀ β, F β → F' β) {v : Value} {p : PV} (h : VRel F w m v p) (hp : pure1 p = true) : VRel F' w noM v p := by
  have mono : ∀ {v p}, VRel F w noM v p → VRel F' w noM v p := fun h => h.monoV ⟨hF, fun _ _ => rfl, fun _ _ => rfl, fun _ => trivial, fun _ _ _ _ h => by simp [noM] at h⟩
  cases h with
  | int => exact .int _ _
  | bool => exact .bool _
  | str => exact .str _
  | nilp => exact .nilp
  | nilf => exact .nilf
  | nili => exact .nili
  | nilm => exact .nilm
  | slnil A c hc => exact .slnil A c hc
  | sl ad c sz l cs hF' hc hm hz hcell h => exact .sl ad c sz l cs (hF _ hF') hc hm hz hcell (fun i h1 j h2 => mono (h i h1 j h2))
  | _ => simp [pure1] at hp

theorem pureE_cells {p : PV} (h : pureE p = true) : ∀ c ∈ p.cells, pure1 c = true := by
  intro c hc
  cases p <;> first
    | (simp only [PV.cells, List.mem_singleton] at hc; subst hc; exact h)
    | (exact List.all_eq_true.1 h c hc)

theorem soft1_rel {bor : Bool} {F' : Nat → Prop} (sim : Sim gl A w0 F m w G) (hG : ∀ b k, H.f b = some k → G.f b = some k) (hF : ∀ β, F β → F' β) (hb : bor = true → ∀ β, w0.heap.size ≤ β → β < w.heap.size → F' β) {v : Value} {p q : PV}
    (h : VRel F w m v p) (hs : soft1 H bor p = some q) : VRel F' w noM v q := by
  unfold soft1 at hs
  split at hs
  · rename_i l
    split at hs
    · rename_i hall
      injection hs with hs
      subst hs
      cases h with
      | litnil => exact .slnil none 0 (Nat.zero_le _)
      | lit ad sz _ cs hF' hm hz hcell h =>
        exact .sl ad _ sz l cs (hF _ hF') (Nat.le_refl _) hm hz hcell (fun i h1 j h2 => pure1_rel hF (h i h1 j h2) (pureE_cells (List.all_eq_true.1 hall _ (List.getElem_mem h1)) _ (List.getElem_mem h2)))
    · cases hs
  · rename_i b g off len
    split at hs
    · rename_i hbor
      split at hs
      · rename_i l hl
        split at hs
        · rename_i hall
          injection hs with hs
          subst hs
          simp only [elems, Option.bind_eq_bind, Option.bind_eq_some_iff] at hl
          obtain ⟨k, hk, hl⟩ := hl
          obtain ⟨hf, hg⟩ := Hp.blk_some hk
          split at hl
          · rename_i hle
            injection hl with hl
            cases h with
            | ref Ad c _ _ _ _ h =>
              have hnu : m b ≠ .unborn := fun e => by rw [e] at h; exact h
              rcases sim.blk b k (hG _ _ hf) hnu with ⟨β, hm, ⟨cs, T, h1, h2, h3, h4⟩⟩ | ⟨hvi, hxs⟩
              case inr =>
                rw [hvi] at h
                obtain ⟨rfl, rfl⟩ := h.2 hg.symm
                rw [← hl]
                simp only [List.take_zero]
                exact .slnil _ _ (Nat.zero_le _)
              rw [hm] at h
              obtain ⟨rfl, hlc, hcm, _⟩ := h.2 hg.symm
              have hlen : l.length = len := by rw [← hl]; simp; omega
              rw [← hlen]
              refine .sl ⟨β, off * k.sz, none⟩ c k.sz l (fun i j => cs.getD ((off + i) * k.sz + j) undef) (hb hbor β (sim.live _ _ _ _ hm).1 (sim.live _ _ _ _ hm).2.1) (by omega) hcm (fun e he => h3 e (by rw [← hl] at he; exact List.mem_of_mem_drop (List.mem_of_mem_take he))) ?_ ?_
              · intro i hi j hj
                obtain ⟨u, hu, _⟩ := h4 (off + i) (by omega) j (by rw [h3 _ (List.getElem_mem _)]; exact hj)
                rw [add_plain', cell_row h1, show off * k.sz + (i * k.sz + j) = (off + i) * k.sz + j by rw [Nat.add_mul]; omega, hu, Array.getD_eq_getD_getElem?, hu]
                rfl
              · intro i hi j hj
                have e : l[i] = k.xs[off + i]'(by omega) := by simp [← hl]
                have hj' : j < (k.xs[off + i]'(by omega)).cells.length := by rw [← e]; exact hj
                obtain ⟨u, hu, hr⟩ := h4 (off + i) (by omega) j hj'
                rw [Array.getD_eq_getD_getElem?, hu]
                refine pure1_rel (m := m) hF (p := (l[i]).cells[j]) ?_ (pureE_cells (List.all_eq_true.1 hall _ (List.getElem_mem hi)) _ (List.getElem_mem hj))
                simp only [e]
                exact hr
          · cases hl
        · cases hs
      · cases hs
    · cases hs
  · rename_i f caps
    split at hs
    · rename_i hall
      injection hs with hs
      subst hs
      cases h with
      | fn _ first captured _ h0 hsz h => exact .fn _ _ _ _ h0 hsz (fun i h1 h2 => pure1_rel hF (h i h1 h2) (List.all_eq_true.1 hall _ (List.getElem_mem h2)))
    · cases hs
  · split at hs
    · rename_i hp
      injection hs with hs
      subst hs
      exact pure1_rel hF h hp
    · cases hs

theorem softL_rel {bor : Bool} {F' : Nat → Prop} (sim : Sim gl A w0 F m w G) (hG : ∀ b k, H.f b = some k → G.f b = some k) (hF : ∀ β, F β → F' β) (hb : bor = true → ∀ β, w0.heap.size ≤ β → β < w.heap.size → F' β) : ∀ {l q : List PV} {vs : List Value},
    softL H bor l = some q → vs.length = l.length → (∀ i (h1 : i < vs.length) (h2 : i < l.length), VRel F w m vs[i] l[i]) → vs.length = q.length ∧ ∀ i (h1 : i < vs.length) (h2 : i < q.length), VRel F' w noM vs[i] q[i]
  | [], q, vs, h, hl, _ => by
    simp [softL] at h
    subst h
    exact ⟨hl, fun i h1 h2 => absurd h2 (by simp)⟩
  | p :: l, q, [], h, hl, _ => by simp at hl
  | p :: l, q, v :: vs, h, hl, hr => by
    simp only [softL, Option.bind_eq_bind, Option.bind_eq_some_iff, Option.some.injEq] at h
    obtain ⟨x, hx, q', hq, rfl⟩ := h
    obtain ⟨e, ih⟩ := softL_rel sim hG hF hb (vs := vs) hq (by simpa using hl) (fun i h1 h2 => hr (i + 1) (by simpa using h1) (by simpa using h2))
    refine ⟨by simp [e], fun i h1 h2 => ?_⟩
    cases i with
    | zero => exact soft1_rel sim hG hF hb (hr 0 (by simp) (by simp)) hx
    | succ i => exact ih i (by simpa using h1) (by simpa using h2)

theorem soft0_rel {bor : Bool} {F' : Nat → Prop} (sim : Sim gl A w0 F m w G) (hG : ∀ b k, H.f b = some k → G.f b = some k) (hF : ∀ β, F β → F' β) (hb : bor = true → ∀ β, w0.heap.size ≤ β → β < w.heap.size → F' β) {v : Value} {p q : PV}
    (h : VRel F w m v p) (hs : soft0 H bor p = some q) : VRel F' w noM v q := by
  unfold soft0 at hs
  split at hs
  · rename_i l
    rw [Option.map_eq_some_iff] at hs
    obtain ⟨q', hq, rfl⟩ := hs
    cases h with
    | agg xs _ hl h =>
      obtain ⟨e, ih⟩ := softL_rel sim hG hF hb (vs := xs.toList) hq (by simpa using hl) (fun i h1 h2 => by simpa using h i (by simpa using h1) h2)
      exact .agg _ _ (by simpa using e) (fun i h1 h2 => by have := ih i (by simpa using h1) h2; rwa [Array.getElem_toList] at this)
  · exact soft1_rel sim hG hF hb h hs

theorem softT_rel {bor : Bool} {F' : Nat → Prop} (sim : Sim gl A w0 F m w G) (hG : ∀ b k, H.f b = some k → G.f b = some k) (hF : ∀ β, F β → F' β) (hb : bor = true → ∀ β, w0.heap.size ≤ β → β < w.heap.size → F' β) : ∀ {l q : List PV} {vs : List Value},
    softT H bor l = some q → vs.length = l.length → (∀ i (h1 : i < vs.length) (h2 : i < l.length), VRel F w m vs[i] l[i]) → vs.length = q.length ∧ ∀ i (h1 : i < vs.length) (h2 : i < q.length), VRel F' w noM vs[i] q[i]
  | [], q, vs, h, hl, _ => by
    simp [softT] at h
    subst h
    exact ⟨hl, fun i h1 h2 => absurd h2 (by simp)⟩
  | p :: l, q, [], h, hl, _ => by simp at hl
  | p :: l, q, v :: vs, h, hl, hr => by
    simp only [softT, Option.bind_eq_bind, Option.bind_eq_some_iff, Option.some.injEq] at h
    obtain ⟨x, hx, q', hq, rfl⟩ := h
    obtain ⟨e, ih⟩ := softT_rel sim hG hF hb (vs := vs) hq (by simpa using hl) (fun i h1 h2 => hr (i + 1) (by simpa using h1) (by simpa using h2))
    refine ⟨by simp [e], fun i h1 h2 => ?_⟩
    cases i with
    | zero => exact soft0_rel sim hG hF hb (hr 0 (by simp) (by simp)) hx
    | succ i => exact ih i (by simpa using h1) (by simpa using h2)

theorem soft_rel {bor : Bool} {F' : Nat → Prop} (sim : Sim gl A w0 F m w G) (hG : ∀ b k, H.f b = some k → G.f b = some k) (hF : ∀ β, F β → F' β) (hb : bor = true → ∀ β, w0.heap.size ≤ β → β < w.heap.size → F' β) {v : Value} {p q : PV}
    (h : VRel F w m v p) (hs : soft H bor p = some q) : VRel F' w noM v q := by
  unfold soft at hs
  split at hs
  · rename_i l
    rw [Option.map_eq_some_iff] at hs
    obtain ⟨q', hq, rfl⟩ := hs
    cases h with
    | tup xs _ hl h =>
      obtain ⟨e, ih⟩ := softT_rel sim hG hF hb (vs := xs.toList) hq (by simpa using hl) (fun i h1 h2 => by simpa using h i (by simpa using h1) h2)
      exact .tup _ _ (by simpa using e) (fun i h1 h2 => by have := ih i (by simpa using h1) h2; rwa [Array.getElem_toList] at this)
  · exact soft0_rel sim hG hF hb h hs

theorem softs_rel {bor : Bool} {F' : Nat → Prop} (sim : Sim gl A w0 F m w G) (hG : ∀ b k, H.f b = some k → G.f b = some k) (hF : ∀ β, F β → F' β) (hb : bor = true → ∀ β, w0.heap.size ≤ β → β < w.heap.size → F' β) : ∀ {l q : List PV} {vs : List Value},
    softs H bor l = some q → vs.length = l.length → (∀ i (h1 : i < vs.length) (h2 : i < l.length), VRel F w m vs[i] l[i]) → vs.length = q.length ∧ ∀ i (h1 : i < vs.length) (h2 : i < q.length), VRel F' w noM vs[i] q[i]
  | [], q, vs, h, hl, _ => by
    simp [softs] at h
    subst h
    exact ⟨hl, fun i h1 h2 => absurd h2 (by simp)⟩
  | p :: l, q, [], h, hl, _ => by simp at hl
  | p :: l, q, v :: vs, h, hl, hr => by
    simp only [softs, Option.bind_eq_bind, Option.bind_eq_some_iff, Option.some.injEq] at h
    obtain ⟨x, hx, q', hq, rfl⟩ := h
    obtain ⟨e, ih⟩ := softs_rel sim hG hF hb (vs := vs) hq (by simpa using hl) (fun i h1 h2 => hr (i + 1) (by simpa using h1) (by simpa using h2))
    refine ⟨by simp [e], fun i h1 h2 => ?_⟩
    cases i with
    | zero => exact soft_rel sim hG hF hb (hr 0 (by simp) (by simp)) hx
    | succ i => exact ih i (by simpa using h1) (by simpa using h2)

theorem scal1_rel {F' : Nat → Prop} {m' : Nat → Slot} {w' : World} {v : Value} {p : PV} (h : VRel F w m v p) (hp : scal1 p = true) : VRel F' w' m' v p := by
  cases h <;> first | (exact .int _ _) | (exact .bool _) | (exact .str _) | (exact .nilp) | (exact .nilf) | (exact .nili) | (exact .nilm) | (simp [scal1] at hp)

theorem scal_rel {F' : Nat → Prop} {m' : Nat → Slot} {w' : World} {v : Value} {p : PV} (h : VRel F w m v p) (hp : scal p = true) : VRel F' w' m' v p := by
  unfold scal at hp
  split at hp
  · cases h with
    | agg xs _ hs h => exact .agg _ _ hs (fun i h1 h2 => scal1_rel (h i h1 h2) (List.all_eq_true.1 hp _ (List.getElem_mem h2)))
  · cases h with
    | tup xs _ hs h => exact .tup _ _ hs (fun i h1 h2 => scal1_rel (h i h1 h2) (List.all_eq_true.1 hp _ (List.getElem_mem h2)))
  · exact scal1_rel h hp
end

/-! ### What is said of a function -/
/-- Called with values that lead into no local heap, in whatever world: it returns this, and all that there was is as it was. -/
def Pure (P : Program) (gl : Nat → Option PV) (f : FuncId) (args : List PV) (r : PV) : Prop :=
  callOk P f = true ∧ ∀ (A : Nat → Prop) (w : World) (vs : Array Value), (∀ β, A β → β < w.heap.size) → (∀ g p, gl g = some p → VRel A w noM (.pointer (some ⟨g, 0, none⟩)) p) → CsRel A noM w vs args →
    Calls P f vs w fun e w' => ∃ v, e = .returned v ∧ Below w.heap.size w w' ∧ VRel (fun β => A β ∨ (w.heap.size ≤ β ∧ β < w'.heap.size)) w' noM v r

/-- Called with values that may lead into the local heap H: it returns something, and the heap is something, of which R holds. -/
def HSpec (P : Program) (gl : Nat → Option PV) (f : FuncId) (args : List PV) (H : Hp) (R : PV → Hp → Prop) : Prop :=
  callOk P f = true ∧ ∀ (A : Nat → Prop) (w0 : World) (F : Nat → Prop) (m : Nat → Slot) (w : World) (vs : Array Value), Sim gl A w0 F m w H → (∀ b, H.n ≤ b → m b = .unborn) → CsRel F m w vs args →
    Calls P f vs w fun e w' => ∃ v F' m' r H', e = .returned v ∧ R r H' ∧ Sim gl A w0 F' m' w' H' ∧ (∀ b, H'.n ≤ b → m' b = .unborn) ∧ Ev F m w F' m' w' ∧ VRel F' w' m' v r

/-- Called with values that lead into no local heap: it returns this, which may lead into blocks that it has made and hands over; all that there was is as it was. -/
def Fresh (P : Program) (gl : Nat → Option PV) (f : FuncId) (args : List PV) (r : PV) (K : Hp) : Prop :=
  callOk P f = true ∧ ∀ (A : Nat → Prop) (w : World) (vs : Array Value), (∀ β, A β → β < w.heap.size) → (∀ g p, gl g = some p → VRel A w noM (.pointer (some ⟨g, 0, none⟩)) p) → CsRel A noM w vs args →
    Calls P f vs w fun e w' => ∃ v F' m', e = .returned v ∧ Sim gl A w F' m' w' K ∧ (∀ b, K.n ≤ b → m' b = .unborn) ∧ (∀ β, A β → F' β) ∧ VRel F' w' m' v r

/-- More is there than there was, and what was there is as it was. -/
def Hp.le (H G : Hp) : Prop := H.n ≤ G.n ∧ ∀ b, b < H.n → G.f b = H.f b

theorem Hp.le_refl (H : Hp) : H.le H := ⟨Nat.le_refl _, fun _ _ => rfl⟩
theorem Hp.le_trans {H G K : Hp} (h : H.le G) (k : G.le K) : H.le K := ⟨Nat.le_trans h.1 k.1, fun b hb => (k.2 b (Nat.lt_of_lt_of_le hb h.1)).trans (h.2 b hb)⟩
theorem Hp.le_some {H G : Hp} (h : H.le G) {b : Nat} {k : Blk} (hk : H.f b = some k) : G.f b = some k := by
  by_cases hb : b < H.n
  · rw [h.2 b hb, hk]
  · rw [H.wf b (by omega)] at hk; cases hk
theorem Hp.le_add (H : Hp) (l : List Blk) : H.le (H.add l) := ⟨by simp [Hp.add], fun b hb => by simp [Hp.add, hb]⟩
end Go.Vm
