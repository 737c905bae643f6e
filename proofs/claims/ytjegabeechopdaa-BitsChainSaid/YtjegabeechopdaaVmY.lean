/- Steps that the program does not take: a row that is not yet there; rows that nobody writes any more. -/
import Derived.Test.YtjegabeechopdaaVmV
set_option linter.unusedSimpArgs false
set_option linter.unusedVariables false
namespace Go.Vm
open Go Go.RowKit

section
variable {P : Program} {gl : Nat → Option PV} {n0 : Nat} {s s' s'' : Env} {H H' H'' : Hp} {Q Q' : Ex → Env → Hp → Prop} {A : Nat → Prop} {w0 : World} {F : Nat → Prop} {m : Nat → Slot} {w : World}

/-- A number of a block for a row that is not yet there. -/
theorem Sim.virt (sim : Sim gl A w0 F m w H) (hu : ∀ b, H.n ≤ b → m b = .unborn) (sz : Nat) : Sim gl A w0 F (mput m H.n (.virt 0)) w (H.add [⟨0, sz, []⟩]) ∧ Ev F m w F (mput m H.n (.virt 0)) w := by
  have ev : Ev F m w F (mput m H.n (.virt 0)) w := by
    refine ⟨Nat.le_refl _, fun _ h => h, sim.fnl, fun _ _ _ => rfl, fun x ⟨c, sz, g, hc⟩ => ?_, fun _ _ => rfl, fun c => ?_, sim.liv⟩
    · by_cases e : c = H.n
      · rw [e, mput_eq] at hc; cases hc
      · rw [mput_ne _ _ e] at hc; exact .inl ⟨c, sz, g, hc⟩
    · by_cases e : c = H.n
      · rw [e, hu _ (Nat.le_refl _)]; trivial
      · rw [mput_ne _ _ e]; exact slot_refl _
  have live' : ∀ {c β sz g}, mput m H.n (.virt 0) c = .live β sz g → m c = .live β sz g := by
    intro c β sz g h
    by_cases e : c = H.n
    · rw [e, mput_eq] at h; cases h
    · rw [mput_ne _ _ e] at h; exact h
  refine ⟨⟨sim.below, fun b β sz g h => sim.live b β sz g (live' h), fun b b' β sz g sz' g' h h' => sim.inj b b' β sz g sz' g' (live' h) (live' h'), sim.frz, sim.frzlt, fun b k hk hnu => ?_, fun g p hp => (sim.glob g p hp).monoNo ev⟩, ev⟩
  by_cases e : b = H.n
  · subst e
    have : k = ⟨0, sz, []⟩ := by simp [Hp.add] at hk; exact hk.symm
    subst this
    exact .inr ⟨mput_eq _ _ _, rfl⟩
  · rw [mput_ne _ _ e] at hnu ⊢
    have hb : b < H.n := Nat.lt_of_not_le fun h => hnu (hu b h)
    have hk' : H.f b = some k := by simpa [Hp.add, hb] using hk
    rcases sim.blk b k hk' hnu with ⟨β, hm, hok⟩ | hv
    · exact .inl ⟨β, hm, hok.mono ev rfl⟩
    · exact .inr hv

theorem lit_virt {v : Value} (h : VRel F w m v (.lit [])) {m' : Nat → Slot} {n : Nat} (hm : m' n = .virt 0) : VRel F w m' v (.ref n 0 0 0) := by
  cases h with
  | litnil => exact .ref _ _ _ _ _ _ (by rw [hm]; exact ⟨Nat.le_refl _, fun _ => ⟨rfl, rfl⟩⟩)
  | lit ad sz _ cs hF hmm hz hcell h => exact .ref _ _ _ _ _ _ (by rw [hm]; exact ⟨Nat.le_refl _, fun _ => ⟨rfl, rfl⟩⟩)

/-- A slice without room, in the frame, as a row of one's own that is not yet there. -/
theorem gh_virt (t sz : Nat) (hn : n0 ≤ H.n) (h : s t = some (.lit [])) : Gh gl n0 s H (s.put (some t) (some (.ref H.n 0 0 0))) (H.add [⟨0, sz, []⟩]) := by
  rintro A w0 F0 m0 w00 N ds a w hm ⟨F, m, sim, ev, ht, hu, hr⟩
  obtain ⟨sim', ev'⟩ := sim.virt hu sz
  refine ⟨F, _, sim', ev.trans ev', fun u p hp => ?_, fun b hb => ?_, hr⟩
  · simp only [Env.put] at hp
    split at hp
    · rename_i e
      injection hp with hp
      subst hp
      subst e
      exact lit_virt (ht u _ h) (mput_eq _ _ _)
    · exact (ht u p hp).mono ev'
  · rw [mput_ne _ _ (by simp [Hp.add] at hb; omega)]
    exact hu b (by simp [Hp.add] at hb; omega)

/-- A slice without room, in a struct of one's own. -/
theorem gh_virt_blk (b j sz : Nat) (hn : n0 ≤ H.n) {g z : Nat} {cs : List PV} (hb : H.f b = some ⟨g, z, [.agg cs]⟩) (h : cs[j]? = some (.lit [])) :
    Gh gl n0 s H s ((H.set b ⟨g, z, [.agg (cs.set j (.ref H.n 0 0 0))]⟩).add [⟨0, sz, []⟩]) := by
  rintro A w0 F0 m0 w00 N ds a w hm ⟨F, m, sim, ev, ht, hu, hr⟩
  obtain ⟨sim', ev'⟩ := sim.virt hu sz
  have hbn : b < H.n := Nat.lt_of_not_le fun h => by rw [H.wf b h] at hb; cases hb
  refine ⟨F, _, ?_, ev.trans ev', fun u p hp => (ht u p hp).mono ev', fun c hc => ?_, hr⟩
  · refine ⟨sim'.below, sim'.live, sim'.inj, sim'.frz, sim'.frzlt, fun c k hk hnu => ?_, sim'.glob⟩
    by_cases e : c = b
    · subst e
      have hk' : k = ⟨g, z, [.agg (cs.set j (.ref H.n 0 0 0))]⟩ := by
        have h1 : (H.set c ⟨g, z, [.agg (cs.set j (.ref H.n 0 0 0))]⟩).n = H.n := rfl
        simp only [Hp.add, h1, hbn, if_true] at hk
        rw [Hp.set_f hb, if_pos rfl] at hk
        exact (Option.some.inj hk).symm
      subst hk'
      rcases sim'.blk c ⟨g, z, [.agg cs]⟩ (by simp [Hp.add, hbn, hb]) hnu with ⟨β, hm, ⟨cv, T, h1, h2, h3, h4⟩⟩ | ⟨_, hx⟩
      · refine .inl ⟨β, hm, cv, T, h1, h2, fun x hx => ?_, fun i hi q hq => ?_⟩
        · simp only [List.mem_singleton] at hx
          subst hx
          simpa [PV.cells] using h3 (.agg cs) (by simp)
        · simp only [List.length_singleton] at hi
          obtain rfl : i = 0 := by omega
          simp only [List.getElem_cons_zero, PV.cells, List.length_set] at hq ⊢
          obtain ⟨v, hv, hrel⟩ := h4 0 (by simp) q (by simpa [PV.cells] using hq)
          refine ⟨v, hv, ?_⟩
          simp only [List.getElem_cons_zero, PV.cells] at hrel
          rw [List.getElem_set]
          split
          · rename_i ej
            subst ej
            rw [List.getElem?_eq_getElem hq] at h
            injection h with h
            rw [h] at hrel
            exact lit_virt hrel (mput_eq _ _ _)
          · exact hrel
      · cases hx
    · have hk' : (H.add [⟨0, sz, []⟩]).f c = some k := by
        simp only [Hp.add] at hk ⊢
        have h1 : (H.set b ⟨g, z, [.agg (cs.set j (.ref H.n 0 0 0))]⟩).n = H.n := rfl
        rw [h1] at hk
        by_cases hc : c < H.n
        · rw [if_pos hc] at hk ⊢
          rw [Hp.set_f hb, if_neg e] at hk
          exact hk
        · rw [if_neg hc] at hk ⊢
          exact hk
      exact sim'.blk c k hk' hnu
  · have hc' : H.n + 1 ≤ c := hc
    rw [mput_ne _ _ (by omega)]
    exact hu c (by omega)

/-! ### Rows that nobody writes any more -/
mutual
/-- Does a value lead into blocks below k alone? -/
def PV.under (k : Nat) : PV → Bool
  | .agg l | .tup l | .lit l | .fptr l | .fn _ l => underL k l
  | .ref b _ _ _ | .ptr b _ _ _ | .cref b _ _ _ _ => decide (b < k)
  | _ => true
def underL (k : Nat) : List PV → Bool
  | [] => true
  | x :: r => x.under k && underL k r
end

def fz1 (H : Hp) (k : Nat) (p : PV) : Option PV :=
  match p with
  | .ref b g off len =>
    if b < k then some (.ref b g off len) else
    match elems H (.ref b g off len) with
    | some l => if l.all pureE then some (.sl l) else none
    | none => none
  | p => if p.under k then some p else none

def fzL (H : Hp) (k : Nat) : List PV → Option (List PV)
  | [] => some []
  | x :: r => do
    let y ← fz1 H k x
    let l ← fzL H k r
    some (y :: l)

def fz0 (H : Hp) (k : Nat) (p : PV) : Option PV :=
  match p with
  | .agg l => (fzL H k l).map .agg
  | p => fz1 H k p

def fzT (H : Hp) (k : Nat) : List PV → Option (List PV)
  | [] => some []
  | x :: r => do
    let y ← fz0 H k x
    let l ← fzT H k r
    some (y :: l)

def fz (H : Hp) (k : Nat) (p : PV) : Option PV :=
  match p with
  | .tup l => (fzT H k l).map .tup
  | p => fz0 H k p

def fzP (H : Hp) (k : Nat) : List PV → Option (List PV)
  | [] => some []
  | x :: r => do
    let y ← fz H k x
    let l ← fzP H k r
    some (y :: l)

theorem underL_get {k : Nat} : ∀ {l : List PV}, underL k l = true → ∀ i (h : i < l.length), (l[i]).under k = true
  | [], _, i, h => absurd h (by simp)
  | x :: r, hb, i, h => by
    simp only [underL, Bool.and_eq_true] at hb
    cases i with
    | zero => exact hb.1
    | succ i => exact underL_get hb.2 i (by simpa using h)

theorem below_cells {k : Nat} {p : PV} (h : p.under k = true) : ∀ j (hj : j < p.cells.length), (p.cells[j]).under k = true := by
  intro j hj
  cases p with
  | agg l => exact underL_get h j hj
  | _ =>
    simp only [PV.cells, List.length_singleton] at hj
    obtain rfl : j = 0 := by omega
    exact h

theorem below_rel {F' : Nat → Prop} {m' : Nat → Slot} {k : Nat} (hF : ∀ β, F β → F' β) (hm : ∀ b, b < k → m' b = m b) {v : Value} {p : PV} (h : VRel F w m v p) : p.under k = true → VRel F' w m' v p := by
  induction h with
  | int => exact fun _ => .int _ _
  | bool => exact fun _ => .bool _
  | str => exact fun _ => .str _
  | nilp => exact fun _ => .nilp
  | nilf => exact fun _ => .nilf
  | nili => exact fun _ => .nili
  | nilm => exact fun _ => .nilm
  | agg a l hs _ ih => exact fun hb => .agg a l hs fun i h1 h2 => ih i h1 h2 hm (underL_get hb i h2)
  | tup a l hs _ ih => exact fun hb => .tup a l hs fun i h1 h2 => ih i h1 h2 hm (underL_get hb i h2)
  | slnil A c hc => exact fun _ => .slnil A c hc
  | litnil => exact fun _ => .litnil
  | sl ad c sz l cs hF' hc hmm hz hcell h ih => exact fun _ => .sl ad c sz l cs (hF _ hF') hc hmm hz hcell fun i h1 j h2 => (h i h1 j h2).monoV ⟨hF, fun _ _ => rfl, fun _ _ => rfl, fun _ => trivial, fun _ _ _ _ h => by simp [noM] at h⟩
  | lit ad sz l cs hF' hmm hz hcell _ ih => exact fun hb => .lit ad sz l cs (hF _ hF') hmm hz hcell fun i h1 j h2 => ih i h1 j h2 hm (below_cells (underL_get hb i h1) j h2)
  | ref A c b g off len h => exact fun hb => .ref A c b g off len (by rw [hm b (by simpa [PV.under] using hb)]; exact h)
  | ptr ad b g i off h => exact fun hb => .ptr ad b g i off (by rw [hm b (by simpa [PV.under] using hb)]; exact h)
  | cref A c b g i off len h => exact fun hb => .cref A c b g i off len (by rw [hm b (by simpa [PV.under] using hb)]; exact h)
  | fptr ad l cs hF' hcell _ ih => exact fun hb => .fptr ad l cs (hF _ hF') hcell fun j h1 => ih j h1 hm (underL_get hb j h1)
  | fn f first captured caps h0 hs _ ih => exact fun hb => .fn f first captured caps h0 hs fun i h1 h2 => ih i h1 h2 hm (underL_get hb i h2)

theorem fz1_rel {F' : Nat → Prop} {m' : Nat → Slot} {k : Nat} (sim : Sim gl A w0 F m w H) (hF : ∀ β, F β → F' β) (hm : ∀ b, b < k → m' b = m b) (hl : ∀ b β sz g, k ≤ b → m b = .live β sz g → F' β) {v : Value} {p q : PV} (h : VRel F w m v p) (hq : fz1 H k p = some q) : VRel F' w m' v q := by
  unfold fz1 at hq
  split at hq
  · rename_i b g off len
    split at hq
    · rename_i hb
      injection hq with hq
      subst hq
      exact below_rel hF hm h (by simpa [PV.under] using hb)
    · rename_i hb
      split at hq
      · rename_i l he
        split at hq
        · rename_i hall
          injection hq with hq
          subst hq
          -- as a row that is lent: F' is told of it
          simp only [elems, Option.bind_eq_bind, Option.bind_eq_some_iff] at he
          obtain ⟨kb, hk, he⟩ := he
          obtain ⟨hf, hg⟩ := Hp.blk_some hk
          split at he
          · rename_i hle
            injection he with he
            cases h with
            | ref Ad c _ _ _ _ h =>
              have hnu : m b ≠ .unborn := fun e => by rw [e] at h; exact h
              rcases sim.blk b kb hf hnu with ⟨β, hmb, ⟨cs, T, h1, h2, h3, h4⟩⟩ | ⟨hvi, hxs⟩
              case inr =>
                rw [hvi] at h
                obtain ⟨rfl, rfl⟩ := h.2 hg.symm
                rw [← he]
                simp only [List.take_zero]
                exact .slnil _ _ (Nat.zero_le _)
              rw [hmb] at h
              obtain ⟨rfl, hlc, hcm, _⟩ := h.2 hg.symm
              have hlen : l.length = len := by rw [← he]; simp; omega
              rw [← hlen]
              refine .sl ⟨β, off * kb.sz, none⟩ c kb.sz l (fun i j => cs.getD ((off + i) * kb.sz + j) undef) (hl b β _ _ (by omega) hmb) (by omega) hcm (fun e hee => h3 e (by rw [← he] at hee; exact List.mem_of_mem_drop (List.mem_of_mem_take hee))) ?_ ?_
              · intro i hi j hj
                obtain ⟨u, hu, _⟩ := h4 (off + i) (by omega) j (by rw [h3 _ (List.getElem_mem _)]; exact hj)
                rw [add_plain', cell_row h1, show off * kb.sz + (i * kb.sz + j) = (off + i) * kb.sz + j by rw [Nat.add_mul]; omega, hu, Array.getD_eq_getD_getElem?, hu]
                rfl
              · intro i hi j hj
                have e : l[i] = kb.xs[off + i]'(by omega) := by simp [← he]
                have hj' : j < (kb.xs[off + i]'(by omega)).cells.length := by rw [← e]; exact hj
                obtain ⟨u, hu, hr⟩ := h4 (off + i) (by omega) j hj'
                rw [Array.getD_eq_getD_getElem?, hu]
                refine pure1_rel (m := m) hF (p := (l[i]).cells[j]) ?_ (pureE_cells (List.all_eq_true.1 hall _ (List.getElem_mem hi)) _ (List.getElem_mem hj))
                simp only [e]
                exact hr
          · cases he
        · cases hq
      · cases hq
  · split at hq
    · rename_i hb
      injection hq with hq
      subst hq
      exact below_rel hF hm h hb
    · cases hq

theorem fzL_get {k : Nat} : ∀ {l q : List PV}, fzL H k l = some q → l.length = q.length ∧ ∀ i (h1 : i < l.length) (h2 : i < q.length), fz1 H k l[i] = some q[i]
  | [], q, h => by
    simp [fzL] at h
    subst h
    exact ⟨rfl, fun i h1 => absurd h1 (by simp)⟩
  | x :: r, q, h => by
    simp only [fzL, Option.bind_eq_bind, Option.bind_eq_some_iff, Option.some.injEq] at h
    obtain ⟨y, hy, l, hl, rfl⟩ := h
    obtain ⟨e, ih⟩ := fzL_get hl
    refine ⟨by simp [e], fun i h1 h2 => ?_⟩
    cases i with
    | zero => exact hy
    | succ i => exact ih i (by simpa using h1) (by simpa using h2)

theorem fzP_get {k : Nat} : ∀ {l q : List PV}, fzP H k l = some q → l.length = q.length ∧ ∀ i (h1 : i < l.length) (h2 : i < q.length), fz H k l[i] = some q[i]
  | [], q, h => by
    simp [fzP] at h
    subst h
    exact ⟨rfl, fun i h1 => absurd h1 (by simp)⟩
  | x :: r, q, h => by
    simp only [fzP, Option.bind_eq_bind, Option.bind_eq_some_iff, Option.some.injEq] at h
    obtain ⟨y, hy, l, hl, rfl⟩ := h
    obtain ⟨e, ih⟩ := fzP_get hl
    refine ⟨by simp [e], fun i h1 h2 => ?_⟩
    cases i with
    | zero => exact hy
    | succ i => exact ih i (by simpa using h1) (by simpa using h2)

theorem fz0_rel {F' : Nat → Prop} {m' : Nat → Slot} {k : Nat} (sim : Sim gl A w0 F m w H) (hF : ∀ β, F β → F' β) (hm : ∀ b, b < k → m' b = m b) (hl : ∀ b β sz g, k ≤ b → m b = .live β sz g → F' β) {v : Value} {p q : PV} (h : VRel F w m v p) (hq : fz0 H k p = some q) : VRel F' w m' v q := by
  unfold fz0 at hq
  split at hq
  · rename_i l
    rw [Option.map_eq_some_iff] at hq
    obtain ⟨q', hq, rfl⟩ := hq
    obtain ⟨e, g⟩ := fzL_get hq
    cases h with
    | agg xs _ hs h => exact .agg _ _ (hs.trans e) fun i h1 h2 => fz1_rel sim hF hm hl (h i h1 (by omega)) (g i (by omega) h2)
  · exact fz1_rel sim hF hm hl h hq

theorem fzT_get {k : Nat} : ∀ {l q : List PV}, fzT H k l = some q → l.length = q.length ∧ ∀ i (h1 : i < l.length) (h2 : i < q.length), fz0 H k l[i] = some q[i]
  | [], q, h => by
    simp [fzT] at h
    subst h
    exact ⟨rfl, fun i h1 => absurd h1 (by simp)⟩
  | x :: r, q, h => by
    simp only [fzT, Option.bind_eq_bind, Option.bind_eq_some_iff, Option.some.injEq] at h
    obtain ⟨y, hy, l, hl, rfl⟩ := h
    obtain ⟨e, ih⟩ := fzT_get hl
    refine ⟨by simp [e], fun i h1 h2 => ?_⟩
    cases i with
    | zero => exact hy
    | succ i => exact ih i (by simpa using h1) (by simpa using h2)

theorem fz_rel {F' : Nat → Prop} {m' : Nat → Slot} {k : Nat} (sim : Sim gl A w0 F m w H) (hF : ∀ β, F β → F' β) (hm : ∀ b, b < k → m' b = m b) (hl : ∀ b β sz g, k ≤ b → m b = .live β sz g → F' β) {v : Value} {p q : PV} (h : VRel F w m v p) (hq : fz H k p = some q) : VRel F' w m' v q := by
  unfold fz at hq
  split at hq
  · rename_i l
    rw [Option.map_eq_some_iff] at hq
    obtain ⟨q', hq, rfl⟩ := hq
    obtain ⟨e, g⟩ := fzT_get hq
    cases h with
    | tup xs _ hs h => exact .tup _ _ (hs.trans e) fun i h1 h2 => fz0_rel sim hF hm hl (h i h1 (by omega)) (g i (by omega) h2)
  · exact fz0_rel sim hF hm hl h hq

theorem fz1_below {k : Nat} {p : PV} (h : p.under k = true) : fz1 H k p = some p := by
  unfold fz1
  split
  · rename_i b g off len
    rw [if_pos (by simpa [PV.under] using h)]
  · rw [if_pos h]
theorem fzL_below {k : Nat} : ∀ {l : List PV}, underL k l = true → fzL H k l = some l
  | [], _ => rfl
  | x :: r, h => by
    simp only [underL, Bool.and_eq_true] at h
    simp only [fzL, fz1_below h.1, fzL_below h.2, Option.bind_eq_bind, Option.bind_some]
theorem fz0_below {k : Nat} {p : PV} (h : p.under k = true) : fz0 H k p = some p := by
  unfold fz0
  split
  · rw [fzL_below h]; rfl
  · exact fz1_below h
theorem fzT_below {k : Nat} : ∀ {l : List PV}, underL k l = true → fzT H k l = some l
  | [], _ => rfl
  | x :: r, h => by
    simp only [underL, Bool.and_eq_true] at h
    simp only [fzT, fz0_below h.1, fzT_below h.2, Option.bind_eq_bind, Option.bind_some]
theorem fz_below {k : Nat} {p : PV} (h : p.under k = true) : fz H k p = some p := by
  unfold fz
  split
  · rw [fzT_below h]; rfl
  · exact fz0_below h

theorem fz_cells {k : Nat} {p q : PV} (h : fz H k p = some q) : p.cells.length = q.cells.length ∧ ∀ j (h1 : j < p.cells.length) (h2 : j < q.cells.length), fz H k p.cells[j] = some q.cells[j] := by
  have one : ∀ {p q : PV}, fz1 H k p = some q → p.cells = [p] → q.cells = [q] := by
    intro p q hq hp
    unfold fz1 at hq
    split at hq
    · split at hq
      · injection hq with hq; subst hq; rfl
      · split at hq
        · split at hq
          · injection hq with hq; subst hq; rfl
          · cases hq
        · cases hq
    · split at hq
      · injection hq with hq; subst hq; exact hp
      · cases hq
  have lift : ∀ {p q : PV}, fz1 H k p = some q → fz H k p = some q ∨ (∃ l, p = .agg l) ∨ ∃ l, p = .tup l := by
    intro p q hq
    cases p <;> first | exact .inl hq | exact .inr (.inl ⟨_, rfl⟩) | exact .inr (.inr ⟨_, rfl⟩)
  cases p with
  | agg l =>
    simp only [fz, fz0, Option.map_eq_some_iff] at h
    obtain ⟨q', hq, rfl⟩ := h
    obtain ⟨e, g⟩ := fzL_get hq
    refine ⟨e, fun j h1 h2 => ?_⟩
    simp only [PV.cells] at h1 h2 ⊢
    have hg := g j h1 h2
    rcases lift hg with h | ⟨l', hl⟩ | ⟨l', hl⟩
    · exact h
    · rw [hl] at hg ⊢
      simp only [fz1] at hg
      split at hg
      · rename_i hb
        injection hg with hg
        rw [← hg]
        exact fz_below (by exact hb)
      · cases hg
    · rw [hl] at hg ⊢
      simp only [fz1] at hg
      split at hg
      · rename_i hb
        injection hg with hg
        rw [← hg]
        exact fz_below (by exact hb)
      · cases hg
  | tup l =>
    have h' := h
    simp only [fz, Option.map_eq_some_iff] at h
    obtain ⟨q', hq, rfl⟩ := h
    refine ⟨rfl, fun j h1 h2 => ?_⟩
    simp only [PV.cells, List.length_singleton] at h1 h2 ⊢
    obtain rfl : j = 0 := by omega
    exact h'
  | _ =>
    have h1 := h
    simp only [fz, fz0] at h1
    have hq := one h1 rfl
    refine ⟨by rw [hq]; rfl, fun j h1 h2 => ?_⟩
    simp only [PV.cells, List.length_singleton] at h1
    obtain rfl : j = 0 := by omega
    have hg : q.cells[0] = q := by simp only [hq, List.getElem_cons_zero]
    rw [hg]
    exact h

/-- What is left of the heap when all blocks from H'.n on are let go. -/
def HpFz (H H' : Hp) : Prop := ∀ b k', b < H'.n → H'.f b = some k' → ∃ k0, H.f b = some k0 ∧ k'.g = k0.g ∧ k'.sz = k0.sz ∧ fzP H H'.n k0.xs = some k'.xs

theorem gh_freeze (hn : n0 ≤ H'.n) (hs : ∀ t q, s' t = some q → ∃ p, s t = some p ∧ fz H H'.n p = some q) (hH : HpFz H H') : Gh gl n0 s H s' H' := by
  rintro A w0 F0 m0 w00 N ds a w hm0 ⟨F, m, sim, ev, ht, hu, hr⟩
  let m' : Nat → Slot := fun b => if b < H'.n then m b else .unborn
  let F' : Nat → Prop := fun β => F β ∨ ∃ b sz g, H'.n ≤ b ∧ m b = .live β sz g
  have m'lt : ∀ b, b < H'.n → m' b = m b := fun b hb => if_pos hb
  have m'ge : ∀ b, H'.n ≤ b → m' b = .unborn := fun b hb => if_neg (by omega)
  have live' : ∀ {b β sz g}, m' b = .live β sz g → b < H'.n ∧ m b = .live β sz g := by
    intro b β sz g h
    by_cases hb : b < H'.n
    · rw [m'lt b hb] at h; exact ⟨hb, h⟩
    · rw [m'ge b (by omega)] at h; cases h
  have hF : ∀ β, F β → F' β := fun β h => .inl h
  have hl : ∀ b β sz g, H'.n ≤ b → m b = .live β sz g → F' β := fun b β sz g h1 h2 => .inr ⟨b, sz, g, h1, h2⟩
  have rel : ∀ {v p q}, VRel F w m v p → fz H H'.n p = some q → VRel F' w m' v q := fun h hq => fz_rel sim hF m'lt hl h hq
  refine ⟨F', m', ⟨sim.below, fun b β sz g h => ?_, fun b b' β sz g sz' g' h h' => sim.inj b b' β sz g sz' g' (live' h).2 (live' h').2, fun β h => ?_, fun β h => ?_, fun b k hk hnu => ?_, fun g p hp => (sim.glob g p hp).monoV ⟨hF, fun _ _ => rfl, fun _ _ => rfl, fun _ => trivial, fun _ _ _ _ h => by simp [noM] at h⟩⟩,
    ⟨ev.grow, fun β h => hF β (ev.frz β h), ev.fnl, ev.keep, fun β ⟨b, sz, g, h⟩ => ev.fresh β ⟨b, sz, g, (live' h).2⟩, ev.size, fun b => ?_, ev.liv⟩, fun t q hq => ?_, fun b hb => m'ge b hb, hr⟩
  · obtain ⟨hb, h⟩ := live' h
    obtain ⟨a1, a2, a3⟩ := sim.live b β sz g h
    refine ⟨a1, a2, fun hf => ?_⟩
    rcases hf with hf | ⟨b', sz', g', h1, h2⟩
    · exact a3 hf
    · have := sim.inj b b' β _ _ _ _ h h2
      omega
  · rcases h with h | ⟨b, sz, g, _, h⟩
    · exact sim.frz β h
    · exact .inr (sim.live b β sz g h).1
  · rcases h with h | ⟨b, sz, g, _, h⟩
    · exact sim.frzlt β h
    · exact (sim.live b β sz g h).2.1
  · by_cases hb : b < H'.n
    · rw [m'lt b hb] at hnu ⊢
      obtain ⟨k0, hk0, e1, e2, e3⟩ := hH b k hb hk
      obtain ⟨el, eg⟩ := fzP_get e3
      rcases sim.blk b k0 hk0 hnu with ⟨β, hm, ⟨cs, T, h1, h2, h3, h4⟩⟩ | ⟨hv, hx⟩
      · refine .inl ⟨β, by rw [e1, e2]; exact hm, cs, T, h1, by rw [e2, ← el]; exact h2, fun x hx => ?_, fun i hi j hj => ?_⟩
        · obtain ⟨i, hi, rfl⟩ := List.mem_iff_getElem.1 hx
          rw [e2, ← h3 _ (List.getElem_mem (show i < k0.xs.length by omega))]
          exact (fz_cells (eg i (by omega) hi)).1.symm
        · obtain ⟨c1, c2⟩ := fz_cells (eg i (by omega) hi)
          obtain ⟨v, hv, hrel⟩ := h4 i (by omega) j (by omega)
          rw [e2]
          exact ⟨v, hv, rel hrel (c2 j (by omega) hj)⟩
      · refine .inr ⟨by rw [e1]; exact hv, ?_⟩
        rw [hx] at el
        exact List.eq_nil_of_length_eq_zero el.symm
    · exact absurd (m'ge b (by omega)) hnu
  · by_cases hb : b < H'.n
    · rw [m'lt b hb]; exact ev.slot b
    · have : m0 b = .unborn := hm0 b (by omega)
      rw [this]; trivial
  · obtain ⟨p, hp, hq'⟩ := hs t q hq
    exact rel (ht t p hp) hq'

/-- What a state's values lead into is there. -/
theorem rel_below {v : Value} {p : PV} {k : Nat} (h : VRel F w m v p) : (∀ b, k ≤ b → m b = .unborn) → p.under k = true := by
  have lt : ∀ {m : Nat → Slot} {b}, (∀ b, k ≤ b → m b = .unborn) → m b ≠ .unborn → b < k := fun hm h => Nat.lt_of_not_le fun hb => h (hm _ hb)
  have all : ∀ {l : List PV}, (∀ i (h : i < l.length), (l[i]).under k = true) → underL k l = true := by
    intro l
    induction l with
    | nil => exact fun _ => rfl
    | cons x r ih =>
      intro h
      simp only [underL, Bool.and_eq_true]
      exact ⟨h 0 (by simp), ih fun i hi => h (i + 1) (by simpa using hi)⟩
  induction h with
  | agg a l hs _ ih => exact fun hm => all fun i hi => ih i (by omega) hi hm
  | tup a l hs _ ih => exact fun hm => all fun i hi => ih i (by omega) hi hm
  | litnil => exact fun _ => rfl
  | lit ad sz l cs hF' hmm hz hcell _ ih =>
    refine fun hm => all fun i hi => ?_
    have hc : ∀ j (hj : j < (l[i]).cells.length), ((l[i]).cells[j]).under k = true := fun j hj => ih i hi j hj hm
    revert hc
    generalize l[i] = p
    intro hc
    cases p with
    | agg l => exact all hc
    | _ => exact hc 0 (by simp [PV.cells])
  | ref A c b g off len h => exact fun hm => by simpa [PV.under] using lt hm (fun e => by rw [e] at h; exact h)
  | ptr ad b g i off h => exact fun hm => by simpa [PV.under] using lt hm (fun e => by rw [e] at h; exact h)
  | cref A c b g i off len h => exact fun hm => by simpa [PV.under] using lt hm (fun e => by rw [e] at h; exact h)
  | fptr ad l cs hF' hcell _ ih => exact fun hm => all fun i hi => ih i hi hm
  | fn f first captured caps h0 hs _ ih => exact fun hm => all fun i hi => ih i (by omega) hi hm
  | _ => exact fun _ => rfl

theorem tr_wf {rc : RCode} (h : (∀ t p, s t = some p → p.under H.n = true) → Tr P gl n0 rc s H Q) : Tr P gl n0 rc s H Q := by
  intro hmix ow N c hr A w0 F0 m0 w00 ds a w hm hs
  refine h (fun t p hp => ?_) hmix ow N c hr A w0 F0 m0 w00 ds a w hm hs
  obtain ⟨F, m, sim, ev, ht, hu, _⟩ := hs
  exact rel_below (ht t p hp) hu
end
end Go.Vm
