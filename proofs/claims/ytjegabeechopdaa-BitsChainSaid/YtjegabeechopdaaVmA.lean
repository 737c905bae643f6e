/- Values without memory, a small local heap, and how they stand to the machine's values and world. -/
import Derived.Calls
import Derived.Below
import Derived.Orders
import Derived.Laws.AppendOwn
import Derived.Deep.LoopGhost
namespace Go.Vm
open Go

/-- A value without memory, or one that leads into the local heap. -/
inductive PV where
  | int (k : IntKind) (n : Int)
  | bool (b : Bool)
  | str (s : ByteArray)
  | nilp
  | nilf
  | nili
  | nilm
  | agg (l : List PV)
  | tup (l : List PV)
  | sl (l : List PV)
  | lit (l : List PV)
  | ref (b g off len : Nat)
  | ptr (b g i off : Nat)
  | cref (b g i off len : Nat)
  | fptr (l : List PV)
  | fn (f : FuncId) (caps : List PV)
  deriving Inhabited

def PV.cells : PV → List PV
  | .agg l => l
  | v => [v]

structure Blk where
  g : Nat
  sz : Nat
  xs : List PV

structure Hp where
  n : Nat
  f : Nat → Option Blk
  wf : ∀ b, n ≤ b → f b = none

inductive Slot where
  | unborn | dead | virt (g : Nat) | live (β sz g : Nat)

/-- The row's cells in the world. -/
def rowSize (w : World) (β : Nat) : Nat := match w.heap[β]? with | some (.cells c _ _) => c.size | _ => 0

/-- No block of a local heap. -/
def noM : Nat → Slot := fun _ => .unborn

inductive VRel (F : Nat → Prop) (w : World) : (Nat → Slot) → Value → PV → Prop
  | int {m : Nat → Slot} (k n) : VRel F w m (.int k n) (.int k n)
  | bool {m : Nat → Slot} (b) : VRel F w m (.bool b) (.bool b)
  | str {m : Nat → Slot} (s) : VRel F w m (.string s) (.str s)
  | nilp {m : Nat → Slot} : VRel F w m (.pointer none) .nilp
  | nilf {m : Nat → Slot} : VRel F w m .nilFunc .nilf
  | nili {m : Nat → Slot} : VRel F w m .nilIface .nili
  | nilm {m : Nat → Slot} : VRel F w m (.map none) .nilm
  | agg {m : Nat → Slot} (a : Array Value) (l : List PV) (hs : a.size = l.length) (h : ∀ i (h1 : i < a.size) (h2 : i < l.length), VRel F w m a[i] l[i]) : VRel F w m (.agg a) (.agg l)
  | tup {m : Nat → Slot} (a : Array Value) (l : List PV) (hs : a.size = l.length) (h : ∀ i (h1 : i < a.size) (h2 : i < l.length), VRel F w m a[i] l[i]) : VRel F w m (.tuple a) (.tup l)
  | slnil {m : Nat → Slot} (A : Option Addr) (c : Nat) (hc : c ≤ maxLen) : VRel F w m (.slice A 0 c) (.sl [])
  | litnil {m : Nat → Slot} : VRel F w m (.slice none 0 0) (.lit [])
  | sl {m : Nat → Slot} (ad : Addr) (c sz : Nat) (l : List PV) (cs : Nat → Nat → Value) (hF : F ad.block) (hc : l.length ≤ c) (hm : c ≤ maxLen) (hz : ∀ e ∈ l, e.cells.length = sz)
      (hcell : ∀ i, i < l.length → ∀ j, j < sz → w.cell? (ad.add (i * sz + j)) = some (cs i j))
      (h : ∀ i (h1 : i < l.length) j (h2 : j < (l[i]).cells.length), VRel F w noM (cs i j) (l[i]).cells[j]) : VRel F w m (.slice (some ad) l.length c) (.sl l)
  | lit {m : Nat → Slot} (ad : Addr) (sz : Nat) (l : List PV) (cs : Nat → Nat → Value) (hF : F ad.block) (hm : l.length ≤ maxLen) (hz : ∀ e ∈ l, e.cells.length = sz)
      (hcell : ∀ i, i < l.length → ∀ j, j < sz → w.cell? (ad.add (i * sz + j)) = some (cs i j))
      (h : ∀ i (h1 : i < l.length) j (h2 : j < (l[i]).cells.length), VRel F w m (cs i j) (l[i]).cells[j]) : VRel F w m (.slice (some ad) l.length l.length) (.lit l)
  | ref {m : Nat → Slot} (A : Option Addr) (c b g off len : Nat) (h : match m b with
      | .unborn => False
      | .dead => True
      | .virt g' => g ≤ g' ∧ (g = g' → len = 0 ∧ c = 0)
      | .live β sz g' => g ≤ g' ∧ (g = g' → A = some ⟨β, off * sz, none⟩ ∧ len ≤ c ∧ c ≤ maxLen ∧ (off + c) * sz ≤ rowSize w β)) : VRel F w m (.slice A len c) (.ref b g off len)
  | ptr {m : Nat → Slot} (ad : Addr) (b g i off : Nat) (h : match m b with
      | .unborn => False
      | .dead => True
      | .virt _ => False
      | .live β sz g' => g ≤ g' ∧ (g = g' → ad = ⟨β, i * sz + off, none⟩)) : VRel F w m (.pointer (some ad)) (.ptr b g i off)
  | cref {m : Nat → Slot} (A : Option Addr) (c b g i off len : Nat) (h : match m b with
      | .unborn => False
      | .dead => True
      | .virt _ => False
      | .live β sz g' => g ≤ g' ∧ (g = g' → A = some ⟨β, i * sz + off, none⟩ ∧ len ≤ c ∧ c ≤ maxLen)) : VRel F w m (.slice A len c) (.cref b g i off len)
  | fptr {m : Nat → Slot} (ad : Addr) (l : List PV) (cs : Nat → Value) (hF : F ad.block) (hcell : ∀ j, j < l.length → w.cell? (ad.add j) = some (cs j))
      (h : ∀ j (h1 : j < l.length), VRel F w m (cs j) l[j]) : VRel F w m (.pointer (some ad)) (.fptr l)
  | fn {m : Nat → Slot} (f : FuncId) (first captured : Array Value) (caps : List PV) (h0 : first = #[]) (hs : captured.size = caps.length) (h : ∀ i (h1 : i < captured.size) (h2 : i < caps.length), VRel F w m captured[i] caps[i]) :
      VRel F w m (.func (.func f) first captured) (.fn f caps)

/-- Is a row of the world one of the local heap's? -/
def LiveIn (m : Nat → Slot) (β : Nat) : Prop := ∃ b sz g, m b = .live β sz g

/-- From one moment to a later one. -/
structure Ev (F : Nat → Prop) (m : Nat → Slot) (w : World) (F' : Nat → Prop) (m' : Nat → Slot) (w' : World) : Prop where
  grow : w.heap.size ≤ w'.heap.size
  frz : ∀ β, F β → F' β
  fnl : ∀ β, F β → β < w.heap.size ∧ ¬ LiveIn m β
  keep : ∀ β, β < w.heap.size → ¬ LiveIn m β → w'.heap[β]? = w.heap[β]?
  fresh : ∀ β, LiveIn m' β → LiveIn m β ∨ w.heap.size ≤ β
  size : ∀ β, β < w.heap.size → rowSize w' β = rowSize w β
  slot : ∀ b, match m b with
    | .unborn => True
    | .dead => m' b = .dead
    | .virt g => m' b = .dead ∨ (∃ g', m' b = .virt g' ∧ g ≤ g') ∨ ∃ β' sz' g', m' b = .live β' sz' g' ∧ g < g'
    | .live β sz g => m' b = .dead ∨ ∃ β' g', m' b = .live β' sz g' ∧ g ≤ g' ∧ (g = g' → β = β')
  liv : ∀ b β sz g, m b = .live β sz g → β < w.heap.size

theorem Ev.keepF {F m w F' m' w'} (h : Ev F m w F' m' w') {β : Nat} (hb : F β) : w'.heap[β]? = w.heap[β]? := h.keep β (h.fnl β hb).1 (h.fnl β hb).2

theorem slot_refl (s : Slot) : match s with
    | .unborn => True
    | .dead => s = .dead
    | .virt g => s = .dead ∨ (∃ g', s = .virt g' ∧ g ≤ g') ∨ ∃ β' sz' g', s = .live β' sz' g' ∧ g < g'
    | .live β sz g => s = .dead ∨ ∃ β' g', s = .live β' sz g' ∧ g ≤ g' ∧ (g = g' → β = β') := by
  cases s with
  | unborn => trivial
  | dead => rfl
  | virt g => exact .inr (.inl ⟨g, rfl, Nat.le_refl _⟩)
  | live β sz g => exact .inr ⟨β, g, rfl, Nat.le_refl _, fun _ => rfl⟩

theorem Ev.refl {F m w} (hf : ∀ β, F β → β < w.heap.size ∧ ¬ LiveIn m β) (h : ∀ b β sz g, m b = .live β sz g → β < w.heap.size) : Ev F m w F m w :=
  ⟨Nat.le_refl _, fun _ h => h, hf, fun _ _ _ => rfl, fun _ h => .inl h, fun _ _ => rfl, fun _ => slot_refl _, h⟩

theorem Ev.trans {F m w F' m' w' F'' m'' w''} (h : Ev F m w F' m' w') (k : Ev F' m' w' F'' m'' w'') : Ev F m w F'' m'' w'' := by
  refine ⟨Nat.le_trans h.grow k.grow, fun β hb => k.frz β (h.frz β hb), h.fnl, fun β hb hl => ?_, fun β hb => ?_, fun β hb => (k.size β (Nat.lt_of_lt_of_le hb h.grow)).trans (h.size β hb), fun b => ?_, h.liv⟩
  · refine (k.keep β (Nat.lt_of_lt_of_le hb h.grow) fun hl' => ?_).trans (h.keep β hb hl)
    rcases h.fresh β hl' with e | e
    · exact hl e
    · omega
  · rcases k.fresh β hb with e | e
    · exact h.fresh β e
    · exact .inr (Nat.le_trans h.grow e)
  have h1 := h.slot b
  have h2 := k.slot b
  cases hm : m b with
  | unborn => trivial
  | dead =>
    rw [hm] at h1
    simp only at h1
    rw [h1] at h2
    exact h2
  | virt g =>
    rw [hm] at h1
    simp only at h1
    rcases h1 with h1 | ⟨g', h1, hg⟩ | ⟨β', sz', g', h1, hg⟩
    · rw [h1] at h2; exact .inl h2
    · rw [h1] at h2
      simp only at h2
      rcases h2 with h2 | ⟨g'', h2, hg'⟩ | ⟨β', sz', g'', h2, hg'⟩
      · exact .inl h2
      · exact .inr (.inl ⟨g'', h2, by omega⟩)
      · exact .inr (.inr ⟨β', sz', g'', h2, by omega⟩)
    · rw [h1] at h2
      simp only at h2
      rcases h2 with h2 | ⟨β'', g'', h2, hg', _⟩
      · exact .inl h2
      · exact .inr (.inr ⟨β'', sz', g'', h2, by omega⟩)
  | live β sz g =>
    rw [hm] at h1
    simp only at h1
    rcases h1 with h1 | ⟨β', g', h1, hg, hb⟩
    · rw [h1] at h2; exact .inl h2
    · rw [h1] at h2
      simp only at h2
      rcases h2 with h2 | ⟨β'', g'', h2, hg', hb'⟩
      · exact .inl h2
      · refine .inr ⟨β'', g'', h2, Nat.le_trans hg hg', fun e => ?_⟩
        have e1 : g = g' := by omega
        have e2 : g' = g'' := by omega
        rw [hb e1, hb' e2]

theorem cell_keep {w w' : World} {β : Nat} (h : w'.heap[β]? = w.heap[β]?) (ad : Addr) (hb : ad.block = β) : w'.cell? ad = w.cell? ad := by
  subst hb
  simp [World.cell?, h]

theorem add_block (ad : Addr) (n : Nat) : (ad.add n).block = ad.block := by
  unfold Addr.add
  split <;> rfl

/-- What of a step concerns values. -/
structure EvV (F : Nat → Prop) (m : Nat → Slot) (w : World) (F' : Nat → Prop) (m' : Nat → Slot) (w' : World) : Prop where
  frz : ∀ β, F β → F' β
  keepF : ∀ β, F β → w'.heap[β]? = w.heap[β]?
  size : ∀ β, β < w.heap.size → rowSize w' β = rowSize w β
  slot : ∀ b, match m b with
    | .unborn => True
    | .dead => m' b = .dead
    | .virt g => m' b = .dead ∨ (∃ g', m' b = .virt g' ∧ g ≤ g') ∨ ∃ β' sz' g', m' b = .live β' sz' g' ∧ g < g'
    | .live β sz g => m' b = .dead ∨ ∃ β' g', m' b = .live β' sz g' ∧ g ≤ g' ∧ (g = g' → β = β')
  liv : ∀ b β sz g, m b = .live β sz g → β < w.heap.size

theorem VRel.monoV {F w F' w' m v p} (h : VRel F w m v p) : ∀ {m'}, EvV F m w F' m' w' → VRel F' w' m' v p := by
  induction h with
  | int k n => exact fun _ => .int k n
  | bool b => exact fun _ => .bool b
  | str s => exact fun _ => .str s
  | nilp => exact fun _ => .nilp
  | nilf => exact fun _ => .nilf
  | nili => exact fun _ => .nili
  | nilm => exact fun _ => .nilm
  | agg a l hs _ ih => exact fun e => .agg a l hs fun i h1 h2 => ih i h1 h2 e
  | tup a l hs _ ih => exact fun e => .tup a l hs fun i h1 h2 => ih i h1 h2 e
  | slnil A c hc => exact fun _ => .slnil A c hc
  | litnil => exact fun _ => .litnil
  | sl ad c sz l cs hF hc hm hz hcell _ ih =>
    intro m' e
    exact .sl ad c sz l cs (e.frz _ hF) hc hm hz (fun i hi j hj => (cell_keep (e.keepF _ hF) _ (add_block _ _)).trans (hcell i hi j hj)) (fun i h1 j h2 => ih i h1 j h2 ⟨e.frz, e.keepF, e.size, fun _ => trivial, fun _ _ _ _ h => by simp [noM] at h⟩)
  | lit ad sz l cs hF hm hz hcell _ ih =>
    intro m' e
    exact .lit ad sz l cs (e.frz _ hF) hm hz (fun i hi j hj => (cell_keep (e.keepF _ hF) _ (add_block _ _)).trans (hcell i hi j hj)) (fun i h1 j h2 => ih i h1 j h2 e)
  | @ref m A c b g off len h =>
    intro m' e
    refine .ref A c b g off len ?_
    have hs := e.slot b
    cases hm : m b with
    | unborn => rw [hm] at h; exact h.elim
    | dead => rw [hm] at hs; simp only at hs; rw [hs]; trivial
    | virt g1 =>
      rw [hm] at h hs
      simp only at h hs
      rcases hs with hs | ⟨g', hs, hg⟩ | ⟨β', sz', g', hs, hg⟩
      · rw [hs]; trivial
      · rw [hs]; exact ⟨by omega, fun e => h.2 (by omega)⟩
      · rw [hs]; exact ⟨by omega, fun e => by omega⟩
    | live β sz g1 =>
      have hl := e.liv b β sz g1 hm
      rw [hm] at h hs
      simp only at h hs
      rcases hs with hs | ⟨β', g', hs, hg, hb⟩
      · rw [hs]; trivial
      · rw [hs]
        simp only
        refine ⟨by omega, fun he => ?_⟩
        have e1 : g1 = g' := by omega
        have hbb := hb e1
        subst hbb
        obtain ⟨ha, h1, h2, h3⟩ := h.2 (by omega)
        exact ⟨ha, h1, h2, by rw [e.size β hl]; exact h3⟩
  | @ptr m ad b g i off h =>
    intro m' e
    refine .ptr ad b g i off ?_
    have hs := e.slot b
    cases hm : m b with
    | unborn => rw [hm] at h; exact h.elim
    | dead => rw [hm] at hs; simp only at hs; rw [hs]; trivial
    | virt _ => rw [hm] at h; exact h.elim
    | live β sz g1 =>
      rw [hm] at h hs
      simp only at h hs
      rcases hs with hs | ⟨β', g', hs, hg, hb⟩
      · rw [hs]; trivial
      · rw [hs]
        simp only
        refine ⟨by omega, fun he => ?_⟩
        have e1 : g1 = g' := by omega
        have hbb := hb e1
        subst hbb
        exact h.2 (by omega)
  | @cref m A c b g i off len h =>
    intro m' e
    refine .cref A c b g i off len ?_
    have hs := e.slot b
    cases hm : m b with
    | unborn => rw [hm] at h; exact h.elim
    | dead => rw [hm] at hs; simp only at hs; rw [hs]; trivial
    | virt _ => rw [hm] at h; exact h.elim
    | live β sz g1 =>
      rw [hm] at h hs
      simp only at h hs
      rcases hs with hs | ⟨β', g', hs, hg, hb⟩
      · rw [hs]; trivial
      · rw [hs]
        simp only
        refine ⟨by omega, fun he => ?_⟩
        have e1 : g1 = g' := by omega
        have hbb := hb e1
        subst hbb
        exact h.2 (by omega)
  | fptr ad l cs hF hcell _ ih =>
    intro m' e
    exact .fptr ad l cs (e.frz _ hF) (fun j hj => (cell_keep (e.keepF _ hF) _ (add_block _ _)).trans (hcell j hj)) (fun j h1 => ih j h1 e)
  | fn f first captured caps h0 hs _ ih => exact fun e => .fn f first captured caps h0 hs fun i h1 h2 => ih i h1 h2 e

theorem VRel.mono {F m w F' m' w' v p} (h : VRel F w m v p) (e : Ev F m w F' m' w') : VRel F' w' m' v p :=
  h.monoV ⟨e.frz, fun _ h => e.keepF h, e.size, e.slot, e.liv⟩

/-- A value that leads into no local heap stands so whatever that holds. -/
theorem VRel.weak {F w v p} (h : VRel F w noM v p) (m : Nat → Slot) : VRel F w m v p :=
  h.monoV ⟨fun _ h => h, fun _ _ => rfl, fun _ _ => rfl, fun _ => trivial, fun _ _ _ _ h => by simp [noM] at h⟩

theorem VRel.monoNo {F m w F' m' w' v p} (h : VRel F w noM v p) (e : Ev F m w F' m' w') : VRel F' w' noM v p :=
  h.monoV ⟨e.frz, fun _ h => e.keepF h, e.size, fun _ => trivial, fun _ _ _ _ h => by simp [noM] at h⟩
end Go.Vm
