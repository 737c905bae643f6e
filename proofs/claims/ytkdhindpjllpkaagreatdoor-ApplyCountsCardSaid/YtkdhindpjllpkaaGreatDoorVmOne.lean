/- Laid. -/
import Derived.Calls
import Derived.Below
import Derived.Orders
import Derived.Laws.AppendOwn
import Derived.Deep.LoopGhost
import Derived.Sort.LoopGhostIn
import Derived.OrdersIn
import Derived.RangeFuncRecord
import Derived.Laws.Sem
import Derived.Laws.Cells
import Derived.Laws.CopyRow
import Derived.Laws.Entries
import Derived.Laws.Slices
import Derived.Laws.MakeOwn
import Derived.Laws.Tables
import Derived.ChangeKeysEq
import Derived.Laws.StructEq
import Derived.Laws.Append
import Derived.ArgAppend
import Derived.Room.Entries
import Derived.Deep.Upon
set_option linter.unusedSimpArgs false
set_option linter.unusedVariables false
set_option maxRecDepth 100000
namespace Go.Vm
open Go
inductive PV where
  | int (k : IntKind) (n : Int)
  | bool (b : Bool)
  | str (s : ByteArray)
  | nilp
  | nilf
  | nili
  | nilm
  | agg (l : List PV)
  | tup (l : List PV)
  | sl (l : List PV)
  | lit (l : List PV)
  | ref (b g off len : Nat)
  | ptr (b g i off : Nat)
  | cref (b g i off len : Nat)
  | fptr (l : List PV)
  | fn (f : FuncId) (caps : List PV)
  | ifc (t : TypeId) (v : PV)
  | raw (v : Value)
  | mp (b : Nat)
  | yld (b : Nat)
  | lp (L : Loop) (ts : List Nat)
  deriving Inhabited
def PV.cells : PV → List PV
  | .agg l => l
  | v => [v]
structure Blk where
  g : Nat
  sz : Nat
  xs : List PV
structure Hp where
  n : Nat
  f : Nat → Option Blk
  wf : ∀ b, n ≤ b → f b = none
inductive Slot where
  | unborn | dead | virt (g : Nat) | live (β sz g : Nat) | mp (β : Nat)
def Slot.at : Slot → Option Nat
  | .live β _ _ => some β
  | .mp β => some β
  | _ => none
def rowSize (w : World) (β : Nat) : Nat := match w.heap[β]? with | some (.cells c _ _) => c.size | _ => 0
def noM : Nat → Slot := fun _ => .unborn
inductive VRel (F : Nat → Prop) (w : World) : (Nat → Slot) → Value → PV → Prop
  | int {m : Nat → Slot} (k n) : VRel F w m (.int k n) (.int k n)
  | bool {m : Nat → Slot} (b) : VRel F w m (.bool b) (.bool b)
  | str {m : Nat → Slot} (s) : VRel F w m (.string s) (.str s)
  | nilp {m : Nat → Slot} : VRel F w m (.pointer none) .nilp
  | nilf {m : Nat → Slot} : VRel F w m .nilFunc .nilf
  | nili {m : Nat → Slot} : VRel F w m .nilIface .nili
  | nilm {m : Nat → Slot} : VRel F w m (.map none) .nilm
  | agg {m : Nat → Slot} (a : Array Value) (l : List PV) (hs : a.size = l.length) (h : ∀ i (h1 : i < a.size) (h2 : i < l.length), VRel F w m a[i] l[i]) : VRel F w m (.agg a) (.agg l)
  | tup {m : Nat → Slot} (a : Array Value) (l : List PV) (hs : a.size = l.length) (h : ∀ i (h1 : i < a.size) (h2 : i < l.length), VRel F w m a[i] l[i]) : VRel F w m (.tuple a) (.tup l)
  | slnil {m : Nat → Slot} (A : Option Addr) (c : Nat) (hc : c ≤ maxLen) : VRel F w m (.slice A 0 c) (.sl [])
  | litnil {m : Nat → Slot} : VRel F w m (.slice none 0 0) (.lit [])
  | sl {m : Nat → Slot} (ad : Addr) (c sz : Nat) (l : List PV) (cs : Nat → Nat → Value) (hF : F ad.block) (hc : l.length ≤ c) (hm : c ≤ maxLen) (hz : ∀ e ∈ l, e.cells.length = sz)
      (hcell : ∀ i, i < l.length → ∀ j, j < sz → w.cell? (ad.add (i * sz + j)) = some (cs i j))
      (h : ∀ i (h1 : i < l.length) j (h2 : j < (l[i]).cells.length), VRel F w noM (cs i j) (l[i]).cells[j]) : VRel F w m (.slice (some ad) l.length c) (.sl l)
  | lit {m : Nat → Slot} (ad : Addr) (sz : Nat) (l : List PV) (cs : Nat → Nat → Value) (hF : F ad.block) (hm : l.length ≤ maxLen) (hz : ∀ e ∈ l, e.cells.length = sz)
      (hcell : ∀ i, i < l.length → ∀ j, j < sz → w.cell? (ad.add (i * sz + j)) = some (cs i j))
      (h : ∀ i (h1 : i < l.length) j (h2 : j < (l[i]).cells.length), VRel F w m (cs i j) (l[i]).cells[j]) : VRel F w m (.slice (some ad) l.length l.length) (.lit l)
  | ref {m : Nat → Slot} (A : Option Addr) (c b g off len : Nat) (h : match m b with
      | .unborn => False
      | .dead => True
      | .virt g' => g ≤ g' ∧ (g = g' → len = 0 ∧ c = 0)
      | .live β sz g' => g ≤ g' ∧ (g = g' → A = some ⟨β, off * sz, none⟩ ∧ len ≤ c ∧ c ≤ maxLen ∧ (off + c) * sz ≤ rowSize w β)
      | .mp _ => False) : VRel F w m (.slice A len c) (.ref b g off len)
  | ptr {m : Nat → Slot} (ad : Addr) (b g i off : Nat) (h : match m b with
      | .unborn => False
      | .dead => True
      | .virt _ => False
      | .live β sz g' => g ≤ g' ∧ (g = g' → ad = ⟨β, i * sz + off, none⟩)
      | .mp _ => False) : VRel F w m (.pointer (some ad)) (.ptr b g i off)
  | cref {m : Nat → Slot} (A : Option Addr) (c b g i off len : Nat) (h : match m b with
      | .unborn => False
      | .dead => True
      | .virt _ => False
      | .live β sz g' => g ≤ g' ∧ (g = g' → A = some ⟨β, i * sz + off, none⟩ ∧ len ≤ c ∧ c ≤ maxLen)
      | .mp _ => False) : VRel F w m (.slice A len c) (.cref b g i off len)
  | fptr {m : Nat → Slot} (ad : Addr) (l : List PV) (cs : Nat → Value) (hF : F ad.block) (hcell : ∀ j, j < l.length → w.cell? (ad.add j) = some (cs j))
      (h : ∀ j (h1 : j < l.length), VRel F w m (cs j) l[j]) : VRel F w m (.pointer (some ad)) (.fptr l)
  | fn {m : Nat → Slot} (f : FuncId) (first captured : Array Value) (caps : List PV) (h0 : first = #[]) (hs : captured.size = caps.length) (h : ∀ i (h1 : i < captured.size) (h2 : i < caps.length), VRel F w m captured[i] caps[i]) :
      VRel F w m (.func (.func f) first captured) (.fn f caps)
  | ifc {m : Nat → Slot} (t : TypeId) (v : Value) (p : PV) (h : VRel F w m v p) : VRel F w m (.iface t v) (.ifc t p)
  | raw {m : Nat → Slot} (t : TypeId) (v : Value) : VRel F w m (.iface t v) (.raw (.iface t v))
  | mp {m : Nat → Slot} (β b : Nat) (h : m b = .mp β ∨ m b = .dead) : VRel F w m (.map (some β)) (.mp b)
  | yld {m : Nat → Slot} (β b : Nat) (h : m b = .mp β ∨ m b = .dead) : VRel F w m (.func (.yield β) #[] #[]) (.yld b)
def LiveIn (m : Nat → Slot) (β : Nat) : Prop := ∃ b, (m b).at = some β
structure Ev (F : Nat → Prop) (m : Nat → Slot) (w : World) (F' : Nat → Prop) (m' : Nat → Slot) (w' : World) : Prop where
  grow : w.heap.size ≤ w'.heap.size
  frz : ∀ β, F β → F' β
  fnl : ∀ β, F β → β < w.heap.size ∧ ¬ LiveIn m β
  keep : ∀ β, β < w.heap.size → ¬ LiveIn m β → w'.heap[β]? = w.heap[β]?
  fresh : ∀ β, LiveIn m' β → LiveIn m β ∨ w.heap.size ≤ β
  size : ∀ β, β < w.heap.size → rowSize w' β = rowSize w β
  slot : ∀ b, match m b with
    | .unborn => True
    | .dead => m' b = .dead
    | .virt g => m' b = .dead ∨ (∃ g', m' b = .virt g' ∧ g ≤ g') ∨ ∃ β' sz' g', m' b = .live β' sz' g' ∧ g < g'
    | .live β sz g => m' b = .dead ∨ ∃ β' g', m' b = .live β' sz g' ∧ g ≤ g' ∧ (g = g' → β = β')
    | .mp β => m' b = .dead ∨ m' b = .mp β
  liv : ∀ b β, (m b).at = some β → β < w.heap.size
  nfz : ∀ β, F' β → F β ∨ LiveIn m β ∨ w.heap.size ≤ β
theorem Ev.keepF {F m w F' m' w'} (h : Ev F m w F' m' w') {β : Nat} (hb : F β) : w'.heap[β]? = w.heap[β]? := h.keep β (h.fnl β hb).1 (h.fnl β hb).2
theorem slot_refl (s : Slot) : match s with
    | .unborn => True
    | .dead => s = .dead
    | .virt g => s = .dead ∨ (∃ g', s = .virt g' ∧ g ≤ g') ∨ ∃ β' sz' g', s = .live β' sz' g' ∧ g < g'
    | .live β sz g => s = .dead ∨ ∃ β' g', s = .live β' sz g' ∧ g ≤ g' ∧ (g = g' → β = β')
    | .mp β => s = .dead ∨ s = .mp β := by
  cases s with
  | unborn => trivial
  | dead => rfl
  | virt g => exact .inr (.inl ⟨g, rfl, Nat.le_refl _⟩)
  | live β sz g => exact .inr ⟨β, g, rfl, Nat.le_refl _, fun _ => rfl⟩
  | mp β => exact .inr rfl
theorem Ev.refl {F m w} (hf : ∀ β, F β → β < w.heap.size ∧ ¬ LiveIn m β) (h : ∀ b β, (m b).at = some β → β < w.heap.size) : Ev F m w F m w :=
  ⟨Nat.le_refl _, fun _ h => h, hf, fun _ _ _ => rfl, fun _ h => .inl h, fun _ _ => rfl, fun _ => slot_refl _, h, fun _ h => .inl h⟩
theorem Ev.trans {F m w F' m' w' F'' m'' w''} (h : Ev F m w F' m' w') (k : Ev F' m' w' F'' m'' w'') : Ev F m w F'' m'' w'' := by
  refine ⟨Nat.le_trans h.grow k.grow, fun β hb => k.frz β (h.frz β hb), h.fnl, fun β hb hl => ?_, fun β hb => ?_, fun β hb => (k.size β (Nat.lt_of_lt_of_le hb h.grow)).trans (h.size β hb), fun b => ?_, h.liv, fun β hb => ?_⟩
  · refine (k.keep β (Nat.lt_of_lt_of_le hb h.grow) fun hl' => ?_).trans (h.keep β hb hl)
    rcases h.fresh β hl' with e | e
    · exact hl e
    · omega
  · rcases k.fresh β hb with e | e
    · exact h.fresh β e
    · exact .inr (Nat.le_trans h.grow e)
  rotate_left
  · rcases k.nfz β hb with e | e | e
    · exact h.nfz β e
    · exact .inr (h.fresh β e)
    · exact .inr (.inr (Nat.le_trans h.grow e))
  have h1 := h.slot b
  have h2 := k.slot b
  cases hm : m b with
  | unborn => trivial
  | dead =>
    rw [hm] at h1
    simp only at h1
    rw [h1] at h2
    exact h2
  | virt g =>
    rw [hm] at h1
    simp only at h1
    rcases h1 with h1 | ⟨g', h1, hg⟩ | ⟨β', sz', g', h1, hg⟩
    · rw [h1] at h2; exact .inl h2
    · rw [h1] at h2
      simp only at h2
      rcases h2 with h2 | ⟨g'', h2, hg'⟩ | ⟨β', sz', g'', h2, hg'⟩
      · exact .inl h2
      · exact .inr (.inl ⟨g'', h2, by omega⟩)
      · exact .inr (.inr ⟨β', sz', g'', h2, by omega⟩)
    · rw [h1] at h2
      simp only at h2
      rcases h2 with h2 | ⟨β'', g'', h2, hg', _⟩
      · exact .inl h2
      · exact .inr (.inr ⟨β'', sz', g'', h2, by omega⟩)
  | live β sz g =>
    rw [hm] at h1
    simp only at h1
    rcases h1 with h1 | ⟨β', g', h1, hg, hb⟩
    · rw [h1] at h2; exact .inl h2
    · rw [h1] at h2
      simp only at h2
      rcases h2 with h2 | ⟨β'', g'', h2, hg', hb'⟩
      · exact .inl h2
      · refine .inr ⟨β'', g'', h2, Nat.le_trans hg hg', fun e => ?_⟩
        have e1 : g = g' := by omega
        have e2 : g' = g'' := by omega
        rw [hb e1, hb' e2]
  | mp β =>
    rw [hm] at h1
    simp only at h1
    rcases h1 with h1 | h1
    · rw [h1] at h2; exact .inl h2
    · rw [h1] at h2; exact h2
theorem cell_keep {w w' : World} {β : Nat} (h : w'.heap[β]? = w.heap[β]?) (ad : Addr) (hb : ad.block = β) : w'.cell? ad = w.cell? ad := by
  subst hb
  simp [World.cell?, h]
theorem add_block (ad : Addr) (n : Nat) : (ad.add n).block = ad.block := by
  unfold Addr.add
  split <;> rfl
structure EvV (F : Nat → Prop) (m : Nat → Slot) (w : World) (F' : Nat → Prop) (m' : Nat → Slot) (w' : World) : Prop where
  frz : ∀ β, F β → F' β
  keepF : ∀ β, F β → w'.heap[β]? = w.heap[β]?
  size : ∀ β, β < w.heap.size → rowSize w' β = rowSize w β
  slot : ∀ b, match m b with
    | .unborn => True
    | .dead => m' b = .dead
    | .virt g => m' b = .dead ∨ (∃ g', m' b = .virt g' ∧ g ≤ g') ∨ ∃ β' sz' g', m' b = .live β' sz' g' ∧ g < g'
    | .live β sz g => m' b = .dead ∨ ∃ β' g', m' b = .live β' sz g' ∧ g ≤ g' ∧ (g = g' → β = β')
    | .mp β => m' b = .dead ∨ m' b = .mp β
  liv : ∀ b β, (m b).at = some β → β < w.heap.size
theorem VRel.monoV {F w F' w' m v p} (h : VRel F w m v p) : ∀ {m'}, EvV F m w F' m' w' → VRel F' w' m' v p := by
  induction h with
  | int k n => exact fun _ => .int k n
  | bool b => exact fun _ => .bool b
  | str s => exact fun _ => .str s
  | nilp => exact fun _ => .nilp
  | nilf => exact fun _ => .nilf
  | nili => exact fun _ => .nili
  | nilm => exact fun _ => .nilm
  | agg a l hs _ ih => exact fun e => .agg a l hs fun i h1 h2 => ih i h1 h2 e
  | tup a l hs _ ih => exact fun e => .tup a l hs fun i h1 h2 => ih i h1 h2 e
  | slnil A c hc => exact fun _ => .slnil A c hc
  | litnil => exact fun _ => .litnil
  | sl ad c sz l cs hF hc hm hz hcell _ ih =>
    intro m' e
    exact .sl ad c sz l cs (e.frz _ hF) hc hm hz (fun i hi j hj => (cell_keep (e.keepF _ hF) _ (add_block _ _)).trans (hcell i hi j hj)) (fun i h1 j h2 => ih i h1 j h2 ⟨e.frz, e.keepF, e.size, fun _ => trivial, fun _ _ h => by simp [noM, Slot.at] at h⟩)
  | lit ad sz l cs hF hm hz hcell _ ih =>
    intro m' e
    exact .lit ad sz l cs (e.frz _ hF) hm hz (fun i hi j hj => (cell_keep (e.keepF _ hF) _ (add_block _ _)).trans (hcell i hi j hj)) (fun i h1 j h2 => ih i h1 j h2 e)
  | @ref m A c b g off len h =>
    intro m' e
    refine .ref A c b g off len ?_
    have hs := e.slot b
    cases hm : m b with
    | unborn => rw [hm] at h; exact h.elim
    | dead => rw [hm] at hs; simp only at hs; rw [hs]; trivial
    | virt g1 =>
      rw [hm] at h hs
      simp only at h hs
      rcases hs with hs | ⟨g', hs, hg⟩ | ⟨β', sz', g', hs, hg⟩
      · rw [hs]; trivial
      · rw [hs]; exact ⟨by omega, fun e => h.2 (by omega)⟩
      · rw [hs]; exact ⟨by omega, fun e => by omega⟩
    | live β sz g1 =>
      have hl := e.liv b β (by rw [hm]; rfl)
      rw [hm] at h hs
      simp only at h hs
      rcases hs with hs | ⟨β', g', hs, hg, hb⟩
      · rw [hs]; trivial
      · rw [hs]
        simp only
        refine ⟨by omega, fun he => ?_⟩
        have e1 : g1 = g' := by omega
        have hbb := hb e1
        subst hbb
        obtain ⟨ha, h1, h2, h3⟩ := h.2 (by omega)
        exact ⟨ha, h1, h2, by rw [e.size β hl]; exact h3⟩
    | mp _ => rw [hm] at h; exact h.elim
  | @ptr m ad b g i off h =>
    intro m' e
    refine .ptr ad b g i off ?_
    have hs := e.slot b
    cases hm : m b with
    | unborn => rw [hm] at h; exact h.elim
    | dead => rw [hm] at hs; simp only at hs; rw [hs]; trivial
    | virt _ => rw [hm] at h; exact h.elim
    | live β sz g1 =>
      rw [hm] at h hs
      simp only at h hs
      rcases hs with hs | ⟨β', g', hs, hg, hb⟩
      · rw [hs]; trivial
      · rw [hs]
        simp only
        refine ⟨by omega, fun he => ?_⟩
        have e1 : g1 = g' := by omega
        have hbb := hb e1
        subst hbb
        exact h.2 (by omega)
    | mp _ => rw [hm] at h; exact h.elim
  | @cref m A c b g i off len h =>
    intro m' e
    refine .cref A c b g i off len ?_
    have hs := e.slot b
    cases hm : m b with
    | unborn => rw [hm] at h; exact h.elim
    | dead => rw [hm] at hs; simp only at hs; rw [hs]; trivial
    | virt _ => rw [hm] at h; exact h.elim
    | live β sz g1 =>
      rw [hm] at h hs
      simp only at h hs
      rcases hs with hs | ⟨β', g', hs, hg, hb⟩
      · rw [hs]; trivial
      · rw [hs]
        simp only
        refine ⟨by omega, fun he => ?_⟩
        have e1 : g1 = g' := by omega
        have hbb := hb e1
        subst hbb
        exact h.2 (by omega)
    | mp _ => rw [hm] at h; exact h.elim
  | fptr ad l cs hF hcell _ ih =>
    intro m' e
    exact .fptr ad l cs (e.frz _ hF) (fun j hj => (cell_keep (e.keepF _ hF) _ (add_block _ _)).trans (hcell j hj)) (fun j h1 => ih j h1 e)
  | fn f first captured caps h0 hs _ ih => exact fun e => .fn f first captured caps h0 hs fun i h1 h2 => ih i h1 h2 e
  | ifc t v p _ ih => exact fun e => .ifc t v p (ih e)
  | raw t v => exact fun _ => .raw t v
  | @mp m β b h =>
    intro m' e
    refine .mp β b ?_
    have hs := e.slot b
    rcases h with h | h
    · rw [h] at hs
      exact hs.symm
    · rw [h] at hs
      exact .inr hs
  | @yld m β b h =>
    intro m' e
    refine .yld β b ?_
    have hs := e.slot b
    rcases h with h | h
    · rw [h] at hs
      exact hs.symm
    · rw [h] at hs
      exact .inr hs
theorem VRel.mono {F m w F' m' w' v p} (h : VRel F w m v p) (e : Ev F m w F' m' w') : VRel F' w' m' v p :=
  h.monoV ⟨e.frz, fun _ h => e.keepF h, e.size, e.slot, e.liv⟩
theorem VRel.weak {F w v p} (h : VRel F w noM v p) (m : Nat → Slot) : VRel F w m v p :=
  h.monoV ⟨fun _ h => h, fun _ _ => rfl, fun _ _ => rfl, fun _ => trivial, fun _ _ h => by simp [noM, Slot.at] at h⟩
theorem VRel.monoNo {F m w F' m' w' v p} (h : VRel F w noM v p) (e : Ev F m w F' m' w') : VRel F' w' noM v p :=
  h.monoV ⟨e.frz, fun _ h => e.keepF h, e.size, fun _ => trivial, fun _ _ h => by simp [noM, Slot.at] at h⟩
inductive RO where
  | t (n : Nat)
  | c (v : PV)
  | g (n : Nat)
  deriving Inhabited
abbrev Env := Nat → Option PV
def RO.ev (gl : Nat → Option PV) (env : Env) : RO → Option PV
  | .t n => env n
  | .c v => some v
  | .g n => gl n
abbrev Shape := Option Nat
inductive Prim where
  | sliceStr (lo hi : Bool)
  | sliceSl (sz : Nat) (lo hi mx : Bool)
  | sliceArr (n : Nat) (lo hi mx : Bool)
  | sidx
  | nilCheck
  | compl
  | mkif (t : TypeId)
  | mapget
  | ptreq (ne : Bool)
  | tostr
  deriving Inhabited
inductive EPrim where
  | clear (sz : Nat) (z : PV)
  | mkmap
  | mapset
  deriving Inhabited
inductive RI where
  | nope
  | prim (t : Prim) (args : List RO)
  | eprim (t : EPrim) (args : List RO)
  | move (x : RO)
  | pick (c a b : RO)
  | alloc (z : PV)
  | box (x : RO)
  | build (z : List PV) (parts : List (Nat × Nat × RO))
  | bslice (own : Bool) (sz n : Nat) (z : PV) (parts : List (Nat × RO))
  | load (es : Shape) (x : RO)
  | loadF (es : Shape) (x : RO)
  | store (n : Nat) (x v : RO)
  | bin (op : BinOp) (x y : RO)
  | binb (op : BinOp) (x y : RO)
  | eqs (ne : Bool) (leaves : List (Nat × Nat)) (x y : RO)
  | un (op : UnOp) (x : RO)
  | conv (k : IntKind) (x : RO)
  | fieldAddr (off : Nat) (x : RO)
  | field (off : Nat) (es : Shape) (x : RO)
  | idxAddr (sz : Nat) (x i : RO)
  | idxAddrA (len sz : Nat) (x i : RO)
  | idx (len sz : Nat) (es : Shape) (x i : RO)
  | extract (i : Nat) (x : RO)
  | len (str : Bool) (x : RO)
  | mm (mx : Bool) (x : RO) (l : List RO)
  | append (sz : Nat) (z : PV) (s x : RO)
  | appendF (sz : Nat) (z : PV) (s x : RO)
  | copy (sz : Nat) (d s : RO)
  | mkslice (sz : Nat) (z : PV) (n : RO)
  | mkfunc (f : FuncId) (caps : List RO)
  | call (f : FuncId) (args : List RO)
  | callP (f : FuncId) (args : List RO)
  | callv (x : RO) (args : List RO)
  deriving Inhabited
def RI.eff : RI → Bool
  | .store .. | .append .. | .copy .. | .eprim .. => true
  | _ => false
def PV.one : PV → Bool
  | .agg _ | .tup _ | .raw _ => false
  | _ => true
def subv (es : Shape) (l : List PV) : Option PV :=
  match es with
  | none => l.head?
  | some n => if n ≤ l.length then some (.agg (l.take n)) else none
def splice (l : List PV) (off : Nat) (c : List PV) : List PV := l.take off ++ c ++ l.drop (off + c.length)
def fillP (ev : RO → Option PV) : List (Nat × Nat × RO) → List PV → Option (List PV)
  | [], l => some l
  | (off, n, x) :: r, l => do
    let v ← ev x
    if v.cells.length = n ∧ off + n ≤ l.length then fillP ev r (splice l off v.cells) else none
def fillE (ev : RO → Option PV) (sz : Nat) : List (Nat × RO) → List PV → Option (List PV)
  | [], l => some l
  | (i, x) :: r, l => do
    let v ← ev x
    if v.cells.length = sz ∧ i < l.length then fillE ev sz r (l.set i v) else none
def bitsI (op : BinOp) (k : IntKind) (x y : Int) : Option Int :=
  let a := BitVec.ofInt k.bits x
  let b := BitVec.ofInt k.bits y
  match op with
  | .and => some (k.wrap (a &&& b).toNat)
  | .or => some (k.wrap (a ||| b).toNat)
  | .xor => some (k.wrap (a ^^^ b).toNat)
  | .andNot => some (k.wrap (a &&& ~~~b).toNat)
  | _ => none
def cmpI (op : BinOp) (x y : Int) : Option Bool :=
  match op with
  | .eql => some (x == y)
  | .neq => some (x != y)
  | .lss => some (decide (x < y))
  | .leq => some (decide (x ≤ y))
  | .gtr => some (decide (x > y))
  | .geq => some (decide (x ≥ y))
  | _ => none
def binI (op : BinOp) (k : IntKind) (x y : Int) : Option PV :=
  match op with
  | .add => some (.int k (k.wrap (x + y)))
  | .sub => some (.int k (k.wrap (x - y)))
  | .mul => some (.int k (k.wrap (x * y)))
  | .quo => if y = 0 then none else some (.int k (k.wrap (x.tdiv y)))
  | .rem => if y = 0 then none else some (.int k (x.tmod y))
  | .and | .or | .xor | .andNot => (bitsI op k x y).map (.int k)
  | .shl | .shr => none
  | _ => (cmpI op x y).map .bool
def shiftI (op : BinOp) (k : IntKind) (x y : Int) : Option PV :=
  if y < 0 then none else
  match op with
  | .shl => some (.int k (k.wrap (x * 2 ^ (min y.toNat k.bits))))
  | .shr => some (.int k (x.fdiv (2 ^ (min y.toNat k.bits))))
  | _ => none
def binP (op : BinOp) (x y : PV) : Option PV :=
  match x, y with
  | .int k a, .int k' b =>
    match op with
    | .shl | .shr => shiftI op k a b
    | _ => if k = k' then binI op k a b else none
  | .str a, .str b => match op with
    | .eql => some (.bool (a.toList == b.toList))
    | .neq => some (.bool (!(a.toList == b.toList)))
    | _ => none
  | _, _ => none
def binB (op : BinOp) (x y : PV) : Option PV :=
  match x, y with
  | .bool a, .bool b => match op with
    | .eql => some (.bool (a == b))
    | .neq => some (.bool (!(a == b)))
    | _ => none
  | _, _ => none
def eq1 (tag : Nat) (x y : PV) : Option Bool :=
  match tag, x, y with
  | 0, .bool a, .bool b => some (a == b)
  | 1, .int k a, .int k' b => if k = k' then some (a == b) else none
  | 2, .str a, .str b => some (a == b)
  | _, _, _ => none
def eqL (l r : List PV) : List (Nat × Nat) → Option Bool
  | [] => some true
  | o :: os => do
    let x ← l[o.1]?
    let y ← r[o.1]?
    let b ← eq1 o.2 x y
    if b then eqL l r os else some false
def unP (op : UnOp) (x : PV) : Option PV :=
  match op, x with
  | .neg, .int k n => some (.int k (k.wrap (0 - n)))
  | .not, .bool b => some (.bool (!b))
  | _, _ => none
def PV.lenP : PV → Option Nat
  | .sl l | .lit l => some l.length
  | .ref _ _ _ n | .cref _ _ _ _ n => some n
  | _ => none
def lenOf (str : Bool) (v : PV) : Option Nat :=
  if str then (match v with | .str s => some s.size | _ => none) else v.lenP
def mm2 (mx : Bool) (x y : PV) : Option PV :=
  match x, y with
  | .int k a, .int _ b => some (.int k (if mx then (if b > a then b else a) else (if b < a then b else a)))
  | _, _ => none
def mmL (ev : RO → Option PV) (mx : Bool) : PV → List RO → Option PV
  | x, [] => some x
  | x, y :: r => do
    let y ← ev y
    let z ← mm2 mx x y
    mmL ev mx z r
def Hp.blk (H : Hp) (b g : Nat) : Option Blk := do
  let k ← H.f b
  if k.g = g then some k else none
def elems (H : Hp) : PV → Option (List PV)
  | .sl l | .lit l => some l
  | .ref b g off len => do
    let k ← H.blk b g
    if off + len ≤ k.xs.length then some ((k.xs.drop off).take len) else none
  | .cref b g i off len => do
    let k ← H.blk b g
    let e ← k.xs[i]?
    if off + len ≤ e.cells.length ∧ ((e.cells.drop off).take len).all PV.one then some ((e.cells.drop off).take len) else none
  | _ => none
def evs (ev : RO → Option PV) : List RO → Option (List PV)
  | [] => some []
  | x :: r => do
    let v ← ev x
    let l ← evs ev r
    some (v :: l)
def pureF : PV → Bool
  | .int .. | .bool _ | .str _ | .nilp | .nilf | .nili | .nilm | .sl _ => true
  | _ => false
def bnd (n : Nat) : PV → Option Nat
  | .int _ i => if 0 ≤ i ∧ i ≤ n then some i.toNat else none
  | _ => none
def bnds (lo hi mx : Bool) (n : Nat) (l : List PV) : Option (Nat × Nat × Nat) :=
  match lo, hi, mx, l with
  | false, false, false, [] => some (0, n, n)
  | true, false, false, [a] => (bnd n a).map fun a => (a, n, n)
  | false, true, false, [b] => (bnd n b).map fun b => (0, b, n)
  | true, true, false, [a, b] => do
    let b ← bnd n b
    let a ← bnd b a
    some (a, b, n)
  | false, true, true, [b, c] => do
    let c ← bnd n c
    let b ← bnd c b
    some (0, b, c)
  | true, true, true, [a, b, c] => do
    let c ← bnd n c
    let b ← bnd c b
    let a ← bnd b a
    some (a, b, c)
  | _, _, _, _ => none
def mapB : List PV → Bool
  | .lp _ _ :: _ => false
  | _ => true
def mapLook : List PV → Int → Bool
  | [], _ => false
  | .agg [.int .i64 a, .bool b] :: r, n => if a = n then b else mapLook r n
  | _ :: r, n => mapLook r n
def mapPut : List PV → Int → Bool → List PV
  | [], n, v => [.agg [.int .i64 n, .bool v]]
  | .agg [.int .i64 a, .bool b] :: r, n, v => if a = n then .agg [.int .i64 n, .bool v] :: r else .agg [.int .i64 a, .bool b] :: mapPut r n v
  | x :: r, n, v => x :: mapPut r n v
def bytesOf : List PV → Option (List Int)
  | [] => some []
  | .int .u8 n :: r => (bytesOf r).map (n :: ·)
  | _ => none
def strOf (l : List Int) : ByteArray := l.foldl (fun r n => r.push (UInt8.ofNat n.toNat)) ByteArray.empty
def primF (H : Hp) : Prim → List PV → Option PV
  | .ptreq ne, [.ptr b g i o, .ptr c h j q] => do
    let _ ← H.blk b g
    if b = c ∧ g = h ∧ i = j then some (.bool (if ne then !(o == q) else o == q)) else none
  | .tostr, [x] => do
    let l ← elems H x
    let ns ← bytesOf l
    some (.str (strOf ns))
  | .sliceStr lo hi, .str s :: bs => do
    let (a, b, _) ← bnds lo hi false s.size bs
    some (.str (s.extract a b))
  | .sliceSl sz lo hi mx, x :: bs => do
    let n ← x.lenP
    let (a, b, _) ← bnds lo hi mx n bs
    match x with
    | .sl l => if a = b then some (.sl []) else if l.all (fun e => e.cells.length == sz) then some (.sl ((l.drop a).take (b - a))) else none
    | .lit l => if a = b then some (.sl []) else if l.all (fun e => e.cells.length == sz && e.cells.all pureF) then some (.sl ((l.drop a).take (b - a))) else none
    | .ref c g off _ =>
      match mx, lo with
      | true, false => if sz = 3 then (do
          let k ← H.blk c g
          if a = b then (if a == 0 && k.sz == sz then some (.ref c g off 0) else some (.sl [])) else if k.sz = sz then some (.ref c g (off + a) (b - a)) else none) else none
      | _, _ => do
        let k ← H.blk c g
        if a = b then some (.sl []) else if k.sz = sz then some (.ref c g (off + a) (b - a)) else none
    | .cref c g i off _ =>
      match mx, lo with
      | true, false => none
      | _, _ => do
        let _ ← H.blk c g
        if a = b then some (.sl []) else if sz = 1 then some (.cref c g i (off + a) (b - a)) else none
    | _ => none
  | .sliceArr n lo hi mx, .ptr c g i off :: bs => do
    let (a, b, _) ← bnds lo hi mx n bs
    let _ ← H.blk c g
    if a = b then some (.sl []) else some (.cref c g i (off + a) (b - a))
  | .sidx, [.str s, .int _ i] => if 0 ≤ i then (s[i.toNat]?).map fun b => .int .u8 b.toNat else none
  | .nilCheck, [.ptr b g i off] => some (.ptr b g i off)
  | .nilCheck, [.fptr l] => some (.fptr l)
  | .mkif t, [x] => some (.ifc t x)
  | .mapget, [.mp b, .int .i64 n] => (H.f b).bind fun k => if mapB k.xs then some (.bool (mapLook k.xs n)) else none
  | .mapget, [.nilm, .int .i64 _] => some (.bool false)
  | .compl, [.int k n] => (bitsI .xor k (if k.signed then -1 else k.max) n).map (.int k)
  | _, _ => none
def stepN (ev : RO → Option PV) (H : Hp) : RI → Option (PV × List Blk)
  | .move x => do return (← ev x, [])
  | .pick c a b => do
    match ← ev c with
    | .bool t => do return (← ev (if t then a else b), [])
    | _ => none
  | .alloc z => some (.ptr H.n 0 0 0, [⟨0, z.cells.length, [z]⟩])
  | .box x => do
    let v ← ev x
    match v with
    | .tup _ => none
    | _ => some (.ptr H.n 0 0 0, [⟨0, v.cells.length, [v]⟩])
  | .build z parts => do return (.agg (← fillP ev parts z), [])
  | .bslice own sz n z parts => do
    if z.cells.length = sz ∧ n * sz ≤ 16777216 ∧ n ≤ maxLen then
      let l ← fillE ev sz parts (List.replicate n z)
      if own then some (.ref H.n 0 0 n, [⟨0, sz, l⟩]) else some (.lit l, [])
    else none
  | .load es x => do
    match ← ev x with
    | .ptr b g i off => do
      let k ← H.blk b g
      let e ← k.xs[i]?
      return (← subv es (e.cells.drop off), [])
    | .fptr l => do return (← subv es l, [])
    | _ => none
  | .loadF es x => do
    match ← ev x with
    | .fptr l => do return (← subv es l, [])
    | _ => none
  | .bin op x y => do return (← binP op (← ev x) (← ev y), [])
  | .binb op x y => do return (← binB op (← ev x) (← ev y), [])
  | .eqs ne ls x y => do
    match ← ev x, ← ev y with
    | .agg l, .agg r => do
      let b ← eqL l r ls
      return (.bool (if ne then !b else b), [])
    | _, _ => none
  | .un op x => do return (← unP op (← ev x), [])
  | .conv k x => do
    match ← ev x with
    | .int _ n => some (.int k (k.wrap n), [])
    | _ => none
  | .fieldAddr off x => do
    match ← ev x with
    | .ptr b g i o => some (.ptr b g i (o + off), [])
    | .fptr l => some (.fptr (l.drop off), [])
    | _ => none
  | .field off es x => do
    match ← ev x with
    | .agg l => do return (← subv es (l.drop off), [])
    | _ => none
  | .idxAddr sz x i => do
    match ← ev x, ← ev i with
    | .sl l, .int _ n | .lit l, .int _ n => do
      if 0 ≤ n then
        let e ← l[n.toNat]?
        if e.cells.length = sz then some (.fptr e.cells, []) else none
      else none
    | .ref b g off len, .int _ n => do
      let k ← H.blk b g
      if 0 ≤ n ∧ n < len ∧ k.sz = sz then some (.ptr b g (off + n.toNat) 0, []) else none
    | .cref b g j off len, .int _ n => do
      let _ ← H.blk b g
      if 0 ≤ n ∧ n < len ∧ sz = 1 then some (.ptr b g j (off + n.toNat), []) else none
    | _, _ => none
  | .idxAddrA len sz x i => do
    match ← ev x, ← ev i with
    | .ptr b g j o, .int _ n => if 0 ≤ n ∧ n < len then some (.ptr b g j (o + n.toNat * sz), []) else none
    | .fptr l, .int _ n => if 0 ≤ n ∧ n < len then some (.fptr (l.drop (n.toNat * sz)), []) else none
    | _, _ => none
  | .idx len sz es x i => do
    match ← ev x, ← ev i with
    | .agg l, .int _ n => if 0 ≤ n ∧ n < len then do return (← subv es (l.drop (n.toNat * sz)), []) else none
    | _, _ => none
  | .extract i x => do
    match ← ev x with
    | .tup l => do return (← l[i]?, [])
    | _ => none
  | .len str x => do return (.int .i64 (← lenOf str (← ev x)), [])
  | .mm mx x l => do return (← mmL ev mx (← ev x) l, [])
  | .mkslice sz z n => do
    match ← ev n with
    | .int .i64 k => if 0 ≤ k ∧ k ≤ 1048576 ∧ z.cells.length = sz then some (.ref H.n 0 0 k.toNat, [⟨0, sz, List.replicate k.toNat z⟩]) else none
    | _ => none
  | .mkfunc f caps => do return (.fn f (← evs ev caps), [])
  | .appendF sz _ s x => do
    match ← ev s with
    | .lit l => do
      let ys ← elems H (← ev x)
      if (l ++ ys).all (fun y => y.cells.length == sz && y.cells.all pureF) && decide ((l ++ ys).length ≤ 1048576) then some (.sl (l ++ ys), []) else none
    | _ => none
  | .prim t args => do return (← primF H t (← evs ev args), [])
  | _ => none
def Hp.set (H : Hp) (b : Nat) (k : Blk) : Hp := ⟨H.n, fun c => (H.f c).map fun o => if c = b then k else o, fun c hc => by simp [H.wf c hc]⟩
def Hp.add (H : Hp) (l : List Blk) : Hp := ⟨H.n + l.length, fun c => if c < H.n then H.f c else l[c - H.n]?, fun c hc => by
  rw [if_neg (by omega)]
  exact List.getElem?_eq_none (by omega)⟩
def Hp.none : Hp := ⟨0, fun _ => .none, fun _ _ => rfl⟩
def putAt (xs : List PV) (i off : Nat) (v : PV) : Option (List PV) := do
  let e ← xs[i]?
  if off = 0 ∧ v.cells.length = e.cells.length then some (xs.set i v)
  else if off + v.cells.length ≤ e.cells.length then some (xs.set i (.agg (splice e.cells off v.cells))) else none
def flat (l : List PV) : List PV := l.flatMap PV.cells
def eprimF (H : Hp) : EPrim → List PV → Option (Option PV × Hp)
  | .mkmap, [] => some (some (.mp H.n), H.add [⟨0, 2, []⟩])
  | .mapset, [.mp b, .int .i64 n, .bool v] => (H.f b).bind fun k => if mapB k.xs then some (none, H.set b ⟨k.g, k.sz, mapPut k.xs n v⟩) else none
  | .clear sz z, [x] =>
    if z.cells.length = sz ∧ z.cells.all PV.one = true then
    match x with
    | .sl [] => some (some (.tup []), H)
    | .cref b g i off len => do
      let k ← H.blk b g
      let e ← k.xs[i]?
      if sz = 1 ∧ 0 < len ∧ off + len ≤ e.cells.length then some (some (.tup []), H.set b ⟨g, k.sz, k.xs.set i (.agg (splice e.cells off (flat (List.replicate len z))))⟩) else none
    | .ref b g off len => do
      let k ← H.blk b g
      if k.sz = sz ∧ 0 < len ∧ off + len ≤ k.xs.length then some (some (.tup []), H.set b ⟨g, k.sz, splice k.xs off (List.replicate len z)⟩) else none
    | _ => none
    else none
  | _, _ => none
def stepE (ev : RO → Option PV) (H : Hp) : RI → Option (Option PV × Hp)
  | .store n x v => do
    let v ← ev v
    match ← ev x with
    | .ptr b g i off => do
      let k ← H.blk b g
      if v.cells.length = n ∧ v.cells.all PV.one then
        return (none, H.set b ⟨k.g, k.sz, ← putAt k.xs i off v⟩)
      else none
    | _ => none
  | .append sz _ s x => do
    let s ← ev s
    let ys ← elems H (← ev x)
    if ys.all (fun y => y.cells.length == sz && y.cells.all PV.one) && decide ((s.lenP.getD 0) + ys.length ≤ 1048576) then
      match s with
      | .lit l => if l.all (fun y => y.cells.length == sz && y.cells.all PV.one) && !ys.isEmpty then
          some (some (.ref H.n 0 0 (l.length + ys.length)), H.add [⟨0, sz, l ++ ys⟩]) else if ys.isEmpty then some (some (.lit l), H) else none
      | .ref b g 0 len => do
        let k ← H.blk b g
        if len = k.xs.length ∧ k.sz = sz then some (some (.ref b (g + 1) 0 (len + ys.length)), H.set b ⟨g + 1, sz, k.xs ++ ys⟩) else none
      | _ => none
    else none
  | .copy sz d s => do
    match ← ev d with
    | .ref b g off len => do
      let k ← H.blk b g
      let ys ← elems H (← ev s)
      let n := min ys.length len
      if off + len ≤ k.xs.length ∧ k.sz = sz ∧ (ys.take n).all (fun y => y.cells.length == sz && y.cells.all PV.one) then
        some (some (.int .i64 n), H.set b ⟨g, sz, splice k.xs off (ys.take n)⟩) else none
    | _ => none
  | .eprim t args => do
    eprimF H t (← evs ev args)
  | _ => none
end Go.Vm
namespace Go.Vm
open Go Go.RowKit
def BlkOk (F : Nat → Prop) (m : Nat → Slot) (w : World) (β : Nat) (k : Blk) : Prop :=
  ∃ (cs : Array Value) (T : TypeId), w.heap[β]? = some (.cells cs T (0, 0)) ∧ k.xs.length * k.sz ≤ cs.size ∧ (∀ x ∈ k.xs, x.cells.length = k.sz) ∧
    ∀ i (h : i < k.xs.length) j (h2 : j < (k.xs[i]).cells.length), ∃ v, cs[i * k.sz + j]? = some v ∧ VRel F w m v (k.xs[i]).cells[j]
def MapOk (w : World) (β : Nat) (xs : List PV) : Prop :=
  ∃ (es : Array MapEntry) (c : Nat), w.heap[β]? = some (.map es c) ∧ es.size = xs.length ∧ ∀ i (h1 : i < es.size) (h2 : i < xs.length), ∃ (n : Int) (b : Bool), (es[i]).key = .int .i64 n ∧ (es[i]).val = .bool b ∧ xs[i] = .agg [.int .i64 n, .bool b]
def LpOk (F : Nat → Prop) (m : Nat → Slot) (w : World) (β : Nat) (xs : List PV) : Prop :=
  ∃ (L : Loop) (ts : List Nat) (ps : List PV), xs = .lp L ts :: ps ∧ w.heap[β]? = some (.loop L) ∧ ts.length = ps.length ∧ ∀ i (h1 : i < ts.length) (h2 : i < ps.length), VRel F w m (L.tmps.getD ts[i] undef) ps[i]
theorem LpOk.mono {F m w F' m' w' β xs} (h : LpOk F m w β xs) (e : Ev F m w F' m' w') (hk : w'.heap[β]? = w.heap[β]?) : LpOk F' m' w' β xs := by
  obtain ⟨L, ts, ps, h1, h2, h3, h4⟩ := h
  exact ⟨L, ts, ps, h1, hk.trans h2, h3, fun i q1 q2 => (h4 i q1 q2).mono e⟩
def Odd (F : Nat → Prop) (m : Nat → Slot) (w : World) (s : Slot) (k : Blk) : Prop := (s = .virt k.g ∧ k.xs = []) ∨ (∃ β, s = .mp β ∧ MapOk w β k.xs) ∨ (∃ β, s = .mp β ∧ LpOk F m w β k.xs)
theorem Odd.mono {F m w F' m' w'} {s : Slot} {k : Blk} (h : Odd F m w s k) (e : Ev F m w F' m' w') (hk : ∀ β, s = .mp β → w'.heap[β]? = w.heap[β]?) : Odd F' m' w' s k := by
  rcases h with h | ⟨β, h1, es, c, h2, h3⟩ | ⟨β, h1, h2⟩
  · exact .inl h
  · exact .inr (.inl ⟨β, h1, es, c, (hk β h1).trans h2, h3⟩)
  · exact .inr (.inr ⟨β, h1, h2.mono e (hk β h1)⟩)
structure Sim (gl : Nat → Option PV) (A : Nat → Prop) (w0 : World) (F : Nat → Prop) (m : Nat → Slot) (w : World) (G : Hp) : Prop where
  below : Below w0.heap.size w0 w
  live : ∀ b β, (m b).at = some β → w0.heap.size ≤ β ∧ β < w.heap.size ∧ ¬ F β
  inj : ∀ b b' β, (m b).at = some β → (m b').at = some β → b = b'
  frz : ∀ β, F β → A β ∨ w0.heap.size ≤ β
  frzlt : ∀ β, F β → β < w.heap.size
  blk : ∀ b k, G.f b = some k → m b ≠ .unborn → (∃ β, m b = .live β k.sz k.g ∧ BlkOk F m w β k) ∨ Odd F m w (m b) k
  glob : ∀ g p, gl g = some p → VRel F w noM (.pointer (some ⟨g, 0, none⟩)) p
theorem Sim.fnl {gl A w0 F m w G} (h : Sim gl A w0 F m w G) : ∀ β, F β → β < w.heap.size ∧ ¬ LiveIn m β := fun β hb => ⟨h.frzlt β hb, fun ⟨b, e⟩ => (h.live b β e).2.2 hb⟩
theorem Sim.liv {gl A w0 F m w G} (h : Sim gl A w0 F m w G) : ∀ b β, (m b).at = some β → β < w.heap.size := fun b β e => (h.live b β e).2.1
theorem at_live {s : Slot} {β sz g : Nat} (h : s = .live β sz g) : s.at = some β := by rw [h]; rfl
theorem at_mp {s : Slot} {β : Nat} (h : s = .mp β) : s.at = some β := by rw [h]; rfl
theorem Sim.blk2 {gl A w0 F m w G} (h : Sim gl A w0 F m w G) (b : Nat) (k : Blk) (hk : G.f b = some k) (hnu : m b ≠ .unborn) (hnm : ∀ β, m b ≠ .mp β) : (∃ β, m b = .live β k.sz k.g ∧ BlkOk F m w β k) ∨ (m b = .virt k.g ∧ k.xs = []) := by
  rcases h.blk b k hk hnu with h | h | ⟨β, h, _⟩ | ⟨β, h, _⟩
  · exact .inl h
  · exact .inr h
  · exact absurd h (hnm β)
  · exact absurd h (hnm β)
/-! ### Operands and types -/
def ofValue : Value → Option PV
  | .int k n => some (.int k n)
  | .bool b => some (.bool b)
  | .string s => some (.str s)
  | .pointer none => some .nilp
  | .nilFunc => some .nilf
  | .nilIface => some .nili
  | .map none => some .nilm
  | .slice none 0 0 => some (.lit [])
  | _ => none
def ofValues : List Value → Option (List PV)
  | [] => some []
  | v :: r => do
    let p ← ofValue v
    let l ← ofValues r
    some (p :: l)
def ofZero : Value → Option PV
  | .agg cs => (ofValues cs.toList).map .agg
  | v => ofValue v
theorem ofValue_rel {F m w v p} (h : ofValue v = some p) : VRel F w m v p := by
  unfold ofValue at h
  split at h <;> first | (injection h with h; subst h; constructor) | cases h
theorem ofValues_rel {F m w} : ∀ {l : List Value} {q : List PV}, ofValues l = some q → l.length = q.length ∧ ∀ i (h1 : i < l.length) (h2 : i < q.length), VRel F w m l[i] q[i]
  | [], q, h => by
    simp only [ofValues, Option.some.injEq] at h
    subst h
    exact ⟨rfl, fun i h1 => absurd h1 (by simp)⟩
  | v :: r, q, h => by
    simp only [ofValues, Option.bind_eq_bind, Option.bind_eq_some_iff, Option.some.injEq] at h
    obtain ⟨p, hp, l, hl, rfl⟩ := h
    obtain ⟨e, ih⟩ := ofValues_rel (F := F) (m := m) (w := w) hl
    refine ⟨by simp [e], fun i h1 h2 => ?_⟩
    cases i with
    | zero => exact ofValue_rel hp
    | succ i => exact ih i (by simpa using h1) (by simpa using h2)
theorem ofZero_rel {F m w v p} (h : ofZero v = some p) : VRel F w m v p := by
  unfold ofZero at h
  split at h
  · rename_i cs
    rw [Option.map_eq_some_iff] at h
    obtain ⟨l, hl, rfl⟩ := h
    obtain ⟨e, ih⟩ := ofValues_rel (F := F) (m := m) (w := w) hl
    exact .agg cs l (by simpa using e) (fun i h1 h2 => by have := ih i (by simpa using h1) h2; rwa [Array.getElem_toList] at this)
  · exact ofValue_rel h
def roOf : Operand → Option RO
  | .tmp t => some (.t t)
  | .const v => (ofValue v).map .c
  | .global g => some (.g g)
  | .func f => some (.c (.fn f []))
def rosOf : List Operand → Option (List RO)
  | [] => some []
  | x :: r => do
    let a ← roOf x
    let l ← rosOf r
    some (a :: l)
def RO.reads : RO → List Nat
  | .t n => [n]
  | _ => []
def ERel (F : Nat → Prop) (m : Nat → Slot) (w : World) (a : Act) (env : Env) (ts : List Nat) : Prop := ∀ t ∈ ts, ∀ p, env t = some p → VRel F w m (a.tmps.getD t undef) p
theorem ERel.mono {F m w F' m' w' a env ts} (h : ERel F m w a env ts) (e : Ev F m w F' m' w') : ERel F' m' w' a env ts := fun t ht p hp => (h t ht p hp).mono e
theorem RO.rel {gl A w0 F m w G a env x r p} (sim : Sim gl A w0 F m w G) (hx : roOf x = some r) (he : ERel F m w a env r.reads) (hp : r.ev gl env = some p) : VRel F w m (a.eval x) p := by
  cases x with
  | tmp t =>
    simp only [roOf, Option.some.injEq] at hx
    subst hx
    exact he t (by simp [RO.reads]) p hp
  | const v =>
    simp only [roOf, Option.map_eq_some_iff] at hx
    obtain ⟨q, hq, rfl⟩ := hx
    simp only [RO.ev, Option.some.injEq] at hp
    subst hp
    exact ofValue_rel hq
  | global g =>
    simp only [roOf, Option.some.injEq] at hx
    subst hx
    exact (sim.glob g p hp).weak m
  | func f =>
    simp only [roOf, Option.some.injEq] at hx
    subst hx
    simp only [RO.ev, Option.some.injEq] at hp
    subst hp
    exact .fn f #[] #[] [] rfl rfl (fun i h1 => absurd h1 (by simp))
def shp (P : Program) (t : TypeId) : Option Shape :=
  match P.underlying t with
  | some (.struct _) | some (.array _ _) => (P.info? t).map fun i => some i.size
  | some _ => some none
  | none => none
def szOf (P : Program) (t : TypeId) : Option Nat := (P.info? t).map (·.size)
def zeroOf (P : Program) (t : TypeId) : Option PV := (P.info? t).bind fun i => i.zero.bind ofZero
theorem run_sizeOf' {P : Program} {t n} (h : szOf P t = some n) (w : World) : (sizeOf t).run P w = .ok n w := by
  unfold szOf at h
  rw [Option.map_eq_some_iff] at h
  obtain ⟨i, hi, rfl⟩ := h
  simp [sizeOf, typeInfo, hi]
theorem run_zeroValue' {P : Program} {t z} (h : zeroOf P t = some z) (w : World) : ∃ v, (zeroValue t).run P w = .ok v w ∧ ofZero v = some z := by
  unfold zeroOf at h
  simp only [Option.bind_eq_some_iff] at h
  obtain ⟨i, hi, v, hv, hz⟩ := h
  exact ⟨v, by simp [zeroValue, typeInfo, hi, hv], hz⟩
theorem run_isAgg {P : Program} {t es} (h : shp P t = some es) (w : World) : (isAgg t).run P w = .ok es.isSome w ∧ ∀ n, es = some n → szOf P t = some n := by
  unfold shp at h
  cases hu : P.underlying t with
  | none => rw [hu] at h; cases h
  | some d =>
    have hr := run_underlying hu w
    rw [hu] at h
    constructor
    · simp only [isAgg, Sem.run_bind, hr, Result.andThen_ok]
      cases d <;> simp_all <;> (obtain ⟨i, _, rfl⟩ := h; rfl)
    · intro n hn
      subst hn
      cases d <;> simp_all [szOf]
theorem run_loadVar' {P : Program} {t es F m w p} {l : List PV} (ad : Addr) (cs : Nat → Value) (hs : shp P t = some es) (hp : subv es l = some p)
    (hc : ∀ j, j < l.length → w.cell? (ad.add j) = some (cs j)) (hr : ∀ j (h : j < l.length), VRel F w m (cs j) l[j]) :
    ∃ v, (loadVar t ad).run P w = .ok v w ∧ VRel F w m v p := by
  obtain ⟨ha, hn⟩ := run_isAgg hs w
  cases es with
  | none =>
    cases l with
    | nil => simp [subv] at hp
    | cons x r =>
      simp only [subv, List.head?_cons, Option.some.injEq] at hp
      subst hp
      refine ⟨cs 0, ?_, hr 0 (by simp)⟩
      have h0 := hc 0 (by simp)
      rw [show ad.add 0 = ad by simp [Addr.add]] at h0
      simp only [loadVar, Sem.run_bind, ha, Result.andThen_ok, Option.isSome_none, Bool.false_eq_true, if_false, run_load, h0]
  | some n =>
    simp only [subv] at hp
    split at hp
    · rename_i hle
      injection hp with hp
      subst hp
      have hL := run_loadCells (P := P) w ad n cs (fun j hj => hc j (by omega))
      refine ⟨.agg ((List.range n).map cs).toArray, ?_, ?_⟩
      · simp only [loadVar, Sem.run_bind, ha, Result.andThen_ok, Option.isSome_some, if_true, run_sizeOf' (hn n rfl) w, hL, Sem.run_pure]
      · refine .agg _ _ (by simp; omega) (fun i h1 h2 => ?_)
        simp at h1 h2
        simpa using hr i (by omega)
    · cases hp
theorem VRel.size {F m w v p} (h : VRel F w m v p) : v.cells.size = p.cells.length ∧ ∀ j (h1 : j < v.cells.size) (h2 : j < p.cells.length), VRel F w m v.cells[j] p.cells[j] := by
  cases h with
  | agg a l hs h => exact ⟨hs, h⟩
  | raw t v =>
    refine ⟨rfl, fun j h1 h2 => ?_⟩
    obtain rfl : j = 0 := by simpa [PV.cells] using h2
    exact .raw t v
  | ifc t v p h =>
    refine ⟨rfl, fun j h1 h2 => ?_⟩
    obtain rfl : j = 0 := by simpa [PV.cells] using h2
    exact .ifc t v p h
  | mp β b h =>
    refine ⟨rfl, fun j h1 h2 => ?_⟩
    obtain rfl : j = 0 := by simpa [PV.cells] using h2
    exact .mp β b h
  | yld β b h =>
    refine ⟨rfl, fun j h1 h2 => ?_⟩
    obtain rfl : j = 0 := by simpa [PV.cells] using h2
    exact .yld β b h
  | _ =>
    refine ⟨rfl, fun j h1 h2 => ?_⟩
    simp only [Value.cells, PV.cells, List.size_toArray, List.length_cons, List.length_nil] at h1 h2 ⊢
    obtain rfl : j = 0 := by omega
    (try simp)
    first | exact .int _ _ | exact .bool _ | exact .str _ | exact .nilp | exact .nilf | exact .nili | exact .nilm | exact .slnil _ _ ‹_› | exact .litnil
          | (apply VRel.tup <;> assumption) | (apply VRel.sl <;> assumption) | (apply VRel.lit <;> assumption) | (apply VRel.ref; assumption) | (apply VRel.ptr; assumption) | (apply VRel.cref; assumption)
          | (apply VRel.fptr <;> assumption) | (apply VRel.fn <;> assumption)
theorem VRel.one {F m w v p} (h : VRel F w m v p) (ho : p.one = true) : v.oneCell' = true := by
  cases h <;> first | rfl | simp [PV.one] at ho
end Go.Vm
namespace Go.Vm
open Go Go.RowKit
theorem heap_push_lt (w : World) (o : Obj) {i : Nat} (h : i < w.heap.size) : (w.alloc o).heap[i]? = w.heap[i]? := Below.heap_alloc w o i h
theorem heap_push_eq (w : World) (o : Obj) : (w.alloc o).heap[w.heap.size]? = some o := by show (w.heap.push o)[w.heap.size]? = some o; simp
theorem rowSize_lt (w : World) (o : Obj) {i : Nat} (h : i < w.heap.size) : rowSize (w.alloc o) i = rowSize w i := by unfold rowSize; rw [heap_push_lt w o h]
theorem size_alloc (w : World) (o : Obj) : (w.alloc o).heap.size = w.heap.size + 1 := by show (w.heap.push o).size = _; simp
theorem BlkOk.mono {F m w F' m' w' β k} (h : BlkOk F m w β k) (e : Ev F m w F' m' w') (hk : w'.heap[β]? = w.heap[β]?) : BlkOk F' m' w' β k := by
  obtain ⟨cs, T, h1, h2, h3, h4⟩ := h
  exact ⟨cs, T, hk.trans h1, h2, h3, fun i hi j hj => by
    obtain ⟨v, hv, hr⟩ := h4 i hi j hj
    exact ⟨v, hv, hr.mono e⟩⟩
def mput (m : Nat → Slot) (b : Nat) (s : Slot) : Nat → Slot := fun c => if c = b then s else m c
theorem mput_eq (m : Nat → Slot) (b : Nat) (s : Slot) : mput m b s b = s := if_pos rfl
theorem mput_ne (m : Nat → Slot) {b c : Nat} (s : Slot) (h : c ≠ b) : mput m b s c = m c := if_neg h
theorem Sim.alloc {gl A w0 F m w G} (sim : Sim gl A w0 F m w G) (cs : Array Value) (T : TypeId) (b0 : Nat) (hu : m b0 = .unborn) (k : Blk) (hk : G.f b0 = some k)
    (h1 : k.xs.length * k.sz ≤ cs.size) (h2 : ∀ x ∈ k.xs, x.cells.length = k.sz)
    (h3 : ∀ i (h : i < k.xs.length) j (h2 : j < (k.xs[i]).cells.length), ∃ v, cs[i * k.sz + j]? = some v ∧ VRel F w m v (k.xs[i]).cells[j]) :
    Sim gl A w0 F (mput m b0 (.live w.heap.size k.sz k.g)) (w.alloc (.cells cs T)) G ∧ Ev F m w F (mput m b0 (.live w.heap.size k.sz k.g)) (w.alloc (.cells cs T)) := by
  have ev : Ev F m w F (mput m b0 (.live w.heap.size k.sz k.g)) (w.alloc (.cells cs T)) := by
    refine ⟨by rw [size_alloc]; omega, fun _ h => h, sim.fnl, fun β hb _ => heap_push_lt _ _ hb, fun β ⟨c, hc⟩ => ?_, fun β hb => rowSize_lt _ _ hb, fun b => ?_, sim.liv, fun _ h => .inl h⟩
    · by_cases e : c = b0
      · subst e
        rw [mput_eq] at hc
        injection hc with hc
        exact .inr (by omega)
      · rw [mput_ne _ _ e] at hc
        exact .inl ⟨c, hc⟩
    by_cases hb : b = b0
    · subst hb; rw [hu]; trivial
    · rw [mput_ne _ _ hb]; exact slot_refl _
  refine ⟨⟨sim.below.alloc sim.below.size _, ?_, ?_, sim.frz, ?_, ?_, fun g p hp => (sim.glob g p hp).monoNo ev⟩, ev⟩
  · intro b β hb
    rw [size_alloc]
    by_cases e : b = b0
    · subst e
      rw [mput_eq] at hb
      injection hb with hb
      subst hb
      exact ⟨sim.below.size, by omega, fun hf => absurd (sim.frzlt _ hf) (by omega)⟩
    · rw [mput_ne _ _ e] at hb
      obtain ⟨a1, a2, a3⟩ := sim.live b β hb
      exact ⟨a1, by omega, a3⟩
  · intro b b' β hb hb'
    by_cases e : b = b0 <;> by_cases e' : b' = b0
    · rw [e, e']
    · subst e
      rw [mput_eq] at hb
      rw [mput_ne _ _ e'] at hb'
      injection hb with hb
      subst hb
      exact absurd (sim.live _ _ hb').2.1 (by omega)
    · subst e'
      rw [mput_eq] at hb'
      rw [mput_ne _ _ e] at hb
      injection hb' with hb'
      subst hb'
      exact absurd (sim.live _ _ hb).2.1 (by omega)
    · rw [mput_ne _ _ e] at hb
      rw [mput_ne _ _ e'] at hb'
      exact sim.inj b b' β hb hb'
  · intro β hb
    rw [size_alloc]
    have := sim.frzlt β hb
    omega
  · intro b k' hk' hnu
    by_cases e : b = b0
    · subst e
      obtain rfl : k = k' := by rw [hk] at hk'; exact Option.some.inj hk'
      refine .inl ⟨w.heap.size, mput_eq _ _ _, cs, T, heap_push_eq _ _, h1, h2, fun i hi j hj => ?_⟩
      obtain ⟨v, hv, hr⟩ := h3 i hi j hj
      exact ⟨v, hv, hr.mono ev⟩
    · rw [mput_ne _ _ e] at hnu ⊢
      rcases sim.blk b k' hk' hnu with ⟨β, hm, hok⟩ | hv
      case inr => exact .inr (hv.mono ev fun β e => heap_push_lt _ _ (sim.live _ _ (at_mp e)).2.1)
      exact .inl ⟨β, hm, hok.mono ev (heap_push_lt _ _ (sim.live _ _ (at_live hm)).2.1)⟩
theorem Sim.allocF {gl A w0 F m w G} (sim : Sim gl A w0 F m w G) (o : Obj) :
    Sim gl A w0 (fun β => F β ∨ β = w.heap.size) m (w.alloc o) G ∧ Ev F m w (fun β => F β ∨ β = w.heap.size) m (w.alloc o) := by
  have ev : Ev F m w (fun β => F β ∨ β = w.heap.size) m (w.alloc o) :=
    ⟨by rw [size_alloc]; omega, fun _ h => .inl h, sim.fnl, fun β hb _ => heap_push_lt _ _ hb, fun _ h => .inl h, fun β hb => rowSize_lt _ _ hb, fun b => slot_refl _, sim.liv, fun β h => h.elim .inl fun e => .inr (.inr (by omega))⟩
  refine ⟨⟨sim.below.alloc sim.below.size _, ?_, sim.inj, ?_, ?_, ?_, fun g p hp => (sim.glob g p hp).monoNo ev⟩, ev⟩
  · intro b β hb
    obtain ⟨a1, a2, a3⟩ := sim.live b β hb
    rw [size_alloc]
    exact ⟨a1, by omega, fun h => h.elim a3 (fun e => by omega)⟩
  · intro β hb
    rcases hb with hb | rfl
    · exact sim.frz β hb
    · exact .inr sim.below.size
  · intro β hb
    rw [size_alloc]
    rcases hb with hb | rfl
    · have := sim.frzlt β hb; omega
    · omega
  · intro b k hk hnu
    rcases sim.blk b k hk hnu with ⟨β, hm, hok⟩ | hv
    case inr => exact .inr (hv.mono ev fun β e => heap_push_lt _ _ (sim.live _ _ (at_mp e)).2.1)
    exact .inl ⟨β, hm, hok.mono ev (heap_push_lt _ _ (sim.live _ _ (at_live hm)).2.1)⟩
end Go.Vm
namespace Go.Vm
open Go Go.RowKit
def placesOf (P : Program) (t : TypeId) : Option (List (Nat × Nat)) :=
  match P.underlying t with
  | some (.struct fields) => fields.toList.mapM (fun f => (P.info? f.type).map fun i => (f.offset, i.size))
  | _ => none
def partsOf (place : Nat → Option (Nat × Nat)) : List (Nat × Operand) → Option (List (Nat × Nat × RO))
  | [] => some []
  | (i, x) :: r => do
    let (off, n) ← place i
    let a ← roOf x
    let l ← partsOf place r
    some ((off, n, a) :: l)
def elemsOf : List (Nat × Operand) → Option (List (Nat × RO))
  | [] => some []
  | (i, x) :: r => do
    let a ← roOf x
    let l ← elemsOf r
    some ((i, a) :: l)
def leavesOf (P : Program) : Nat → TypeId → Option (List (Nat × Nat))
  | 0, _ => none
  | d + 1, t =>
    match P.underlying t with
    | some .bool => some [(0, 0)]
    | some (.int _) => some [(0, 1)]
    | some .string => some [(0, 2)]
    | some (.struct fs) => if P.stoodInHeld t then none else do
      let s ← szOf P t
      let l ← fs.toList.mapM fun f => if f.name = "_" then none else (leavesOf P d f.type).map fun q => q.map fun x => (f.offset + x.1, x.2)
      if l.flatten.all (fun q => decide (q.1 < s)) then some l.flatten else none
    | some (.array n e) => do
      let q ← leavesOf P d e
      let z ← szOf P e
      let s ← szOf P t
      let l := (List.range n).map fun i => q.map fun x => (i * z + x.1, x.2)
      if l.flatten.all (fun q => decide (q.1 < s)) then some l.flatten else none
    | _ => none
def scalarT (P : Program) (t : TypeId) : Bool :=
  match P.underlying t with
  | some (.int _) | some .string => true
  | _ => false
def boolT (P : Program) (t : TypeId) : Bool :=
  match P.underlying t with
  | some .bool => true
  | _ => false
def callOk (P : Program) (f : FuncId) : Bool :=
  match P.funcs[f]? with
  | some fn => fn.body.isSome && fn.name != "runtime.NumGoroutine"
  | none => false
def resolveR0 (P : Program) (own : Bool) (o : Oper) : Option RI :=
  match o.op with
  | .move x | .assign x => (roOf x).map .move
  | .pick c a b => do some (.pick (← roOf c) (← roOf a) (← roOf b))
  | .alloc t => (zeroOf P t).map .alloc
  | .box _ x => (roOf x).map .box
  | .build t parts =>
    match placesOf P t with
    | some pl => do some (.build (← zeroOf P t).cells (← partsOf (pl.toArray[·]?) parts.toList))
    | none =>
      match P.underlying t with
      | some (.array _ e) => do
        let s ← szOf P e
        some (.build (← zeroOf P t).cells (← partsOf (fun i => some (i * s, s)) parts.toList))
      | _ => none
  | .buildSlice t n parts =>
    match P.underlying t with
    | some (.slice e) => do
      let s ← szOf P e
      if s = 0 then none else
      some (.bslice own s n (← zeroOf P e) (← elemsOf parts.toList))
    | _ => none
  | .load t x => if own then do some (.load (← shp P t) (← roOf x)) else do some (.loadF (← shp P t) (← roOf x))
  | .store t x v => do some (.store (← szOf P t) (← roOf x) (← roOf v))
  | .binOp op xt x y _ =>
    if scalarT P xt then do some (.bin op (← roOf x) (← roOf y)) else
    if boolT P xt then do some (.binb op (← roOf x) (← roOf y)) else
    match op with
    | .eql => do if P.eqGuardType P.depth xt then none else some (.eqs false (← leavesOf P 20 xt) (← roOf x) (← roOf y))
    | .neq => do if P.eqGuardType P.depth xt then none else some (.eqs true (← leavesOf P 20 xt) (← roOf x) (← roOf y))
    | _ => none
  | .unOp op _ x => (roOf x).map (.un op)
  | .convert s d x =>
    match P.underlying s, P.underlying d with
    | some (.int _), some (.int k) => (roOf x).map (.conv k)
    | _, _ => none
  | .fieldAddr s x f =>
    match P.underlying s with
    | some (.struct fs) => do
      let f ← fs[f]?
      if szOf P f.type = some 0 ∨ szOf P f.type = none then none else some (.fieldAddr f.offset (← roOf x))
    | _ => none
  | .field s x f =>
    match P.underlying s with
    | some (.struct fs) => do
      let f ← fs[f]?
      some (.field f.offset (← shp P f.type) (← roOf x))
    | _ => none
  | .indexAddr t x i =>
    match P.underlying t with
    | some (.slice e) => do some (.idxAddr (← szOf P e) (← roOf x) (← roOf i))
    | some (.array n e) => do some (.idxAddrA n (← szOf P e) (← roOf x) (← roOf i))
    | _ => none
  | .index t x i =>
    match P.underlying t with
    | some (.array n e) => do some (.idx n (← szOf P e) (← shp P e) (← roOf x) (← roOf i))
    | _ => none
  | .extract x i => (roOf x).map (.extract i)
  | .makeSlice t l c =>
    match P.underlying t with
    | some (.slice e) =>
      match roOf l, roOf c with
      | some (.t a), some (.t b) => if a = b ∧ (P.info? e).any (fun i => decide (i.bytes ≤ 1048576)) then do some (.mkslice (← szOf P e) (← zeroOf P e) (.t a)) else none
      | some (.c (.int .i64 a)), some (.c (.int .i64 b)) => if a = b ∧ (P.info? e).any (fun i => decide (i.bytes ≤ 1048576)) then do some (.mkslice (← szOf P e) (← zeroOf P e) (.c (.int .i64 a))) else none
      | _, _ => none
    | _ => none
  | .makeFunc fn first cap =>
    match fn with
    | .func f => if first.isEmpty then do some (.mkfunc f (← rosOf cap.toList)) else none
    | _ => none
  | .call c =>
    match c.callee with
    | .value x =>
      match x with
      | .func f => if callOk P f then (if own then do some (.call f (← rosOf c.args.toList)) else do some (.callP f (← rosOf c.args.toList))) else none
      | .tmp t => do some (.callv (.t t) (← rosOf c.args.toList))
      | _ => none
    | .builtin .len =>
      match c.args.toList, c.argTypes.toList with
      | [x], [t] => match P.underlying t with
        | some .string => (roOf x).map (.len true)
        | some (.slice _) => (roOf x).map (.len false)
        | _ => none
      | _, _ => none
    | .builtin .max => match c.args.toList with
      | x :: r => do some (.mm true (← roOf x) (← rosOf r))
      | _ => none
    | .builtin .min => match c.args.toList with
      | x :: r => do some (.mm false (← roOf x) (← rosOf r))
      | _ => none
    | .builtin .append =>
      match c.args.toList, c.argTypes.toList with
      | [s, x], [t, u] => if t ≠ u then none else match P.underlying t with
        | some (.slice e) => do
          let z ← szOf P e
          let q ← zeroOf P e
          if z = 0 ∨ q.cells.length ≠ z ∨ !(P.info? e).any (fun i => decide (i.bytes ≤ 1048576)) then none else
          let r1 ← roOf s
          let r2 ← roOf x
          some (if own then .append z q r1 r2 else .appendF z q r1 r2)
        | _ => none
      | _, _ => none
    | .builtin .copy =>
      match c.args.toList, c.argTypes.toList with
      | [d, s], [t, _] => match P.underlying t with
        | some (.slice e) => do some (.copy (← szOf P e) (← roOf d) (← roOf s))
        | _ => none
      | _, _ => none
    | _ => none
  | _ => none
def isI64 (P : Program) (t : TypeId) : Bool := match P.underlying t with | some (.int .i64) => true | _ => false
def isBoolZ (P : Program) (t : TypeId) : Bool := match zeroOf P t with | some (.bool false) => true | _ => false
theorem isI64_spec {P : Program} {t : TypeId} (h : isI64 P t = true) : P.underlying t = some (.int .i64) := by
  unfold isI64 at h
  split at h
  · assumption
  · cases h
theorem isBoolZ_spec {P : Program} {t : TypeId} (h : isBoolZ P t = true) : zeroOf P t = some (.bool false) := by
  unfold isBoolZ at h
  split at h
  · assumption
  · cases h
theorem any_some {α : Type} {o : Option α} {q : α → Bool} (h : o.any q = true) : ∃ j, o = some j ∧ q j = true := by
  cases o with
  | none => cases h
  | some j => exact ⟨j, rfl, h⟩
def isU8 (P : Program) (t : TypeId) : Bool := match P.underlying t with | some (.int .u8) => true | _ => false
theorem isU8_spec {P : Program} {t : TypeId} (h : isU8 P t = true) : P.underlying t = some (.int .u8) := by
  unfold isU8 at h
  split at h
  · assumption
  · cases h
def resolveX (P : Program) (o : Oper) : Option RI :=
  match o.op with
  | .slice t x lo hi mx =>
    match P.underlying t with
    | some .string => if mx.isSome then none else (rosOf (x :: (lo.toList ++ (hi.toList ++ mx.toList)))).map (.prim (.sliceStr lo.isSome hi.isSome))
    | some (.slice e) => do some (.prim (.sliceSl (← szOf P e) lo.isSome hi.isSome mx.isSome) (← rosOf (x :: (lo.toList ++ (hi.toList ++ mx.toList)))))
    | some (.array n e) => if szOf P e = some 1 ∧ n ≤ 1048576 then (rosOf (x :: (lo.toList ++ (hi.toList ++ mx.toList)))).map (.prim (.sliceArr n lo.isSome hi.isSome mx.isSome)) else none
    | _ => none
  | .index t x i =>
    match P.underlying t with
    | some .string => (rosOf [x, i]).map (.prim .sidx)
    | _ => none
  | .nilCheck x => (rosOf [x]).map (.prim .nilCheck)
  | .convert s d x =>
    match P.underlying s, P.underlying d with
    | some (.slice e), some .string => if isU8 P e then (rosOf [x]).map (.prim .tostr) else none
    | _, _ => none
  | .binOp .eql t x y _ =>
    match P.underlying t with
    | some (.pointer e) => if (P.info? e).any (fun i => i.size != 0) then (rosOf [x, y]).map (.prim (.ptreq false)) else none
    | _ => none
  | .binOp .neq t x y _ =>
    match P.underlying t with
    | some (.pointer e) => if (P.info? e).any (fun i => i.size != 0) then (rosOf [x, y]).map (.prim (.ptreq true)) else none
    | _ => none
  | .makeInterface t x =>
    match P.underlying t with
    | some (.interface _) => none
    | some _ => (rosOf [x]).map (.prim (.mkif t))
    | none => none
  | .lookup t x y false =>
    match P.underlying t with
    | some (.map K E) => if isI64 P K && isBoolZ P E then (rosOf [x, y]).map (.prim .mapget) else none
    | _ => none
  | .makeMap _ none => some (.eprim .mkmap [])
  | .mapUpdate t x y z =>
    match P.underlying t with
    | some (.map K _) => if isI64 P K then (rosOf [x, y, z]).map (.eprim .mapset) else none
    | _ => none
  | .unOp .xor _ x => (rosOf [x]).map (.prim .compl)
  | .call c =>
    match c.callee with
    | .builtin .clear =>
      match c.args.toList, c.argTypes.toList with
      | [x], [t] => match P.underlying t with
        | some (.slice e) => do some (.eprim (.clear (← szOf P e) (← zeroOf P e)) (← rosOf [x]))
        | _ => none
      | _, _ => none
    | _ => none
  | _ => none
def resolveRI (P : Program) (own : Bool) (o : Oper) : Option RI :=
  match resolveX P o with
  | some r => some r
  | none => some ((resolveR0 P own o).getD .nope)
def readsL : List RO → List Nat
  | [] => []
  | x :: r => x.reads ++ readsL r
def RI.reads : RI → List Nat
  | .nope => []
  | .prim _ l | .eprim _ l => readsL l
  | .move x | .box x | .load _ x | .loadF _ x | .un _ x | .conv _ x | .fieldAddr _ x | .field _ _ x | .extract _ x | .len _ x | .mkslice _ _ x => x.reads
  | .alloc _ => []
  | .pick c a b => c.reads ++ (a.reads ++ b.reads)
  | .build _ ps => readsL (ps.map (·.2.2))
  | .bslice _ _ _ _ ps => readsL (ps.map (·.2))
  | .store _ x y | .bin _ x y | .binb _ x y | .eqs _ _ x y | .idxAddr _ x y | .idxAddrA _ _ x y | .idx _ _ _ x y | .append _ _ x y | .appendF _ _ x y | .copy _ x y => x.reads ++ y.reads
  | .mm _ x l => x.reads ++ readsL l
  | .mkfunc _ l | .call _ l | .callP _ l => readsL l
  | .callv x l => x.reads ++ readsL l
def NOk (P : Program) (gl : Nat → Option PV) (A : Nat → Prop) (w0 : World) (F : Nat → Prop) (m : Nat → Slot) (w : World) (G : Hp) (n : Nat) (a : Act) (o : Oper) (p : PV) (ext : Nat) : Prop :=
  ∃ v w' F' m', (execOp a.eval o).run P w = .ok (.value v) w' ∧ Sim gl A w0 F' m' w' G ∧ Ev F m w F' m' w' ∧ VRel F' w' m' v p ∧ ∀ b, (∀ k, k < ext → b ≠ n + k) → m' b = m b
theorem NOk.same {P gl A w0 F m w G n a o p ext} {v : Value} (sim : Sim gl A w0 F m w G) (hr : (execOp a.eval o).run P w = .ok (.value v) w) (h : VRel F w m v p) : NOk P gl A w0 F m w G n a o p ext :=
  ⟨v, w, F, m, hr, sim, Ev.refl sim.fnl sim.liv, h, fun _ _ => rfl⟩
section
variable {P : Program} {gl : Nat → Option PV} {A : Nat → Prop} {w0 : World} {F : Nat → Prop} {m : Nat → Slot} {w : World} {G H : Hp} {a : Act} {env : Env} {o : Oper} {p : PV} {own : Bool}
theorem ERel.app {l1 l2 : List Nat} (h : ERel F m w a env (l1 ++ l2)) : ERel F m w a env l1 ∧ ERel F m w a env l2 :=
  ⟨fun t ht => h t (by simp [ht]), fun t ht => h t (by simp [ht])⟩
theorem ok_move (sim : Sim gl A w0 F m w G) {x : Operand} {r : RO} (ho : o.op = .move x ∨ o.op = .assign x) (hx : roOf x = some r) (he : ERel F m w a env r.reads) (hp : r.ev gl env = some p) (n ext : Nat) :
    NOk P gl A w0 F m w G n a o p ext :=
  .same sim (v := a.eval x) (by rcases ho with ho | ho <;> simp [execOp, ho]) (RO.rel sim hx he hp)
theorem ok_pick (sim : Sim gl A w0 F m w G) {c x y : Operand} {rc rx ry : RO} (ho : o.op = .pick c x y) (hc : roOf c = some rc) (hx : roOf x = some rx) (hy : roOf y = some ry)
    (he : ERel F m w a env (rc.reads ++ (rx.reads ++ ry.reads))) {t : Bool} (hcp : rc.ev gl env = some (.bool t)) (hp : (if t then rx else ry).ev gl env = some p) (n ext : Nat) :
    NOk P gl A w0 F m w G n a o p ext := by
  obtain ⟨e1, e2⟩ := he.app
  obtain ⟨e2, e3⟩ := e2.app
  have h1 := RO.rel sim hc e1 hcp
  generalize hv : a.eval c = vc at h1
  cases h1
  cases t with
  | true => exact .same sim (v := a.eval x) (by simp [execOp, ho, hv, asBool]) (RO.rel sim hx e2 hp)
  | false => exact .same sim (v := a.eval y) (by simp [execOp, ho, hv, asBool]) (RO.rel sim hy e3 hp)
theorem toList_getElem? {a : Array Value} {i : Nat} (h : i < a.size) : a[i]? = some a[i] := Array.getElem?_eq_getElem h
theorem ok_new (sim : Sim gl A w0 F m w G) {v : Value} {q : PV} (hv : VRel F w m v q) (T : TypeId) (hX : G.f H.n = some ⟨0, q.cells.length, [q]⟩) (hU : m H.n = .unborn)
    (hr : (execOp a.eval o).run P w = .ok (.value (.pointer (some ⟨w.heap.size, 0, none⟩))) (w.alloc (.cells v.cells T))) : NOk P gl A w0 F m w G H.n a o (.ptr H.n 0 0 0) 1 := by
  obtain ⟨hs, hc⟩ := hv.size
  obtain ⟨s, e⟩ := sim.alloc v.cells T H.n hU ⟨0, q.cells.length, [q]⟩ hX (by simp [hs]) (by simp) (fun i hi j hj => by
    simp at hi
    subst hi
    simp only [List.getElem_cons_zero] at hj ⊢
    refine ⟨v.cells[j]'(by omega), ?_, hc j (by omega) hj⟩
    simp only [Nat.zero_mul, Nat.zero_add]
    exact toList_getElem? (by omega))
  refine ⟨_, _, F, _, hr, s, e, .ptr _ _ _ _ _ ?_, fun b hb => mput_ne _ _ (by simpa using hb 0 (by omega))⟩
  rw [mput_eq]
  exact ⟨Nat.le_refl _, fun _ => by simp⟩
theorem ok_alloc (sim : Sim gl A w0 F m w G) {t : TypeId} {z : PV} (ho : o.op = .alloc t) (hz : zeroOf P t = some z) (hX : G.f H.n = some ⟨0, z.cells.length, [z]⟩) (hU : m H.n = .unborn) :
    NOk P gl A w0 F m w G H.n a o (.ptr H.n 0 0 0) 1 := by
  obtain ⟨v, hr, hv⟩ := run_zeroValue' hz w
  refine ok_new sim (ofZero_rel hv) t hX hU ?_
  simp only [execOp, ho, Instr.alloc, Sem.run_bind, hr, Result.andThen_ok, newVar, newRow, run_newObj, Sem.run_pure]
  rfl
theorem ok_box (sim : Sim gl A w0 F m w G) {t : TypeId} {x : Operand} {r : RO} {q : PV} (ho : o.op = .box t x) (hx : roOf x = some r) (he : ERel F m w a env r.reads) (hp : r.ev gl env = some q)
    (hX : G.f H.n = some ⟨0, q.cells.length, [q]⟩) (hU : m H.n = .unborn) : NOk P gl A w0 F m w G H.n a o (.ptr H.n 0 0 0) 1 := by
  refine ok_new sim (RO.rel sim hx he hp) t hX hU ?_
  simp only [execOp, ho, Instr.box, Sem.run_bind, Result.andThen_ok, newVar, newRow, run_newObj, Sem.run_pure]
  rfl
theorem Addr.add_add (a : Addr) (i j : Nat) : (a.add i).add j = a.add (i + j) := by
  unfold Addr.add
  by_cases h1 : i = 0 <;> by_cases h2 : j = 0 <;> simp [h1, h2, Nat.add_assoc]
theorem add_plain' (g i j : Nat) : (⟨g, i, none⟩ : Addr).add j = ⟨g, i + j, none⟩ := by unfold Addr.add; split <;> simp_all
theorem cell_row {w : World} {β : Nat} {cs : Array Value} {T : TypeId} {fr : Nat × Nat} (h : w.heap[β]? = some (.cells cs T fr)) (i : Nat) : w.cell? ⟨β, i, none⟩ = cs[i]? := by
  simp [World.cell?, h]
theorem Hp.blk_some {H : Hp} {b g : Nat} {k : Blk} (h : H.blk b g = some k) : H.f b = some k ∧ k.g = g := by
  unfold Hp.blk at h
  simp only [Option.bind_eq_bind, Option.bind_eq_some_iff] at h
  obtain ⟨k', h1, h2⟩ := h
  split at h2
  · rename_i e; injection h2 with h2; subst h2; exact ⟨h1, e⟩
  · cases h2
theorem ptr_at (sim : Sim gl A w0 F m w G) {v : Value} {b g i off : Nat} {k : Blk} (hv : VRel F w m v (.ptr b g i off)) (hb : G.f b = some k) (hg : k.g = g) :
    ∃ β, m b = .live β k.sz k.g ∧ BlkOk F m w β k ∧ v = .pointer (some ⟨β, i * k.sz + off, none⟩) := by
  cases hv with
  | ptr ad _ _ _ _ h =>
    have hnu : m b ≠ .unborn := fun e => by rw [e] at h; exact h
    rcases sim.blk2 b k hb hnu (fun _ e => by rw [e] at h; exact h) with ⟨β, hm, hok⟩ | ⟨hv, _⟩
    case inr => rw [hv] at h; exact h.elim
    rw [hm] at h
    exact ⟨β, hm, hok, by rw [h.2 hg.symm]⟩
theorem ok_load (sim : Sim gl A w0 F m w G) (hG : ∀ b k, H.f b = some k → G.f b = some k) {t : TypeId} {x : Operand} {r : RO} {es : Shape} (ho : o.op = .load t x) (hx : roOf x = some r) (ht : shp P t = some es)
    (he : ERel F m w a env r.reads) (n ext : Nat) (hp : stepN (RO.ev gl env) H (.load es r) = some (p, [])) : NOk P gl A w0 F m w G n a o p ext := by
  simp only [stepN, Option.bind_eq_bind, Option.bind_eq_some_iff] at hp
  obtain ⟨q, hq, hp⟩ := hp
  have hv := RO.rel sim hx he hq
  split at hp
  · rename_i b g i off
    simp only [Option.bind_eq_some_iff, Option.pure_def, Option.some.injEq, Prod.mk.injEq] at hp
    obtain ⟨k, hk, e, hxs, p', hsub, rfl, _⟩ := hp
    obtain ⟨hf, hg⟩ := Hp.blk_some hk
    obtain ⟨β, hm, ⟨cs, T, h1, h2, h3, h4⟩, hev⟩ := ptr_at sim hv (hG _ _ hf) hg
    obtain ⟨hi, rfl⟩ := List.getElem?_eq_some_iff.1 hxs
    obtain ⟨v, hr, hrel⟩ := run_loadVar' (P := P) (F := F) (m := m) (w := w) (l := (k.xs[i]).cells.drop off) (⟨β, i * k.sz + off, none⟩ : Addr) (fun j => cs.getD (i * k.sz + off + j) undef) ht hsub
      (fun j hj => by
        simp at hj
        obtain ⟨v, hv, _⟩ := h4 i hi (off + j) (by omega)
        rw [add_plain', cell_row h1, Nat.add_assoc, hv, Array.getD_eq_getD_getElem?, hv]
        rfl)
      (fun j hj => by
        simp at hj
        obtain ⟨v, hv, hr⟩ := h4 i hi (off + j) (by omega)
        rw [Nat.add_assoc, Array.getD_eq_getD_getElem?, hv]
        simpa using hr)
    exact .same sim (v := v) (by simp only [execOp, ho, hev, Instr.loadAt, Instr.sureAddr, Sem.run_bind, Sem.run_pure, Result.andThen_ok, hr]) hrel
  · rename_i l
    simp only [Option.bind_eq_some_iff, Option.pure_def, Option.some.injEq, Prod.mk.injEq] at hp
    obtain ⟨p', hsub, rfl, _⟩ := hp
    generalize hev : a.eval x = va at hv
    cases hv with
    | fptr ad _ cs hF hcell h =>
      obtain ⟨v, hr, hrel⟩ := run_loadVar' (P := P) (F := F) (m := m) (w := w) ad cs ht hsub hcell h
      exact .same sim (v := v) (by simp only [execOp, ho, hev, Instr.loadAt, Instr.sureAddr, Sem.run_bind, Sem.run_pure, Result.andThen_ok, hr]) hrel
  · cases hp
theorem ok_loadF (sim : Sim gl A w0 F m w G) {t : TypeId} {x : Operand} {r : RO} {es : Shape} (ho : o.op = .load t x) (hx : roOf x = some r) (ht : shp P t = some es)
    (he : ERel F m w a env r.reads) (n ext : Nat) (hp : stepN (RO.ev gl env) H (.loadF es r) = some (p, [])) : NOk P gl A w0 F m w G n a o p ext := by
  simp only [stepN, Option.bind_eq_bind, Option.bind_eq_some_iff] at hp
  obtain ⟨q, hq, hp⟩ := hp
  have hv := RO.rel sim hx he hq
  split at hp
  · rename_i l
    simp only [Option.bind_eq_some_iff, Option.pure_def, Option.some.injEq, Prod.mk.injEq] at hp
    obtain ⟨p', hsub, rfl, _⟩ := hp
    generalize hev : a.eval x = va at hv
    cases hv with
    | fptr ad _ cs hF hcell h =>
      obtain ⟨v, hr, hrel⟩ := run_loadVar' (P := P) (F := F) (m := m) (w := w) ad cs ht hsub hcell h
      exact .same sim (v := v) (by simp only [execOp, ho, hev, Instr.loadAt, Instr.sureAddr, Sem.run_bind, Sem.run_pure, Result.andThen_ok, hr]) hrel
  · cases hp
end
end Go.Vm
namespace Go.Vm
open Go Go.RowKit
section
variable {P : Program} {gl : Nat → Option PV} {A : Nat → Prop} {w0 : World} {F : Nat → Prop} {m : Nat → Slot} {w : World} {G H : Hp} {a : Act} {env : Env} {o : Oper} {p : PV} {own : Bool}
theorem ok_fieldAddr (sim : Sim gl A w0 F m w G) {s : TypeId} {x : Operand} {i : Nat} {r : RO} {fs : Array Field} {f : Field} (ho : o.op = .fieldAddr s x i) (hu : P.underlying s = some (.struct fs)) (hf : fs[i]? = some f)
    (hz : ¬ (szOf P f.type = some 0 ∨ szOf P f.type = none)) (hx : roOf x = some r) (he : ERel F m w a env r.reads) (n ext : Nat) (hp : stepN (RO.ev gl env) H (.fieldAddr f.offset r) = some (p, [])) : NOk P gl A w0 F m w G n a o p ext := by
  simp only [stepN, Option.bind_eq_bind, Option.bind_eq_some_iff] at hp
  obtain ⟨q, hq, hp⟩ := hp
  have hv := RO.rel sim hx he hq
  obtain ⟨z, hsz⟩ : ∃ z, szOf P f.type = some z := by
    cases h : szOf P f.type with
    | none => exact absurd (.inr h) hz
    | some z => exact ⟨z, rfl⟩
  have hz0 : z ≠ 0 := fun e => hz (.inl (by rw [hsz, e]))
  have hrun : ∀ ad : Addr, (Instr.fieldAt s (.pointer (some ad)) i).run P w = .ok (.pointer (some (ad.add f.offset))) w := by
    intro ad
    simp only [Instr.fieldAt, Sem.run_bind, run_underlying hu w, Result.andThen_ok, hf, Instr.sureAddr, Sem.run_pure, fieldPlace, run_sizeOf' hsz w, if_neg hz0]
  split at hp
  · rename_i b g j off
    simp only [Option.some.injEq, Prod.mk.injEq] at hp
    obtain ⟨rfl, _⟩ := hp
    generalize hev : a.eval x = va at hv
    cases hv with
    | ptr ad _ _ _ _ h =>
      refine .same sim (v := .pointer (some (ad.add f.offset))) (by simp only [execOp, ho, hev, Sem.run_bind, hrun, Result.andThen_ok, Sem.run_pure]) (.ptr _ _ _ _ _ ?_)
      cases hm : m b with
      | unborn => rw [hm] at h; exact h
      | dead => trivial
      | virt _ => rw [hm] at h; exact h
      | mp _ => rw [hm] at h; exact h
      | live β sz g' =>
        rw [hm] at h
        refine ⟨h.1, fun e => ?_⟩
        rw [h.2 e, add_plain', Nat.add_assoc]
  · rename_i l
    simp only [Option.some.injEq, Prod.mk.injEq] at hp
    obtain ⟨rfl, _⟩ := hp
    generalize hev : a.eval x = va at hv
    cases hv with
    | fptr ad _ cs hF hcell h =>
      refine .same sim (v := .pointer (some (ad.add f.offset))) (by simp only [execOp, ho, hev, Sem.run_bind, hrun, Result.andThen_ok, Sem.run_pure]) (.fptr _ _ (fun j => cs (f.offset + j)) (by rw [add_block]; exact hF) (fun j hj => ?_) (fun j hj => ?_))
      · simp at hj
        rw [Addr.add_add]
        exact hcell _ (by omega)
      · simp at hj
        simpa using h (f.offset + j) (by omega)
  · cases hp
theorem run_part' {t : TypeId} {es : Shape} {cs : Array Value} {l : List PV} {off : Nat} (ht : shp P t = some es) (hs : cs.size = l.length) (h : ∀ j (h1 : j < cs.size) (h2 : j < l.length), VRel F w m cs[j] l[j])
    (hp : subv es (l.drop off) = some p) : ∃ v, (part t cs off).run P w = .ok v w ∧ VRel F w m v p := by
  obtain ⟨ha, hn⟩ := run_isAgg ht w
  cases es with
  | none =>
    simp only [subv, List.head?_drop] at hp
    obtain ⟨hlt, rfl⟩ := List.getElem?_eq_some_iff.1 hp
    refine ⟨cs[off]'(by omega), ?_, h off (by omega) hlt⟩
    have : cs[off]? = some (cs[off]'(by omega)) := Array.getElem?_eq_getElem (by omega)
    simp only [part, Sem.run_bind, ha, Result.andThen_ok, Option.isSome_none, Bool.false_eq_true, if_false, this, Sem.run_pure]
  | some n =>
    simp only [subv] at hp
    split at hp
    · rename_i hle
      injection hp with hp
      subst hp
      refine ⟨.agg (cs.extract off (off + n)), ?_, .agg _ _ ?_ (fun i h1 h2 => ?_)⟩
      · simp only [part, Sem.run_bind, ha, Result.andThen_ok, Option.isSome_some, if_true, run_sizeOf' (hn n rfl) w, Sem.run_pure]
      · simp at hle ⊢
        omega
      · simp at h1 h2 hle
        simpa using h (off + i) (by omega) (by omega)
    · cases hp
theorem ok_field (sim : Sim gl A w0 F m w G) {s : TypeId} {x : Operand} {i : Nat} {r : RO} {fs : Array Field} {f : Field} {es : Shape} (ho : o.op = .field s x i) (hu : P.underlying s = some (.struct fs)) (hf : fs[i]? = some f)
    (hes : shp P f.type = some es) (hx : roOf x = some r) (he : ERel F m w a env r.reads) (n ext : Nat) (hp : stepN (RO.ev gl env) H (.field f.offset es r) = some (p, [])) : NOk P gl A w0 F m w G n a o p ext := by
  simp only [stepN, Option.bind_eq_bind, Option.bind_eq_some_iff] at hp
  obtain ⟨q, hq, hp⟩ := hp
  have hv := RO.rel sim hx he hq
  split at hp
  · rename_i l
    simp only [Option.bind_eq_some_iff, Option.pure_def, Option.some.injEq, Prod.mk.injEq] at hp
    obtain ⟨p', hsub, rfl, _⟩ := hp
    generalize hev : a.eval x = va at hv
    cases hv with
    | agg cs _ hs h =>
      obtain ⟨v, hr, hrel⟩ := run_part' (F := F) (m := m) (w := w) hes hs h hsub
      exact .same sim (v := v) (by simp only [execOp, ho, hev, Instr.field, Sem.run_bind, run_underlying hu w, Result.andThen_ok, hf, asAgg, Sem.run_pure, hr]) hrel
  · cases hp
theorem ok_idx (sim : Sim gl A w0 F m w G) {t e : TypeId} {x i : Operand} {N sz : Nat} {r ri : RO} {es : Shape} (ho : o.op = .index t x i) (hu : P.underlying t = some (.array N e)) (hsz : szOf P e = some sz)
    (hes : shp P e = some es) (hx : roOf x = some r) (hi : roOf i = some ri) (he : ERel F m w a env (r.reads ++ ri.reads)) (n ext : Nat) (hp : stepN (RO.ev gl env) H (.idx N sz es r ri) = some (p, [])) : NOk P gl A w0 F m w G n a o p ext := by
  simp only [stepN, Option.bind_eq_bind, Option.bind_eq_some_iff] at hp
  obtain ⟨q, hq, q2, hq2, hp⟩ := hp
  obtain ⟨e1, e2⟩ := he.app
  have hv := RO.rel sim hx e1 hq
  have hv2 := RO.rel sim hi e2 hq2
  split at hp
  · rename_i l k c
    split at hp
    · rename_i hb
      simp only [Option.bind_eq_some_iff, Option.pure_def, Option.some.injEq, Prod.mk.injEq] at hp
      obtain ⟨p', hsub, rfl, _⟩ := hp
      generalize hev : a.eval x = va at hv
      generalize hev2 : a.eval i = vi at hv2
      cases hv2
      cases hv with
      | agg cs _ hs h =>
        obtain ⟨v, hr, hrel⟩ := run_part' (F := F) (m := m) (w := w) hes hs h hsub
        exact .same sim (v := v) (by simp only [execOp, ho, hev, hev2, Instr.index, asIntOf, Sem.run_bind, Sem.run_pure, run_underlying hu w, Result.andThen_ok, Sem.run_ite, if_pos hb, run_sizeOf' hsz w, hr]) hrel
    · cases hp
  · cases hp
theorem ok_extract (sim : Sim gl A w0 F m w G) {x : Operand} {i : Nat} {r : RO} (ho : o.op = .extract x i) (hx : roOf x = some r) (he : ERel F m w a env r.reads) (n ext : Nat)
    (hp : stepN (RO.ev gl env) H (.extract i r) = some (p, [])) : NOk P gl A w0 F m w G n a o p ext := by
  simp only [stepN, Option.bind_eq_bind, Option.bind_eq_some_iff] at hp
  obtain ⟨q, hq, hp⟩ := hp
  have hv := RO.rel sim hx he hq
  split at hp
  · rename_i l
    simp only [Option.bind_eq_some_iff, Option.pure_def, Option.some.injEq, Prod.mk.injEq] at hp
    obtain ⟨p', hl, rfl, _⟩ := hp
    obtain ⟨hlt, rfl⟩ := List.getElem?_eq_some_iff.1 hl
    generalize hev : a.eval x = va at hv
    cases hv with
    | tup cs _ hs h =>
      have hc : cs[i]? = some (cs[i]'(by omega)) := Array.getElem?_eq_getElem (by omega)
      exact .same sim (v := cs[i]'(by omega)) (by simp only [execOp, ho, hev, Instr.extract, Sem.run_bind, hc, Sem.run_pure, Result.andThen_ok]) (h i (by omega) hlt)
  · cases hp
theorem ok_conv (sim : Sim gl A w0 F m w G) {s d : TypeId} {k k' : IntKind} {x : Operand} {r : RO} (ho : o.op = .convert s d x) (hs : P.underlying s = some (.int k')) (hd : P.underlying d = some (.int k)) (hx : roOf x = some r)
    (he : ERel F m w a env r.reads) (n ext : Nat) (hp : stepN (RO.ev gl env) H (.conv k r) = some (p, [])) : NOk P gl A w0 F m w G n a o p ext := by
  simp only [stepN, Option.bind_eq_bind, Option.bind_eq_some_iff] at hp
  obtain ⟨q, hq, hp⟩ := hp
  have hv := RO.rel sim hx he hq
  split at hp
  · rename_i kk c
    simp only [Option.some.injEq, Prod.mk.injEq] at hp
    obtain ⟨rfl, _⟩ := hp
    generalize hev : a.eval x = va at hv
    cases hv
    exact .same sim (v := .int k (k.wrap c)) (by simp only [execOp, ho, hev, convert, Sem.run_bind, run_underlying hs w, run_underlying hd w, Result.andThen_ok, Conv.intToInt, Sem.run_pure]) (.int _ _)
  · cases hp
theorem ok_un (sim : Sim gl A w0 F m w G) {op : UnOp} {t : TypeId} {x : Operand} {r : RO} (ho : o.op = .unOp op t x) (hx : roOf x = some r)
    (he : ERel F m w a env r.reads) (n ext : Nat) (hp : stepN (RO.ev gl env) H (.un op r) = some (p, [])) : NOk P gl A w0 F m w G n a o p ext := by
  simp only [stepN, Option.bind_eq_bind, Option.bind_eq_some_iff, Option.pure_def, Option.some.injEq, Prod.mk.injEq] at hp
  obtain ⟨q, hq, p', hu, rfl, _⟩ := hp
  have hv := RO.rel sim hx he hq
  generalize hev : a.eval x = va at hv
  unfold unP at hu
  split at hu
  · injection hu with hu
    subst hu
    cases hv
    exact .same sim (by simp only [execOp, ho, hev, Op.unary, Op.intArith, Sem.run_bind, Sem.run_pure, Result.andThen_ok]) (.int _ _)
  · injection hu with hu
    subst hu
    cases hv
    exact .same sim (by simp only [execOp, ho, hev, Op.unary, Sem.run_bind, Sem.run_pure, Result.andThen_ok]) (.bool _)
  · cases hu
theorem ok_len (sim : Sim gl A w0 F m w G) {t : TypeId} {x : Operand} {r : RO} {c : Call} {str : Bool} (ho : o.op = .call c) (hc : c.callee = .builtin .len) (hargs : c.args.toList = [x]) (ht : c.argTypes.toList = [t])
    (hu : if str then P.underlying t = some .string else ∃ e, P.underlying t = some (.slice e)) (hx : roOf x = some r)
    (he : ERel F m w a env r.reads) (n ext : Nat) (hp : stepN (RO.ev gl env) H (.len str r) = some (p, [])) : NOk P gl A w0 F m w G n a o p ext := by
  simp only [stepN, Option.bind_eq_bind, Option.bind_eq_some_iff, Option.pure_def, Option.some.injEq, Prod.mk.injEq] at hp
  obtain ⟨q, hq, N, hN, rfl, _⟩ := hp
  have hv := RO.rel sim hx he hq
  generalize hev : a.eval x = va at hv
  have ha : c.args.map a.eval = #[va] := by
    apply Array.toList_inj.1
    simp [hargs, hev]
  have htt : c.argTypes = #[t] := Array.toList_inj.1 (by simp [ht])
  have hrun : (execOp a.eval o).run P w = ((Builtin.len_ #[t] o.type #[va]).run P w).andThen fun v w' => .ok (.value v) w' := by
    simp only [execOp, ho, resolve, hc, Sem.run_bind, Sem.run_pure, Result.andThen_ok, invoke, builtin, ha, htt]
  refine .same sim (v := .int .i64 N) ?_ (.int _ _)
  rw [hrun]
  cases str with
  | true =>
    simp only [if_true] at hu
    simp only [lenOf, if_true] at hN
    split at hN
    · injection hN with hN
      subst hN
      cases hv
      simp [Builtin.len_, run_underlying hu]; rfl
    · cases hN
  | false =>
    simp only [Bool.false_eq_true, if_false] at hu
    obtain ⟨e, hu⟩ := hu
    simp only [lenOf, Bool.false_eq_true, if_false] at hN
    unfold PV.lenP at hN
    split at hN <;> first | (cases hN; done) | (injection hN with hN; subst hN; cases hv <;> (simp [Builtin.len_, run_underlying hu]; try rfl))
theorem evs_rel (sim : Sim gl A w0 F m w G) : ∀ {l : List Operand} {rs : List RO} {q : List PV}, rosOf l = some rs → ERel F m w a env (readsL rs) → evs (RO.ev gl env) rs = some q →
    l.length = q.length ∧ ∀ i (h1 : i < l.length) (h2 : i < q.length), VRel F w m (a.eval l[i]) q[i]
  | [], rs, q, h, _, hq => by
    simp [rosOf] at h
    subst h
    simp [evs] at hq
    subst hq
    exact ⟨rfl, fun i h1 => absurd h1 (by simp)⟩
  | x :: l, rs, q, h, he, hq => by
    simp only [rosOf, Option.bind_eq_bind, Option.bind_eq_some_iff, Option.some.injEq] at h
    obtain ⟨r, hr, rs', hrs, rfl⟩ := h
    simp only [evs, Option.bind_eq_bind, Option.bind_eq_some_iff, Option.some.injEq] at hq
    obtain ⟨v, hv, q', hq', rfl⟩ := hq
    simp only [readsL] at he
    obtain ⟨e1, e2⟩ := he.app
    obtain ⟨i1, i2⟩ := evs_rel sim hrs e2 hq'
    refine ⟨by simp [i1], fun i h1 h2 => ?_⟩
    cases i with
    | zero => exact RO.rel sim hr e1 hv
    | succ i => exact i2 i (by simpa using h1) (by simpa using h2)
theorem ok_mkfunc (sim : Sim gl A w0 F m w G) {f : FuncId} {first cap : Array Operand} {rs : List RO} (ho : o.op = .makeFunc (.func f) first cap) (h0 : first.isEmpty = true) (hr : rosOf cap.toList = some rs)
    (he : ERel F m w a env (readsL rs)) (n ext : Nat) (hp : stepN (RO.ev gl env) H (.mkfunc f rs) = some (p, [])) : NOk P gl A w0 F m w G n a o p ext := by
  simp only [stepN, Option.bind_eq_bind, Option.bind_eq_some_iff, Option.pure_def, Option.some.injEq, Prod.mk.injEq] at hp
  obtain ⟨q, hq, rfl, _⟩ := hp
  obtain ⟨i1, i2⟩ := evs_rel sim hr he hq
  have hf : first = #[] := by simpa using h0
  subst hf
  refine .same sim (v := .func (.func f) (#[].map a.eval) (cap.map a.eval)) (by simp only [execOp, ho, Instr.makeFunc, Sem.run_bind, Sem.run_pure, Result.andThen_ok]) (.fn _ _ _ _ (by simp) (by simpa using i1) (fun i h1 h2 => ?_))
  simp at h1
  have := i2 i (by simpa using h1) h2
  rw [Array.getElem_toList] at this
  simpa using this
theorem ok_idxAddr (sim : Sim gl A w0 F m w G) (hG : ∀ b k, H.f b = some k → G.f b = some k) {t e : TypeId} {x i : Operand} {sz : Nat} {r ri : RO} (ho : o.op = .indexAddr t x i) (hu : P.underlying t = some (.slice e)) (hsz : szOf P e = some sz)
    (hx : roOf x = some r) (hi : roOf i = some ri) (he : ERel F m w a env (r.reads ++ ri.reads)) (n ext : Nat) (hp : stepN (RO.ev gl env) H (.idxAddr sz r ri) = some (p, [])) : NOk P gl A w0 F m w G n a o p ext := by
  simp only [stepN, Option.bind_eq_bind, Option.bind_eq_some_iff] at hp
  obtain ⟨q, hq, q2, hq2, hp⟩ := hp
  obtain ⟨e1, e2⟩ := he.app
  have hv := RO.rel sim hx e1 hq
  have hv2 := RO.rel sim hi e2 hq2
  generalize hev : a.eval x = va at hv
  generalize hev2 : a.eval i = vi at hv2
  have hrun : ∀ (ad : Addr) (N c : Nat) (k : IntKind) (j : Int), va = .slice (some ad) N c → vi = .int k j → 0 ≤ j → j < N → (execOp a.eval o).run P w = .ok (.value (.pointer (some (ad.add (j.toNat * sz))))) w := by
    rintro ad N c k j rfl rfl h0 h1
    simp only [execOp, ho, hev, hev2, Instr.indexAt, asIntOf, Sem.run_bind, Sem.run_pure, run_underlying hu w, Result.andThen_ok, Sem.run_ite, if_pos (And.intro h0 h1), run_sizeOf' hsz w]
  -- of a frozen slice's element
  have frozen : ∀ (l : List PV) (ad : Addr) (c sz' : Nat) (cs : Nat → Nat → Value) (k : IntKind) (j : Int), F ad.block → (∀ e ∈ l, e.cells.length = sz') →
      (∀ i, i < l.length → ∀ j, j < sz' → w.cell? (ad.add (i * sz' + j)) = some (cs i j)) → (∀ i (h1 : i < l.length) j (h2 : j < (l[i]).cells.length), VRel F w m (cs i j) (l[i]).cells[j]) →
      va = .slice (some ad) l.length c → vi = .int k j → 0 ≤ j → ∀ y, l[j.toNat]? = some y → y.cells.length = sz → p = .fptr y.cells → NOk P gl A w0 F m w G n a o p ext := by
    intro l ad c sz' cs k j hF hz hcell h hva hvi h0 y hy hys hpp
    clear hp
    obtain ⟨hlt, rfl⟩ := List.getElem?_eq_some_iff.1 hy
    have hz' : sz' = sz := by rw [← hz _ (List.getElem_mem hlt)]; exact hys
    subst hz'
    subst hpp
    refine .same sim (hrun ad _ c k j hva hvi h0 (by omega)) (.fptr _ _ (cs j.toNat) (by rw [add_block]; exact hF) (fun q hq => ?_) (fun q hq => h _ hlt q hq))
    rw [Addr.add_add]
    exact hcell _ hlt q (by omega)
  split at hp
  · rename_i l k j
    cases hv2
    split at hp
    · rename_i h0
      simp only [Option.bind_eq_some_iff] at hp
      obtain ⟨y, hy, hp⟩ := hp
      split at hp
      · rename_i hys
        simp only [Option.some.injEq, Prod.mk.injEq] at hp
        cases hv with
        | slnil => simp at hy
        | sl ad c sz' _ cs hF hc hm hz hcell h => exact frozen l ad c sz' cs k j hF hz hcell (fun i h1 j h2 => (h i h1 j h2).weak m) rfl rfl h0 y hy hys hp.1.symm
      · cases hp
    · cases hp
  · rename_i l k j
    cases hv2
    split at hp
    · rename_i h0
      simp only [Option.bind_eq_some_iff] at hp
      obtain ⟨y, hy, hp⟩ := hp
      split at hp
      · rename_i hys
        simp only [Option.some.injEq, Prod.mk.injEq] at hp
        cases hv with
        | litnil => simp at hy
        | lit ad sz' _ cs hF hm hz hcell h => exact frozen l ad _ sz' cs k j hF hz hcell h rfl rfl h0 y hy hys hp.1.symm
      · cases hp
    · cases hp
  · rename_i b g off len k j
    cases hv2
    simp only [Option.bind_eq_some_iff] at hp
    obtain ⟨B, hB, hp⟩ := hp
    obtain ⟨hf, hg⟩ := Hp.blk_some hB
    split at hp
    · rename_i hc
      simp only [Option.some.injEq, Prod.mk.injEq] at hp
      obtain ⟨rfl, _⟩ := hp
      cases hv with
      | ref A c _ _ _ _ h =>
        have hnu : m b ≠ .unborn := fun e => by rw [e] at h; exact h
        rcases sim.blk2 b B (hG _ _ hf) hnu (fun _ e => by rw [e] at h; exact h) with ⟨β, hm, _⟩ | ⟨hvi, _⟩
        case inr =>
          rw [hvi] at h
          have := (h.2 hg.symm).1
          omega
        rw [hm] at h
        obtain ⟨rfl, _⟩ := h.2 hg.symm
        refine .same sim (hrun _ _ c k j rfl rfl hc.1 hc.2.1) (.ptr _ _ _ _ _ ?_)
        rw [hm]
        refine ⟨h.1, fun _ => ?_⟩
        rw [add_plain', hc.2.2, Nat.add_mul, Nat.add_zero]
    · cases hp
  · rename_i b g i' off len k j
    cases hv2
    simp only [Option.bind_eq_some_iff] at hp
    obtain ⟨B, hB, hp⟩ := hp
    obtain ⟨hf, hg⟩ := Hp.blk_some hB
    split at hp
    · rename_i hc
      simp only [Option.some.injEq, Prod.mk.injEq] at hp
      obtain ⟨rfl, _⟩ := hp
      cases hv with
      | cref A c _ _ _ _ _ h =>
        have hnu : m b ≠ .unborn := fun e => by rw [e] at h; exact h
        rcases sim.blk2 b B (hG _ _ hf) hnu (fun _ e => by rw [e] at h; exact h) with ⟨β, hm, _⟩ | ⟨hvi, _⟩
        case inr => rw [hvi] at h; exact h.elim
        rw [hm] at h
        obtain ⟨rfl, _⟩ := h.2 hg.symm
        refine .same sim (hrun _ _ c k j rfl rfl hc.1 hc.2.1) (.ptr _ _ _ _ _ ?_)
        rw [hm]
        refine ⟨h.1, fun _ => ?_⟩
        rw [add_plain', hc.2.2, Nat.mul_one, Nat.add_assoc]
    · cases hp
  · cases hp
end
end Go.Vm
namespace Go.Vm
open Go Go.RowKit
theorem eqL_append (l r : List PV) : ∀ (a b : List (Nat × Nat)), eqL l r (a ++ b) = (eqL l r a).bind fun t => if t then eqL l r b else some false
  | [], b => by simp [eqL]
  | o :: a, b => by
    simp only [List.cons_append, eqL, Option.bind_eq_bind]
    cases l[o.1]? with
    | none => rfl
    | some x =>
      cases r[o.1]? with
      | none => rfl
      | some y =>
        simp only [Option.bind_some]
        cases eq1 o.2 x y with
        | none => rfl
        | some t =>
          cases t
          · simp
          · simp [eqL_append l r a b]
theorem eqL_window (l r : List PV) (off s : Nat) : ∀ (q : List (Nat × Nat)), (∀ x ∈ q, x.1 < s) → eqL l r (q.map fun x => (off + x.1, x.2)) = eqL ((l.drop off).take s) ((r.drop off).take s) q
  | [], _ => rfl
  | x :: q, h => by
    have hx := h x (by simp)
    have e1 : ((l.drop off).take s)[x.1]? = l[off + x.1]? := by rw [List.getElem?_take_of_lt hx, List.getElem?_drop]
    have e2 : ((r.drop off).take s)[x.1]? = r[off + x.1]? := by rw [List.getElem?_take_of_lt hx, List.getElem?_drop]
    simp only [List.map_cons, eqL, e1, e2, eqL_window l r off s q (fun y hy => h y (by simp [hy]))]
section
variable {P : Program} {gl : Nat → Option PV} {A : Nat → Prop} {w0 : World} {F : Nat → Prop} {m : Nat → Slot} {w : World} {G H : Hp} {a : Act} {env : Env} {o : Oper} {p : PV} {own : Bool}
def CsRel (F : Nat → Prop) (m : Nat → Slot) (w : World) (xs : Array Value) (l : List PV) : Prop := xs.size = l.length ∧ ∀ j (h1 : j < xs.size) (h2 : j < l.length), VRel F w m xs[j] l[j]
theorem CsRel.window {xs : Array Value} {l : List PV} (h : CsRel F m w xs l) (off s : Nat) : CsRel F m w (xs.extract off (off + s)) ((l.drop off).take s) := by
  obtain ⟨e, h⟩ := h
  refine ⟨by simp; omega, fun j h1 h2 => ?_⟩
  simp at h1 h2
  simpa using h (off + j) (by omega) (by omega)
def EqGoal (P : Program) (F : Nat → Prop) (m : Nat → Slot) (w : World) (n : Nat) (t : TypeId) (ls : List (Nat × Nat)) : Prop :=
  ∀ (xs ys : Array Value) (l r : List PV) (off : Nat) (b : Bool), CsRel F m w xs l → CsRel F m w ys r → eqL l r (ls.map fun x => (off + x.1, x.2)) = some b →
    ∃ vx vy, (part t xs off).run P w = .ok vx w ∧ (part t ys off).run P w = .ok vy w ∧ (Op.equalIn n t vx vy).run P w = .ok b w
theorem eq_fields (n : Nat) (xs ys : Array Value) (l r : List PV) (hx : CsRel F m w xs l) (hy : CsRel F m w ys r) (lv : TypeId → Option (List (Nat × Nat))) (ih : ∀ t ls, lv t = some ls → EqGoal P F m w n t ls) :
    ∀ (fs : List Field) (L : List (List (Nat × Nat))) (b : Bool), (fs.mapM fun f => if f.name = "_" then none else (lv f.type).map fun q => q.map fun x => (f.offset + x.1, x.2)) = some L → eqL l r L.flatten = some b →
      (Op.eqFields n xs ys fs).run P w = .ok b w
  | [], L, b, h, hb => by
    simp at h
    subst h
    simp [eqL] at hb
    subst hb
    simp [Op.eqFields]
  | f :: fs, L, b, h, hb => by
    rw [List.mapM_cons] at h
    simp only [bind, Option.bind_eq_some_iff, pure, Option.some.injEq] at h
    obtain ⟨q, hq, L', hL, rfl⟩ := h
    split at hq
    · cases hq
    · rename_i hn
      rw [Option.map_eq_some_iff] at hq
      obtain ⟨q', hq', rfl⟩ := hq
      rw [List.flatten_cons, eqL_append, Option.bind_eq_some_iff] at hb
      obtain ⟨t, ht, hb⟩ := hb
      obtain ⟨vx, vy, r1, r2, r3⟩ := ih f.type q' hq' xs ys l r f.offset t hx hy ht
      simp only [Op.eqFields, ne_eq, hn, not_false_eq_true, if_true, Sem.run_bind, r1, r2, r3, Result.andThen_ok]
      cases t with
      | false => simp at hb; subst hb; simp
      | true =>
        simp only [if_true] at hb
        simpa using eq_fields n xs ys l r hx hy lv ih fs L' b hL hb
theorem eq_items (n : Nat) (e : TypeId) (c : Nat) (q : List (Nat × Nat)) (xs ys : Array Value) (l r : List PV) (hx : CsRel F m w xs l) (hy : CsRel F m w ys r) (ih : EqGoal P F m w n e q) :
    ∀ (is : List Nat) (b : Bool), eqL l r (is.map fun i => q.map fun x => (i * c + x.1, x.2)).flatten = some b → (Op.eqItems n e c xs ys is).run P w = .ok b w
  | [], b, hb => by
    simp [eqL] at hb
    subst hb
    simp [Op.eqItems]
  | i :: is, b, hb => by
    rw [List.map_cons, List.flatten_cons, eqL_append, Option.bind_eq_some_iff] at hb
    obtain ⟨t, ht, hb⟩ := hb
    obtain ⟨vx, vy, r1, r2, r3⟩ := ih xs ys l r (i * c) t hx hy ht
    simp only [Op.eqItems, Sem.run_bind, r1, r2, r3, Result.andThen_ok]
    cases t with
    | false => simp at hb; subst hb; simp
    | true =>
      simp only [if_true] at hb
      simpa using eq_items n e c q xs ys l r hx hy ih is b hb
theorem run_part_agg {t : TypeId} {s : Nat} (ht : shp P t = some (some s)) (hs : szOf P t = some s) (xs : Array Value) (off : Nat) : (part t xs off).run P w = .ok (.agg (xs.extract off (off + s))) w := by
  obtain ⟨ha, _⟩ := run_isAgg ht w
  simp only [part, Sem.run_bind, ha, Result.andThen_ok, Option.isSome_some, if_true, run_sizeOf' hs w, Sem.run_pure]
theorem run_part_one {t : TypeId} (ht : shp P t = some none) (xs : Array Value) (off : Nat) (v : Value) (h : xs[off]? = some v) : (part t xs off).run P w = .ok v w := by
  obtain ⟨ha, _⟩ := run_isAgg ht w
  simp only [part, Sem.run_bind, ha, Result.andThen_ok, Option.isSome_none, Bool.false_eq_true, if_false, h, Sem.run_pure]
theorem eq_leaves : ∀ (d : Nat) (t : TypeId) (ls : List (Nat × Nat)) (n : Nat), leavesOf P d t = some ls → d ≤ n → EqGoal P F m w n t ls
  | 0, t, ls, n, h, _ => by simp [leavesOf] at h
  | d + 1, t, ls, n, h, hn => by
    obtain ⟨n, rfl⟩ : ∃ k, n = k + 1 := ⟨n - 1, by omega⟩
    intro xs ys l r off b hx hy hb
    -- one cell
    have one : ∀ tag, ls = [(0, tag)] → shp P t = some none → (∀ vx vy px py, VRel F w m vx px → VRel F w m vy py → eq1 tag px py = some b → (Op.equalIn (n + 1) t vx vy).run P w = .ok b w) →
        ∃ vx vy, (part t xs off).run P w = .ok vx w ∧ (part t ys off).run P w = .ok vy w ∧ (Op.equalIn (n + 1) t vx vy).run P w = .ok b w := by
      rintro tag rfl hsh hq
      simp only [List.map_cons, List.map_nil, Nat.add_zero, eqL, Option.bind_eq_bind, Option.bind_eq_some_iff] at hb
      obtain ⟨px, hpx, py, hpy, t', ht', hb⟩ := hb
      obtain ⟨h1, rfl⟩ := List.getElem?_eq_some_iff.1 hpx
      obtain ⟨h2, rfl⟩ := List.getElem?_eq_some_iff.1 hpy
      have hbt : b = t' := by cases t' <;> simp at hb <;> exact hb
      subst hbt
      have g1 : xs[off]? = some (xs[off]'(by have := hx.1; omega)) := Array.getElem?_eq_getElem _
      have g2 : ys[off]? = some (ys[off]'(by have := hy.1; omega)) := Array.getElem?_eq_getElem _
      exact ⟨_, _, run_part_one hsh xs off _ g1, run_part_one hsh ys off _ g2, hq _ _ _ _ (hx.2 off (by have := hx.1; omega) h1) (hy.2 off (by have := hy.1; omega) h2) ht'⟩
    unfold leavesOf at h
    split at h
    · rename_i hu
      injection h with h
      refine one 0 h.symm (by simp [shp, hu]) (fun vx vy px py r1 r2 he => ?_)
      unfold eq1 at he
      split at he <;> first | contradiction | (cases r1; cases r2; injection he with he; subst he; exact run_equalIn_bool w n t _ _ hu)
    · rename_i k hu
      injection h with h
      refine one 1 h.symm (by simp [shp, hu]) (fun vx vy px py r1 r2 he => ?_)
      unfold eq1 at he
      split at he <;> first | contradiction | skip
      cases r1
      cases r2
      split at he
      · rename_i e
        subst e
        injection he with he
        subst he
        exact run_equalIn_int w n t _ k _ _ hu
      · cases he
    · rename_i hu
      injection h with h
      refine one 2 h.symm (by simp [shp, hu]) (fun vx vy px py r1 r2 he => ?_)
      unfold eq1 at he
      split at he <;> first | contradiction | skip
      cases r1
      cases r2
      injection he with he
      subst he
      rw [beq_toListBytes]
      exact run_equalIn_string w n t _ _ hu
    · rename_i fs hu
      split at h
      · cases h
      · rename_i hst
        simp only [Option.bind_eq_bind, Option.bind_eq_some_iff] at h
        obtain ⟨s, hs, L, hL, h⟩ := h
        split at h
        · rename_i hall
          injection h with h
          subst h
          have hall' : ∀ q ∈ L.flatten, q.1 < s := fun q hq => by simpa using List.all_eq_true.1 hall q hq
          rw [eqL_window l r off s _ hall'] at hb
          have hsh : shp P t = some (some s) := by
            unfold szOf at hs
            simp only [shp, hu]
            rw [Option.map_eq_some_iff] at hs ⊢
            obtain ⟨i, hi, rfl⟩ := hs
            exact ⟨i, hi, rfl⟩
          refine ⟨_, _, run_part_agg hsh hs xs off, run_part_agg hsh hs ys off, ?_⟩
          have hf : P.fieldsOf t = fs := by simp [Program.fieldsOf, hu]
          rw [run_equalIn_agg w n t _ _ (by rw [hf]; exact hu) (by simpa using hst), hf]
          exact eq_fields n _ _ _ _ (hx.window off s) (hy.window off s) (leavesOf P d) (fun t' ls' h' => eq_leaves d t' ls' n h' (by omega)) fs.toList L b hL hb
        · cases h
    · rename_i N e hu
      simp only [Option.bind_eq_bind, Option.bind_eq_some_iff] at h
      obtain ⟨q, hq, z, hz, s, hs, h⟩ := h
      split at h
      · rename_i hall
        injection h with h
        subst h
        have hall' : ∀ x ∈ ((List.range N).map fun i => q.map fun x => (i * z + x.1, x.2)).flatten, x.1 < s := fun x hx => by simpa using List.all_eq_true.1 hall x hx
        rw [eqL_window l r off s _ hall'] at hb
        have hsh : shp P t = some (some s) := by
          unfold szOf at hs
          simp only [shp, hu]
          rw [Option.map_eq_some_iff] at hs ⊢
          obtain ⟨i, hi, rfl⟩ := hs
          exact ⟨i, hi, rfl⟩
        refine ⟨_, _, run_part_agg hsh hs xs off, run_part_agg hsh hs ys off, ?_⟩
        unfold szOf at hz
        rw [Option.map_eq_some_iff] at hz
        obtain ⟨ie, hie, rfl⟩ := hz
        rw [run_equalIn_array w n _ _ hu hie]
        have hc : P.cellsOf e = ie.size := by simp [Program.cellsOf, hie]
        rw [hc]
        exact eq_items n e ie.size q _ _ _ _ (hx.window off s) (hy.window off s) (eq_leaves d e q n hq (by omega)) (List.range N) b hb
      · cases h
    · cases h
end
end Go.Vm
namespace Go.Vm
open Go Go.RowKit
section
variable {P : Program} {gl : Nat → Option PV} {A : Nat → Prop} {w0 : World} {F : Nat → Prop} {m : Nat → Slot} {w : World} {G H : Hp} {a : Act} {env : Env} {o : Oper} {p : PV} {own : Bool}
theorem VRel.agg_inv {v : Value} {l : List PV} (h : VRel F w m v (.agg l)) : ∃ xs, v = .agg xs ∧ CsRel F m w xs l := by
  cases h with
  | agg xs _ hs h => exact ⟨xs, rfl, hs, h⟩
theorem ok_eqs (sim : Sim gl A w0 F m w G) {op : BinOp} {ne : Bool} {t yt : TypeId} {x y : Operand} {rx ry : RO} {ls : List (Nat × Nat)} (ho : o.op = .binOp op t x y yt) (hop : op = if ne then .neq else .eql)
    (hg : P.eqGuardType P.depth t = false) (hl : leavesOf P 20 t = some ls) (hx : roOf x = some rx) (hy : roOf y = some ry) (he : ERel F m w a env (rx.reads ++ ry.reads)) (n ext : Nat)
    (hp : stepN (RO.ev gl env) H (.eqs ne ls rx ry) = some (p, [])) (hagg : ∃ s, shp P t = some (some s) ∧ szOf P t = some s ∧ ∀ x ∈ ls, x.1 < s) : NOk P gl A w0 F m w G n a o p ext := by
  simp only [stepN, Option.bind_eq_bind, Option.bind_eq_some_iff] at hp
  obtain ⟨q, hq, q2, hq2, hp⟩ := hp
  obtain ⟨e1, e2⟩ := he.app
  have hv := RO.rel sim hx e1 hq
  have hv2 := RO.rel sim hy e2 hq2
  split at hp
  · rename_i l r
    simp only [Option.bind_eq_some_iff, Option.pure_def, Option.some.injEq, Prod.mk.injEq] at hp
    obtain ⟨b, hb, rfl, _⟩ := hp
    obtain ⟨xs, hxs, h1⟩ := hv.agg_inv
    obtain ⟨ys, hys, h2⟩ := hv2.agg_inv
    obtain ⟨s, hsh, hs, hlt⟩ := hagg
    -- the whole value as a part at place 0 of itself, in a wider look
    have hb' : eqL (l.take s) (r.take s) ls = some b := by
      have e := eqL_window l r 0 s ls hlt
      have id : (ls.map fun x => (0 + x.1, x.2)) = ls := by
        rw [show (fun x : Nat × Nat => (0 + x.1, x.2)) = id by funext x; simp]
        exact List.map_id ls
      rw [id, List.drop_zero, List.drop_zero] at e
      rw [← e]; exact hb
    have heq : (Op.equalIn 10000 t (.agg xs) (.agg ys)).run P w = .ok b w := by
      have hd : 20 ≤ 10000 := by omega
      -- unfold by the type: a struct or an array
      unfold leavesOf at hl
      split at hl
      · rename_i hu; simp [shp, hu] at hsh
      · rename_i k hu; simp [shp, hu] at hsh
      · rename_i hu; simp [shp, hu] at hsh
      · rename_i fs hu
        split at hl
        · cases hl
        · rename_i hst
          simp only [Option.bind_eq_bind, Option.bind_eq_some_iff] at hl
          obtain ⟨s', hs', L, hL, hl⟩ := hl
          split at hl
          · injection hl with hl
            subst hl
            have hf : P.fieldsOf t = fs := by simp [Program.fieldsOf, hu]
            rw [run_equalIn_agg w 9999 t _ _ (by rw [hf]; exact hu) (by simpa using hst), hf]
            exact eq_fields 9999 _ _ _ _ h1 h2 (leavesOf P 19) (fun t' ls' h' => eq_leaves 19 t' ls' 9999 h' (by omega)) fs.toList L b hL hb
          · cases hl
      · rename_i N e hu
        simp only [Option.bind_eq_bind, Option.bind_eq_some_iff] at hl
        obtain ⟨q, hq, z, hz, s', hs', hl⟩ := hl
        split at hl
        · injection hl with hl
          subst hl
          unfold szOf at hz
          rw [Option.map_eq_some_iff] at hz
          obtain ⟨ie, hie, rfl⟩ := hz
          rw [run_equalIn_array w 9999 _ _ hu hie]
          have hc : P.cellsOf e = ie.size := by simp [Program.cellsOf, hie]
          rw [hc]
          exact eq_items 9999 e ie.size q _ _ _ _ h1 h2 (eq_leaves 19 e q 9999 hq (by omega)) (List.range N) b hb
        · cases hl
      · cases hl
    refine .same sim (v := .bool (if ne then !b else b)) ?_ (.bool _)
    have hgd : (eqGuard op t x y (.agg xs) (.agg ys)).run P w = .ok () w := run_eqGuard_agg w op t x y xs ys hg
    cases ne with
    | true =>
      simp only [if_true] at hop
      subst hop
      simp only [execOp, ho, hxs, hys, Sem.run_bind, hgd, Result.andThen_ok, run_neq_struct, heq, Sem.run_pure, if_true]
    | false =>
      simp only [Bool.false_eq_true, if_false] at hop
      subst hop
      simp only [execOp, ho, hxs, hys, Sem.run_bind, hgd, Result.andThen_ok, run_eql_struct, heq, Sem.run_pure, Bool.false_eq_true, if_false]
  · cases hp
theorem guard_int (op : BinOp) (t : TypeId) (x y : Operand) (k k' : IntKind) (c d : Int) : (eqGuard op t x y (.int k c) (.int k' d)).run P w = .ok () w := by cases op <;> simp [eqGuard]
theorem guard_str (op : BinOp) (t : TypeId) (x y : Operand) (c d : ByteArray) : (eqGuard op t x y (.string c) (.string d)).run P w = .ok () w := by cases op <;> simp [eqGuard]
theorem guard_bool (op : BinOp) (t : TypeId) (x y : Operand) (c d : Bool) : (eqGuard op t x y (.bool c) (.bool d)).run P w = .ok () w := by cases op <;> simp [eqGuard]
theorem run_bin_int {op : BinOp} {t : TypeId} {k k' : IntKind} {c d : Int} (h : binP op (.int k c) (.int k' d) = some p) : ∃ v, (binOp op t (.int k c) (.int k' d)).run P w = .ok v w ∧ VRel F w m v p := by
  unfold binP at h
  cases op
  case shl =>
    simp only [shiftI] at h
    split at h
    · cases h
    · rename_i hn
      injection h with h
      subst h
      refine ⟨_, ?_, .int _ _⟩
      simp [binOp, Op.shift, hn]
  case shr =>
    simp only [shiftI] at h
    split at h
    · cases h
    · rename_i hn
      injection h with h
      subst h
      refine ⟨_, ?_, .int _ _⟩
      simp [binOp, Op.shift, hn]
  case quo =>
    simp only [binI] at h
    split at h
    · rename_i e; subst e
      split at h
      · cases h
      · rename_i hz; injection h with h; subst h; exact ⟨_, by simp [binOp, Op.intDiv, hz], .int _ _⟩
    · cases h
  case rem =>
    simp only [binI] at h
    split at h
    · rename_i e; subst e
      split at h
      · cases h
      · rename_i hz; injection h with h; subst h; exact ⟨_, by simp [binOp, Op.intDiv, hz], .int _ _⟩
    · cases h
  all_goals
    simp only [binI, bitsI, cmpI, Option.map_some] at h
    split at h
    · rename_i e; subst e; injection h with h; subst h
      first
        | (refine ⟨_, ?_, .int _ _⟩; simp only [binOp, ne_eq, not_true_eq_false, if_false]; rfl)
        | (refine ⟨_, ?_, .bool _⟩; simp only [binOp, ne_eq, not_true_eq_false, if_false]; rfl)
    · cases h
theorem ok_bin (sim : Sim gl A w0 F m w G) {op : BinOp} {t yt : TypeId} {x y : Operand} {rx ry : RO} (ho : o.op = .binOp op t x y yt) (hx : roOf x = some rx) (hy : roOf y = some ry) (he : ERel F m w a env (rx.reads ++ ry.reads)) (n ext : Nat)
    (hp : stepN (RO.ev gl env) H (.bin op rx ry) = some (p, [])) : NOk P gl A w0 F m w G n a o p ext := by
  simp only [stepN, Option.bind_eq_bind, Option.bind_eq_some_iff, Option.pure_def, Option.some.injEq, Prod.mk.injEq] at hp
  obtain ⟨q, hq, q2, hq2, p', hb, rfl, _⟩ := hp
  obtain ⟨e1, e2⟩ := he.app
  have hv := RO.rel sim hx e1 hq
  have hv2 := RO.rel sim hy e2 hq2
  generalize hev : a.eval x = va at hv
  generalize hev2 : a.eval y = vb at hv2
  cases q with
  | int k c =>
    cases q2 with
    | int k' d =>
      cases hv
      cases hv2
      obtain ⟨v, hr, hrel⟩ := run_bin_int (P := P) (F := F) (m := m) (w := w) (t := t) hb
      exact .same sim (v := v) (by simp only [execOp, ho, hev, hev2, Sem.run_bind, guard_int, Result.andThen_ok, hr, Sem.run_pure]) hrel
    | _ => simp [binP] at hb
  | str c =>
    cases q2 with
    | str d =>
      cases hv
      cases hv2
      cases op <;> simp [binP] at hb <;> subst hb <;>
        exact .same sim (by simp only [execOp, ho, hev, hev2, Sem.run_bind, guard_str, Result.andThen_ok, binOp, Op.stringOp, Sem.run_pure]) (.bool _)
    | _ => simp [binP] at hb
  | _ => simp [binP] at hb
theorem ok_binb (sim : Sim gl A w0 F m w G) {op : BinOp} {t yt : TypeId} {x y : Operand} {rx ry : RO} (ho : o.op = .binOp op t x y yt) (hu : P.underlying t = some .bool) (hx : roOf x = some rx) (hy : roOf y = some ry) (he : ERel F m w a env (rx.reads ++ ry.reads)) (n ext : Nat)
    (hp : stepN (RO.ev gl env) H (.binb op rx ry) = some (p, [])) : NOk P gl A w0 F m w G n a o p ext := by
  simp only [stepN, Option.bind_eq_bind, Option.bind_eq_some_iff, Option.pure_def, Option.some.injEq, Prod.mk.injEq] at hp
  obtain ⟨q, hq, q2, hq2, p', hb, rfl, _⟩ := hp
  obtain ⟨e1, e2⟩ := he.app
  have hv := RO.rel sim hx e1 hq
  have hv2 := RO.rel sim hy e2 hq2
  generalize hev : a.eval x = va at hv
  generalize hev2 : a.eval y = vb at hv2
  cases q with
  | bool c =>
    cases q2 with
    | bool d =>
      cases hv
      cases hv2
      cases op <;> simp [binB] at hb <;> subst hb <;>
        exact .same sim (by simp only [execOp, ho, hev, hev2, Sem.run_bind, guard_bool, Result.andThen_ok, binOp, run_equal_bool w t c d hu, Sem.run_pure]) (.bool _)
    | _ => simp [binB] at hb
  | _ => simp [binB] at hb
theorem ok_idxAddrA (sim : Sim gl A w0 F m w G) {t e : TypeId} {x i : Operand} {N sz : Nat} {r ri : RO} (ho : o.op = .indexAddr t x i) (hu : P.underlying t = some (.array N e)) (hsz : szOf P e = some sz)
    (hx : roOf x = some r) (hi : roOf i = some ri) (he : ERel F m w a env (r.reads ++ ri.reads)) (n ext : Nat) (hp : stepN (RO.ev gl env) H (.idxAddrA N sz r ri) = some (p, [])) : NOk P gl A w0 F m w G n a o p ext := by
  simp only [stepN, Option.bind_eq_bind, Option.bind_eq_some_iff] at hp
  obtain ⟨q, hq, q2, hq2, hp⟩ := hp
  obtain ⟨e1, e2⟩ := he.app
  have hv := RO.rel sim hx e1 hq
  have hv2 := RO.rel sim hi e2 hq2
  generalize hev : a.eval x = va at hv
  generalize hev2 : a.eval i = vi at hv2
  have hrun : ∀ (ad : Addr) (k : IntKind) (j : Int), va = .pointer (some ad) → vi = .int k j → 0 ≤ j → j < N → (execOp a.eval o).run P w = .ok (.value (.pointer (some (ad.add (j.toNat * sz))))) w := by
    rintro ad k j rfl rfl h0 h1
    simp only [execOp, ho, hev, hev2, Instr.indexAt, asIntOf, Instr.sureAddr, Sem.run_bind, Sem.run_pure, run_underlying hu w, Result.andThen_ok, Sem.run_ite, if_pos (And.intro h0 h1), run_sizeOf' hsz w]
  split at hp
  · rename_i b g i' off k j
    cases hv2
    split at hp
    · rename_i hc
      simp only [Option.some.injEq, Prod.mk.injEq] at hp
      obtain ⟨rfl, _⟩ := hp
      cases hv with
      | ptr ad _ _ _ _ h =>
        refine .same sim (hrun _ k j rfl rfl hc.1 hc.2) (.ptr _ _ _ _ _ ?_)
        cases hm : m b with
        | unborn => rw [hm] at h; exact h
        | dead => trivial
        | virt _ => rw [hm] at h; exact h
        | mp _ => rw [hm] at h; exact h
        | live β s g' =>
          rw [hm] at h
          refine ⟨h.1, fun e => ?_⟩
          rw [h.2 e, add_plain', Nat.add_assoc]
    · cases hp
  · rename_i l k j
    cases hv2
    split at hp
    · rename_i hc
      simp only [Option.some.injEq, Prod.mk.injEq] at hp
      obtain ⟨rfl, _⟩ := hp
      cases hv with
      | fptr ad _ cs hF hcell h =>
        refine .same sim (hrun _ k j rfl rfl hc.1 hc.2) (.fptr _ _ (fun q => cs (j.toNat * sz + q)) (by rw [add_block]; exact hF) (fun q hq => ?_) (fun q hq => ?_))
        · simp at hq
          rw [Addr.add_add]
          exact hcell _ (by omega)
        · simp at hq
          simpa using h (j.toNat * sz + q) (by omega)
    · cases hp
  · cases hp
theorem mm_run (mx : Bool) {x y : Value} {px py pz : PV} (hx : VRel F w m x px) (hy : VRel F w m y py) (h : mm2 mx px py = some pz) :
    ∃ z, (if mx then Builtin.max2 x y else Builtin.min2 x y).run P w = .ok z w ∧ VRel F w m z pz := by
  unfold mm2 at h
  split at h
  · injection h with h
    subst h
    cases hx
    cases hy
    cases mx
    · exact ⟨_, by simp [Builtin.min2] <;> rfl, .int _ _⟩
    · exact ⟨_, by simp [Builtin.max2] <;> rfl, .int _ _⟩
  · cases h
theorem mm_fold (mx : Bool) (sim : Sim gl A w0 F m w G) : ∀ (l : List Operand) (rs : List RO) (x : Value) (px pz : PV), rosOf l = some rs → ERel F m w a env (readsL rs) → VRel F w m x px → mmL (RO.ev gl env) mx px rs = some pz →
    ∃ z, ((l.map a.eval).foldlM (if mx then Builtin.max2 else Builtin.min2) x).run P w = .ok z w ∧ VRel F w m z pz
  | [], rs, x, px, pz, h, _, hx, hm => by
    simp [rosOf] at h
    subst h
    simp [mmL] at hm
    subst hm
    exact ⟨x, by simp, hx⟩
  | y :: l, rs, x, px, pz, h, he, hx, hm => by
    simp only [rosOf, Option.bind_eq_bind, Option.bind_eq_some_iff, Option.some.injEq] at h
    obtain ⟨r, hr, rs', hrs, rfl⟩ := h
    simp only [mmL, Option.bind_eq_bind, Option.bind_eq_some_iff] at hm
    obtain ⟨py, hy, pq, h2, hm⟩ := hm
    simp only [readsL] at he
    obtain ⟨e1, e2⟩ := he.app
    obtain ⟨z, hz, hzr⟩ := mm_run (P := P) mx hx (RO.rel sim hr e1 hy) h2
    obtain ⟨z', hz', hzr'⟩ := mm_fold mx sim l rs' z pq pz hrs e2 hzr hm
    refine ⟨z', ?_, hzr'⟩
    rw [List.map_cons, List.foldlM_cons, Sem.run_bind]
    rw [show ((if mx then Builtin.max2 else Builtin.min2) x (a.eval y)) = (if mx then Builtin.max2 x (a.eval y) else Builtin.min2 x (a.eval y)) by cases mx <;> rfl, hz]
    exact hz'
theorem ok_mm (sim : Sim gl A w0 F m w G) {x : Operand} {l : List Operand} {r : RO} {rs : List RO} {c : Call} {mx : Bool} (ho : o.op = .call c) (hc : c.callee = .builtin (if mx then .max else .min)) (hargs : c.args.toList = x :: l)
    (hx : roOf x = some r) (hl : rosOf l = some rs) (he : ERel F m w a env (r.reads ++ readsL rs)) (n ext : Nat) (hp : stepN (RO.ev gl env) H (.mm mx r rs) = some (p, [])) : NOk P gl A w0 F m w G n a o p ext := by
  simp only [stepN, Option.bind_eq_bind, Option.bind_eq_some_iff, Option.pure_def, Option.some.injEq, Prod.mk.injEq] at hp
  obtain ⟨q, hq, p', hm, rfl, _⟩ := hp
  obtain ⟨e1, e2⟩ := he.app
  obtain ⟨z, hz, hzr⟩ := mm_fold mx (P := P) sim l rs (a.eval x) q p' hl e2 (RO.rel sim hx e1 hq) hm
  refine .same sim (v := z) ?_ hzr
  cases mx
  · simp only [Bool.false_eq_true, if_false] at hc hz
    simp only [execOp, ho, resolve, hc, Sem.run_bind, Sem.run_pure, Result.andThen_ok, invoke, builtin, Builtin.min_, Array.toList_map, hargs, List.map_cons, hz]
  · simp only [if_true] at hc hz
    simp only [execOp, ho, resolve, hc, Sem.run_bind, Sem.run_pure, Result.andThen_ok, invoke, builtin, Builtin.max_, Array.toList_map, hargs, List.map_cons, hz]
end
end Go.Vm
namespace Go.Vm
open Go Go.RowKit
theorem splice_length {l c : List PV} {off : Nat} (h : off + c.length ≤ l.length) : (splice l off c).length = l.length := by
  simp [splice]; omega
theorem splice_get {l c : List PV} {off : Nat} (h : off + c.length ≤ l.length) (k : Nat) : (splice l off c)[k]? = if off ≤ k ∧ k < off + c.length then c[k - off]? else l[k]? := by
  unfold splice
  have e1 : (l.take off).length = off := by simp; omega
  by_cases h1 : k < off
  · rw [if_neg (by omega), List.append_assoc, List.getElem?_append_left (by omega), List.getElem?_take_of_lt h1]
  · by_cases h2 : k < off + c.length
    · rw [if_pos (by omega), List.append_assoc, List.getElem?_append_right (by omega), List.getElem?_append_left (by omega), e1]
    · rw [if_neg (by omega), List.getElem?_append_right (by simp; omega), List.getElem?_drop]
      congr 1
      simp
      omega
theorem foldl_set (off : Nat) : ∀ (vs : List Value) (s : Nat) (cells : Array Value), off + s + vs.length ≤ cells.size →
    ((vs.zipIdx s).foldl (fun cs (x : Value × Nat) => cs.setIfInBounds (off + x.2) x.1) cells).size = cells.size ∧
    ∀ k : Nat, ((vs.zipIdx s).foldl (fun cs (x : Value × Nat) => cs.setIfInBounds (off + x.2) x.1) cells)[k]? = if off + s ≤ k ∧ k < off + s + vs.length then vs[k - (off + s)]? else cells[k]?
  | [], s, cells, _ => by simp; intro k h1 h2; omega
  | v :: vs, s, cells, h => by
    obtain ⟨e1, e2⟩ := foldl_set off vs (s + 1) (cells.setIfInBounds (off + s) v) (by simp at h ⊢; omega)
    simp only [List.zipIdx_cons, List.foldl_cons]
    refine ⟨by rw [e1]; simp, fun k => ?_⟩
    rw [e2 k]
    simp only [List.length_cons] at h ⊢
    by_cases h1 : k = off + s
    · subst h1
      rw [if_neg (by omega), if_pos (by omega), Array.getElem?_setIfInBounds_self_of_lt (by omega)]
      simp
    · by_cases h2 : off + (s + 1) ≤ k ∧ k < off + (s + 1) + vs.length
      · rw [if_pos h2, if_pos (by omega), show k - (off + s) = (k - (off + (s + 1))) + 1 by omega, List.getElem?_cons_succ]
      · rw [if_neg h2, if_neg (by omega), Array.getElem?_setIfInBounds_ne (by omega)]
section
variable {P : Program} {gl : Nat → Option PV} {A : Nat → Prop} {w0 : World} {F : Nat → Prop} {m : Nat → Slot} {w : World} {G H : Hp} {a : Act} {env : Env} {o : Oper} {p : PV} {own : Bool}
theorem CsRel.get {xs : Array Value} {l : List PV} (h : CsRel F m w xs l) {k : Nat} {q : PV} (hq : l[k]? = some q) : ∃ v, xs[k]? = some v ∧ VRel F w m v q := by
  obtain ⟨h1, rfl⟩ := List.getElem?_eq_some_iff.1 hq
  exact ⟨xs[k]'(by have := h.1; omega), Array.getElem?_eq_getElem _, h.2 k _ h1⟩
theorem CsRel.of_get {xs : Array Value} {l : List PV} (hs : xs.size = l.length) (h : ∀ (k : Nat) (q : PV), l[k]? = some q → ∃ v, xs[k]? = some v ∧ VRel F w m v q) : CsRel F m w xs l := by
  refine ⟨hs, fun j h1 h2 => ?_⟩
  obtain ⟨v, hv, hr⟩ := h j _ (List.getElem?_eq_getElem h2)
  rw [Array.getElem?_eq_getElem h1] at hv
  injection hv with hv
  rw [hv]; exact hr
theorem CsRel.splice {cells : Array Value} {l : List PV} {v : Value} {q : PV} {off : Nat} (h : CsRel F m w cells l) (hv : VRel F w m v q) (hb : off + q.cells.length ≤ l.length) :
    CsRel F m w (v.cells.zipIdx.foldl (fun cs (x : Value × Nat) => cs.setIfInBounds (off + x.2) x.1) cells) (splice l off q.cells) := by
  obtain ⟨e, hc⟩ := hv.size
  have hsz := h.1
  have hz : v.cells.zipIdx.foldl (fun cs (x : Value × Nat) => cs.setIfInBounds (off + x.2) x.1) cells = (v.cells.toList.zipIdx 0).foldl (fun cs (x : Value × Nat) => cs.setIfInBounds (off + x.2) x.1) cells := by
    rw [← Array.foldl_toList, Array.toList_zipIdx]
  obtain ⟨e1, e2⟩ := foldl_set off v.cells.toList 0 cells (by simp; omega)
  rw [hz]
  refine .of_get (by rw [e1, splice_length hb]; exact h.1) (fun k r hr => ?_)
  rw [splice_get hb] at hr
  rw [e2 k]
  simp only [Nat.add_zero, Array.length_toList]
  by_cases hk : off ≤ k ∧ k < off + q.cells.length
  · rw [if_pos hk] at hr
    rw [if_pos (by omega)]
    obtain ⟨h1, rfl⟩ := List.getElem?_eq_some_iff.1 hr
    exact ⟨v.cells[k - off]'(by omega), by rw [Array.getElem?_toList]; exact Array.getElem?_eq_getElem _, hc _ _ h1⟩
  · rw [if_neg hk] at hr
    rw [if_neg (by omega)]
    exact h.get hr
theorem fill_rel (sim : Sim gl A w0 F m w G) (place : Nat → Option (Nat × Nat)) : ∀ (ps : List (Nat × Operand)) (qs : List (Nat × Nat × RO)) (cells : Array Value) (l l' : List PV), partsOf place ps = some qs →
    ERel F m w a env (readsL (qs.map (·.2.2))) → CsRel F m w cells l → fillP (RO.ev gl env) qs l = some l' →
    ∃ cells', Instr.fill place cells (ps.map fun x => (x.1, a.eval x.2)) = some cells' ∧ CsRel F m w cells' l'
  | [], qs, cells, l, l', h, _, hc, hf => by
    simp [partsOf] at h
    subst h
    simp [fillP] at hf
    subst hf
    exact ⟨cells, rfl, hc⟩
  | (i, x) :: ps, qs, cells, l, l', h, he, hc, hf => by
    simp only [partsOf, Option.bind_eq_bind, Option.bind_eq_some_iff, Option.some.injEq] at h
    obtain ⟨⟨off, n⟩, hpl, r, hr, qs', hqs, rfl⟩ := h
    simp only [List.map_cons, readsL] at he
    obtain ⟨e1, e2⟩ := he.app
    simp only [fillP, Option.bind_eq_bind, Option.bind_eq_some_iff] at hf
    obtain ⟨v, hv, hf⟩ := hf
    split at hf
    · rename_i hcond
      have hrel := RO.rel sim hr e1 hv
      have hs : (a.eval x).cells.size = v.cells.length := hrel.size.1
      obtain ⟨c1, c2⟩ := hcond
      obtain ⟨cells', hfl, hcr⟩ := fill_rel sim place ps qs' _ _ l' hqs e2 (hc.splice (off := off) hrel (by omega)) hf
      refine ⟨cells', ?_, hcr⟩
      have hsz : cells.size = l.length := hc.1
      simp only [List.map_cons, Instr.fill, hpl]
      rw [if_neg (by simp only [Bool.or_eq_true, decide_eq_true_eq]; omega)]
      exact hfl
    · cases hf
theorem zero_cells {z : Value} {q : PV} (h : VRel F w m z q) : CsRel F m w z.cells q.cells := h.size
theorem ok_build (sim : Sim gl A w0 F m w G) {t : TypeId} {parts : Array (Nat × Operand)} {z : PV} {qs : List (Nat × Nat × RO)} {place : Nat → Option (Nat × Nat)} (ho : o.op = .build t parts) (hz : zeroOf P t = some z)
    (hpl : (∃ pl, placesOf P t = some pl ∧ place = (pl.toArray[·]?)) ∨ (∃ n e s, P.underlying t = some (.array n e) ∧ szOf P e = some s ∧ place = fun i => some (i * s, s)))
    (hqs : partsOf place parts.toList = some qs) (he : ERel F m w a env (readsL (qs.map (·.2.2)))) (n ext : Nat) (hp : stepN (RO.ev gl env) H (.build z.cells qs) = some (p, [])) : NOk P gl A w0 F m w G n a o p ext := by
  simp only [stepN, Option.bind_eq_bind, Option.bind_eq_some_iff, Option.pure_def, Option.some.injEq, Prod.mk.injEq] at hp
  obtain ⟨l', hl', rfl, _⟩ := hp
  unfold zeroOf at hz
  simp only [Option.bind_eq_some_iff] at hz
  obtain ⟨it, hit, zv, hzv, hzz⟩ := hz
  obtain ⟨cells', hf, hcr⟩ := fill_rel sim place parts.toList qs zv.cells z.cells l' hqs he (zero_cells (ofZero_rel hzz)) hl'
  have hb : P.built t (parts.map fun x => (x.1, a.eval x.2)).toList = some cells' := by
    unfold Program.built
    rcases hpl with ⟨pl, hpl, rfl⟩ | ⟨N, e, s, hu, hs, rfl⟩
    · unfold placesOf at hpl
      split at hpl
      · rename_i fs hu
        simp only [hit, hu, hzv, hpl, Array.toList_map]
        exact hf
      · cases hpl
    · unfold szOf at hs
      rw [Option.map_eq_some_iff] at hs
      obtain ⟨ie, hie, rfl⟩ := hs
      simp only [hit, hu, hzv, hie, Array.toList_map]
      exact hf
  refine .same sim (v := .agg cells') (by simp only [execOp, ho, Sem.run_bind, run_build w t _ _ hb, Result.andThen_ok, Sem.run_pure]) (.agg _ _ hcr.1 hcr.2)
end
end Go.Vm
namespace Go.Vm
open Go Go.RowKit
theorem flat_length {s : Nat} : ∀ {l : List PV}, (∀ e ∈ l, e.cells.length = s) → (flat l).length = l.length * s
  | [], _ => by simp [flat]
  | x :: l, h => by
    have ih := flat_length (l := l) (fun e he => h e (by simp [he]))
    unfold flat at ih ⊢
    simp only [List.flatMap_cons, List.length_append, ih, h x (by simp), List.length_cons, Nat.add_mul, Nat.one_mul]
    omega
theorem flat_get {s : Nat} : ∀ {l : List PV}, (∀ e ∈ l, e.cells.length = s) → ∀ i (h : i < l.length) j, j < s → (flat l)[i * s + j]? = (l[i]).cells[j]?
  | [], _, i, h, _, _ => absurd h (by simp)
  | x :: l, h, i, hi, j, hj => by
    have hx := h x (by simp)
    cases i with
    | zero =>
      simp only [flat, List.flatMap_cons, Nat.zero_mul, Nat.zero_add, List.getElem_cons_zero]
      exact List.getElem?_append_left (by omega)
    | succ i =>
      have ih := flat_get (l := l) (fun e he => h e (by simp [he])) i (by simpa using hi) j hj
      simp only [flat, List.flatMap_cons, List.getElem_cons_succ] at ih ⊢
      rw [List.getElem?_append_right (by rw [hx, Nat.add_mul]; omega), hx, ← ih]
      congr 1
      rw [Nat.add_mul]; omega
theorem flat_set {s : Nat} : ∀ {l : List PV} (i : Nat) (v : PV), (∀ e ∈ l, e.cells.length = s) → i < l.length → v.cells.length = s → flat (l.set i v) = splice (flat l) (i * s) v.cells
  | [], i, v, _, h, _ => absurd h (by simp)
  | x :: l, i, v, h, hi, hv => by
    have hx := h x (by simp)
    cases i with
    | zero =>
      simp only [flat, List.set_cons_zero, List.flatMap_cons, splice, Nat.zero_mul, List.take_zero, List.nil_append, Nat.zero_add]
      rw [List.drop_append_of_le_length (by omega), hv, ← hx, List.drop_length, List.nil_append]
    | succ i =>
      have ih := flat_set (l := l) i v (fun e he => h e (by simp [he])) (by simpa using hi) hv
      simp only [flat, List.set_cons_succ, List.flatMap_cons] at ih ⊢
      rw [ih]
      unfold splice
      have e1 : (i + 1) * s = x.cells.length + i * s := by rw [Nat.add_mul, hx]; omega
      rw [e1, Nat.add_assoc, List.take_length_add_append, List.drop_length_add_append, List.append_assoc, List.append_assoc, List.append_assoc]
theorem flat_replicate_get (z : PV) (s : Nat) (hz : z.cells.length = s) (n k : Nat) (h : k < n * s) : (flat (List.replicate n z))[k]? = z.cells[k % s]? := by
  have hs : 0 < s := by rcases Nat.eq_zero_or_pos s with e | e; (subst e; simp at h); exact e
  have hk : k = (k / s) * s + k % s := by rw [Nat.mul_comm]; exact (Nat.div_add_mod k s).symm
  have hi : k / s < n := Nat.div_lt_of_lt_mul (by rw [Nat.mul_comm]; exact h)
  have := flat_get (l := List.replicate n z) (s := s) (fun e he => by rw [List.eq_of_mem_replicate he]; exact hz) (k / s) (by simpa using hi) (k % s) (Nat.mod_lt _ hs)
  rw [← hk] at this
  rw [this]
  simp
theorem fillE_rel {ev : RO → Option PV} {s : Nat} : ∀ (ps : List (Nat × Operand)) (es : List (Nat × RO)) (l l' : List PV), elemsOf ps = some es → (∀ e ∈ l, e.cells.length = s) → fillE ev s es l = some l' →
    partsOf (fun i => some (i * s, s)) ps = some (es.map fun x => (x.1 * s, s, x.2)) ∧ fillP ev (es.map fun x => (x.1 * s, s, x.2)) (flat l) = some (flat l') ∧ (∀ e ∈ l', e.cells.length = s) ∧ l'.length = l.length
  | [], es, l, l', h, hl, hf => by
    simp [elemsOf] at h
    subst h
    simp [fillE] at hf
    subst hf
    exact ⟨rfl, rfl, hl, rfl⟩
  | (i, x) :: ps, es, l, l', h, hl, hf => by
    simp only [elemsOf, Option.bind_eq_bind, Option.bind_eq_some_iff, Option.some.injEq] at h
    obtain ⟨r, hr, es', hes, rfl⟩ := h
    simp only [fillE, Option.bind_eq_bind, Option.bind_eq_some_iff] at hf
    obtain ⟨v, hv, hf⟩ := hf
    split at hf
    · rename_i hc
      have hl2 : ∀ e ∈ l.set i v, e.cells.length = s := by
        intro e he
        rcases List.mem_or_eq_of_mem_set he with he | rfl
        · exact hl e he
        · exact hc.1
      obtain ⟨h1, h2, h3, h4⟩ := fillE_rel ps es' (l.set i v) l' hes hl2 hf
      refine ⟨by simp [partsOf, hr, h1], ?_, h3, by simpa using h4⟩
      simp only [List.map_cons, fillP, hv, Option.bind_eq_bind, Option.bind_some]
      rw [if_pos ⟨hc.1, by rw [flat_length hl, ← Nat.succ_mul]; exact Nat.mul_le_mul_right s hc.2⟩, ← flat_set i v hl hc.2 hc.1]
      exact h2
    · cases hf
section
variable {P : Program} {gl : Nat → Option PV} {A : Nat → Prop} {w0 : World} {F : Nat → Prop} {m : Nat → Slot} {w : World} {G H : Hp} {a : Act} {env : Env} {o : Oper} {p : PV} {own : Bool}
theorem made_rel {z : Value} {q : PV} {n s : Nat} (h : VRel F w m z q) (hs : q.cells.length = s) : CsRel F m w ((Array.range (n * s)).map (z.cells[· % z.cells.size]!)) (flat (List.replicate n q)) := by
  have hsz := h.size
  refine .of_get (by rw [flat_length (s := s) (fun e he => by rw [List.eq_of_mem_replicate he]; exact hs)]; simp) (fun k r hr => ?_)
  obtain ⟨hk, _⟩ := List.getElem?_eq_some_iff.1 hr
  rw [flat_length (s := s) (fun e he => by rw [List.eq_of_mem_replicate he]; exact hs)] at hk
  simp only [List.length_replicate] at hk
  rw [flat_replicate_get q s hs n k hk] at hr
  obtain ⟨h1, rfl⟩ := List.getElem?_eq_some_iff.1 hr
  have e : z.cells.size = s := by rw [hsz.1, hs]
  refine ⟨z.cells[k % s]'(by rw [e]; omega), ?_, hsz.2 _ _ h1⟩
  rw [Array.getElem?_eq_getElem (by simpa using hk)]
  simp [e]
  rw [getElem!_pos z.cells (k % s) (by rw [e]; omega)]
theorem blk_of_flat {cs : Array Value} {xs : List PV} {s : Nat} (h : CsRel F m w cs (flat xs)) (hs : ∀ e ∈ xs, e.cells.length = s) :
    xs.length * s ≤ cs.size ∧ ∀ i (hi : i < xs.length) j (hj : j < (xs[i]).cells.length), ∃ v, cs[i * s + j]? = some v ∧ VRel F w m v (xs[i]).cells[j] := by
  refine ⟨by rw [h.1, flat_length hs]; exact Nat.le_refl _, fun i hi j hj => ?_⟩
  have hj' : j < s := by rw [← hs _ (List.getElem_mem hi)]; exact hj
  exact h.get (by rw [flat_get hs i hi j hj']; exact List.getElem?_eq_getElem hj)
theorem ok_row (sim : Sim gl A w0 F m w G) {cs : Array Value} {T : TypeId} {xs : List PV} {s n : Nat} (h : CsRel F m w cs (flat xs)) (hs : ∀ e ∈ xs, e.cells.length = s) (hn : xs.length = n) (hm : n ≤ maxLen)
    (hX : G.f H.n = some ⟨0, s, xs⟩) (hU : m H.n = .unborn) (hr : (execOp a.eval o).run P w = .ok (.value (.slice (some ⟨w.heap.size, 0, none⟩) n n)) (w.alloc (.cells cs T))) :
    NOk P gl A w0 F m w G H.n a o (.ref H.n 0 0 n) 1 := by
  obtain ⟨b1, b2⟩ := blk_of_flat h hs
  obtain ⟨s', e⟩ := sim.alloc cs T H.n hU ⟨0, s, xs⟩ hX b1 hs b2
  refine ⟨_, _, F, _, hr, s', e, .ref _ _ _ _ _ _ ?_, fun b hb => mput_ne _ _ (by simpa using hb 0 (by omega))⟩
  rw [mput_eq]
  refine ⟨Nat.le_refl _, fun _ => ⟨by simp, Nat.le_refl _, hm, ?_⟩⟩
  unfold rowSize
  rw [heap_push_eq]
  simp only [Nat.zero_add]
  rw [← hn]; exact b1
theorem ok_rowF (sim : Sim gl A w0 F m w G) {cs : Array Value} {T : TypeId} {xs : List PV} {s n : Nat} (h : CsRel F m w cs (flat xs)) (hs : ∀ e ∈ xs, e.cells.length = s) (hn : xs.length = n) (hm : n ≤ maxLen) (N : Nat)
    (hr : (execOp a.eval o).run P w = .ok (.value (.slice (some ⟨w.heap.size, 0, none⟩) n n)) (w.alloc (.cells cs T))) : NOk P gl A w0 F m w G N a o (.lit xs) 0 := by
  obtain ⟨b1, b2⟩ := blk_of_flat h hs
  obtain ⟨s', e⟩ := sim.allocF (.cells cs T)
  subst hn
  refine ⟨_, _, _, m, hr, s', e, .lit ⟨w.heap.size, 0, none⟩ s xs (fun i j => cs.getD (i * s + j) undef) (.inr rfl) hm hs (fun i hi j hj => ?_) (fun i hi j hj => ?_), fun _ _ => rfl⟩
  · obtain ⟨v, hv, _⟩ := b2 i hi j (by rw [hs _ (List.getElem_mem hi)]; exact hj)
    rw [add_plain', cell_row (heap_push_eq _ _), Nat.zero_add, hv, Array.getD_eq_getD_getElem?, hv]
    rfl
  · obtain ⟨v, hv, hr⟩ := b2 i hi j hj
    rw [Array.getD_eq_getD_getElem?, hv]
    exact hr.mono e
theorem ok_bslice (sim : Sim gl A w0 F m w G) {t e : TypeId} {parts : Array (Nat × Operand)} {z : PV} {es : List (Nat × RO)} {s N : Nat} {ext : List Blk} (ho : o.op = .buildSlice t N parts) (hu : P.underlying t = some (.slice e)) (hs : szOf P e = some s)
    (hs0 : s ≠ 0) (hz : zeroOf P e = some z) (hes : elemsOf parts.toList = some es) (he : ERel F m w a env (readsL (es.map (·.2)))) (hp : stepN (RO.ev gl env) H (.bslice own s N z es) = some (p, ext))
    (hX : ∀ k (h : k < ext.length), G.f (H.n + k) = some ext[k]) (hU : ∀ k, k < ext.length → m (H.n + k) = .unborn) : NOk P gl A w0 F m w G H.n a o p ext.length := by
  simp only [stepN, Option.bind_eq_bind] at hp
  split at hp
  · rename_i hc
    obtain ⟨hzs, hb, hm⟩ := hc
    rw [Option.bind_eq_some_iff] at hp
    obtain ⟨l, hl, hp⟩ := hp
    obtain ⟨zv, hzv, hzz⟩ := run_zeroValue' hz w
    obtain ⟨f1, f2, f3, f4⟩ := fillE_rel parts.toList es (List.replicate N z) l hes (fun e he => by rw [List.eq_of_mem_replicate he]; exact hzs) hl
    have hln : l.length = N := by rw [f4]; simp
    have zr := ofZero_rel (F := F) (m := m) (w := w) hzz
    have zs : zv.cells.size = s := by rw [zr.size.1]; exact hzs
    -- the cells ahead of the parts
    have hbase : ∃ base : Array Value, (N * s = 0 → base = #[]) ∧ (N * s ≠ 0 → base = zv.cells) ∧ CsRel F m w ((Array.range (N * s)).map (base[· % base.size]!)) (flat (List.replicate N z)) := by
      by_cases h0 : N * s = 0
      · refine ⟨#[], fun _ => rfl, fun h => absurd h0 h, ?_⟩
        rw [h0]
        have : N = 0 := by rcases Nat.mul_eq_zero.1 h0 with h | h; exact h; exact absurd h hs0
        subst this
        exact ⟨by simp [flat], fun j h1 => absurd h1 (by simp)⟩
      · exact ⟨zv.cells, fun h => absurd h h0, fun _ => rfl, made_rel zr hzs⟩
    obtain ⟨base, hb0, hb1, hbc⟩ := hbase
    have hreads : ERel F m w a env (readsL ((es.map fun x => (x.1 * s, s, x.2)).map (·.2.2))) := by
      rw [List.map_map]
      exact he
    obtain ⟨cells', hfl, hcr⟩ := fill_rel sim (fun i => some (i * s, s)) parts.toList _ _ _ _ f1 hreads hbc f2
    have hrun : (execOp a.eval o).run P w = .ok (.value (.slice (some ⟨w.heap.size, 0, none⟩) N N)) (w.alloc (.cells cells' e)) := by
      by_cases h0 : N * s = 0
      · rw [hb0 h0] at hfl
        simp only [execOp, ho, Instr.buildSlice, Sem.run_bind, run_underlying hu w, Result.andThen_ok, run_sizeOf' hs w, show ¬ (N * s > 2 ^ 24) by omega, if_false, if_pos h0, Array.toList_map, hfl, newRow, run_newObj, Sem.run_pure]
        rfl
      · rw [hb1 h0] at hfl
        simp only [execOp, ho, Instr.buildSlice, Sem.run_bind, run_underlying hu w, Result.andThen_ok, run_sizeOf' hs w, show ¬ (N * s > 2 ^ 24) by omega, if_false, if_neg h0, hzv, Array.toList_map, hfl, newRow, run_newObj, Sem.run_pure]
        rfl
    split at hp
    · simp only [Option.some.injEq, Prod.mk.injEq] at hp
      obtain ⟨rfl, rfl⟩ := hp
      exact ok_row sim hcr f3 hln hm (by simpa using hX 0 (by simp)) (by simpa using hU 0 (by simp)) hrun
    · simp only [Option.some.injEq, Prod.mk.injEq] at hp
      obtain ⟨rfl, rfl⟩ := hp
      exact ok_rowF sim hcr f3 hln hm H.n hrun
  · cases hp
theorem ok_mkslice (sim : Sim gl A w0 F m w G) {t e : TypeId} {L C : Operand} {z : PV} {r : RO} {s : Nat} {ext : List Blk} (ho : o.op = .makeSlice t L C) (hu : P.underlying t = some (.slice e)) (hs : szOf P e = some s) (hz : zeroOf P e = some z)
    (hb : (P.info? e).any (fun i => decide (i.bytes ≤ 1048576)) = true) (hL : roOf L = some r) (hC : roOf C = some r) (he : ERel F m w a env r.reads) (hp : stepN (RO.ev gl env) H (.mkslice s z r) = some (p, ext))
    (hX : ∀ k (h : k < ext.length), G.f (H.n + k) = some ext[k]) (hU : ∀ k, k < ext.length → m (H.n + k) = .unborn) : NOk P gl A w0 F m w G H.n a o p ext.length := by
  simp only [stepN, Option.bind_eq_bind, Option.bind_eq_some_iff] at hp
  obtain ⟨q, hq, hp⟩ := hp
  have h1 := RO.rel sim hL he hq
  have h2 := RO.rel sim hC he hq
  generalize hv1 : a.eval L = v1 at h1
  generalize hv2 : a.eval C = v2 at h2
  split at hp
  · rename_i c
    split at hp
    · rename_i hc
      obtain ⟨h0, hmax, hzs⟩ := hc
      simp only [Option.some.injEq, Prod.mk.injEq] at hp
      obtain ⟨rfl, rfl⟩ := hp
      cases h1
      cases h2
      unfold zeroOf at hz
      simp only [Option.bind_eq_some_iff] at hz
      obtain ⟨ie, hie, zv, hzv, hzz⟩ := hz
      unfold szOf at hs
      rw [hie] at hs hb
      simp only [Option.map_some, Option.some.injEq, Option.any_some, decide_eq_true_eq] at hs hb
      have zr := ofZero_rel (F := F) (m := m) (w := w) hzz
      have hbyt : (ie.bytes : Int) * c ≤ 281474976710656 := by
        have : (ie.bytes : Int) * c ≤ 1048576 * 1048576 := Int.mul_le_mul (by omega) hmax h0 (by omega)
        omega
      have hrun := run_make (P := P) w t e ie zv hu hie hzv .i64 .i64 c c h0 (Int.le_refl _) hbyt (by omega)
      have hmk : CsRel F m w (madeCells zv.cells (c.toNat * ie.size)) (flat (List.replicate c.toNat z)) := by
        rw [hs]
        exact made_rel zr hzs
      refine ok_row (s := s) sim hmk (fun e he => by rw [List.eq_of_mem_replicate he]; exact hzs) (by simp) (by simp only [maxLen]; omega) (by simpa using hX 0 (by simp)) (by simpa using hU 0 (by simp)) (T := e) ?_
      simp only [execOp, ho, hv1, hv2, Sem.run_bind, hrun, Result.andThen_ok, Sem.run_pure]
    · cases hp
  · cases hp
end
end Go.Vm
namespace Go.Vm
open Go Go.RowKit
section
variable {P : Program} {gl : Nat → Option PV} {A : Nat → Prop} {w0 : World} {F : Nat → Prop} {m : Nat → Slot} {w : World} {G H : Hp} {a : Act} {env : Env} {o : Oper} {p : PV} {own : Bool}
def ORel (F : Nat → Prop) (m : Nat → Slot) (w : World) (v : Value) (r : Option PV) : Prop := ∀ p, r = some p → VRel F w m v p
def EOk (P : Program) (gl : Nat → Option PV) (A : Nat → Prop) (w0 : World) (F : Nat → Prop) (m : Nat → Slot) (w : World) (a : Act) (o : Oper) (r : Option PV) (H' : Hp) : Prop :=
  ∃ v w' F' m', ((execOp a.eval o).run P w = .ok (.value v) w' ∨ ((execOp a.eval o).run P w = .ok .skip w' ∧ v = undef)) ∧ Sim gl A w0 F' m' w' H' ∧ Ev F m w F' m' w' ∧ ORel F' m' w' v r ∧ ∀ b, H'.n ≤ b → m' b = .unborn
theorem heap_setRow_size (w : World) (β : Nat) (cs : Array Value) : (w.setRow β cs).heap.size = w.heap.size := by simp [World.setRow]
theorem below_setRow {w0 w : World} {β : Nat} {cs : Array Value} (h : Below w0.heap.size w0 w) (hb : w0.heap.size ≤ β) : Below w0.heap.size w0 (w.setRow β cs) :=
  ⟨h.os, h.tape, h.output, by rw [heap_setRow_size]; exact h.size, fun k hk => (setRow_other w β k cs (by omega)).trans (h.block k hk)⟩
theorem Hp.set_f {H : Hp} {b : Nat} {k k' : Blk} {c : Nat} (h : H.f b = some k) : (H.set b k').f c = if c = b then some k' else H.f c := by
  unfold Hp.set
  simp only
  by_cases e : c = b
  · subst e; rw [h]; simp
  · cases H.f c <;> simp [e]
theorem Sim.write (sim : Sim gl A w0 F m w H) {b β : Nat} {k : Blk} {cs cs' : Array Value} {T : TypeId} {g' : Nat} {xs' : List PV} (hk : H.f b = some k) (hm : m b = .live β k.sz k.g) (hc : w.heap[β]? = some (.cells cs T (0, 0))) (hs : cs'.size = cs.size)
    (hg : k.g ≤ g') (h1 : xs'.length * k.sz ≤ cs'.size) (h2 : ∀ x ∈ xs', x.cells.length = k.sz) (h3 : ∀ i (h : i < xs'.length) j (h2 : j < (xs'[i]).cells.length), ∃ v, cs'[i * k.sz + j]? = some v ∧ VRel F w m v (xs'[i]).cells[j]) :
    Sim gl A w0 F (mput m b (.live β k.sz g')) (w.setRow β cs') (H.set b ⟨g', k.sz, xs'⟩) ∧ Ev F m w F (mput m b (.live β k.sz g')) (w.setRow β cs') := by
  have hlive := sim.live b β (at_live hm)
  have ev : Ev F m w F (mput m b (.live β k.sz g')) (w.setRow β cs') := by
    refine ⟨by rw [heap_setRow_size]; exact Nat.le_refl _, fun _ h => h, sim.fnl, fun x _ hx => setRow_other w β x cs' (fun e => hx ⟨b, e ▸ at_live hm⟩), fun x ⟨c, hc'⟩ => ?_, fun x hx => ?_, fun c => ?_, sim.liv, fun _ h => .inl h⟩
    · by_cases e : c = b
      · subst e
        rw [mput_eq] at hc'
        injection hc' with hc'
        exact .inl ⟨c, hc' ▸ at_live hm⟩
      · rw [mput_ne _ _ e] at hc'
        exact .inl ⟨c, hc'⟩
    · unfold rowSize
      by_cases e : x = β
      · subst e
        rw [setRow_heap w x cs cs' T (0, 0) hc, hc]
        exact hs
      · rw [setRow_other w β x cs' e]
    · by_cases e : c = b
      · subst e
        rw [hm, mput_eq]
        exact .inr ⟨β, g', rfl, hg, fun _ => rfl⟩
      · rw [mput_ne _ _ e]; exact slot_refl _
  have live' : ∀ c β', (mput m b (.live β k.sz g') c).at = some β' → (m c).at = some β' := by
    intro c β' h
    by_cases e : c = b
    · subst e
      rw [mput_eq] at h
      injection h with h
      subst h
      exact at_live hm
    · rw [mput_ne _ _ e] at h
      exact h
  refine ⟨⟨below_setRow sim.below hlive.1, ?_, ?_, sim.frz, ?_, ?_, fun g p hp => (sim.glob g p hp).monoNo ev⟩, ev⟩
  · intro c β' h
    rw [heap_setRow_size]
    exact sim.live c β' (live' c β' h)
  · intro c c' β' h h'
    exact sim.inj c c' β' (live' c β' h) (live' c' β' h')
  · intro x hx
    rw [heap_setRow_size]
    exact sim.frzlt x hx
  · intro c k' hk' hnu
    rw [Hp.set_f hk] at hk'
    by_cases e : c = b
    · subst e
      rw [if_pos rfl] at hk'
      injection hk' with hk'
      subst hk'
      exact .inl ⟨β, mput_eq _ _ _, cs', T, setRow_heap w β cs cs' T (0, 0) hc, h1, h2, fun i hi j hj => by
        obtain ⟨v, hv, hr⟩ := h3 i hi j hj
        exact ⟨v, hv, hr.mono ev⟩⟩
    · rw [if_neg e] at hk'
      rw [mput_ne _ _ e] at hnu ⊢
      rcases sim.blk c k' hk' hnu with ⟨β', hm', hok⟩ | hv
      case inr => exact .inr (hv.mono ev fun β' e1 => setRow_other w β β' cs' fun e2 => e (sim.inj c b β' (at_mp e1) (e2 ▸ at_live hm)))
      refine .inl ⟨β', hm', hok.mono ev (setRow_other w β β' cs' fun e2 => e (sim.inj c b β' (at_live hm') (e2 ▸ at_live hm)))⟩
theorem Sim.drew (sim : Sim gl A w0 F m w H) : Sim gl A w0 F m w.drew H ∧ Ev F m w F m w.drew := by
  have ev : Ev F m w F m w.drew := ⟨Nat.le_refl _, fun _ h => h, sim.fnl, fun _ _ _ => rfl, fun _ h => .inl h, fun _ _ => rfl, fun _ => slot_refl _, sim.liv, fun _ h => .inl h⟩
  refine ⟨⟨sim.below.drew, sim.live, sim.inj, sim.frz, sim.frzlt, fun b k hk hnu => ?_, fun g p hp => (sim.glob g p hp).monoNo ev⟩, ev⟩
  rcases sim.blk b k hk hnu with ⟨β, hm, hok⟩ | hv
  case inr => exact .inr (hv.mono ev fun _ _ => rfl)
  exact .inl ⟨β, hm, hok.mono ev rfl⟩
theorem Sim.regrow (sim : Sim gl A w0 F m w H) {b : Nat} {k : Blk} {cs' : Array Value} {T : TypeId} {xs' : List PV} (hk : H.f b = some k) (hm : m b = .virt k.g ∨ ∃ β, m b = .live β k.sz k.g) (h1 : xs'.length * k.sz ≤ cs'.size) (h2 : ∀ x ∈ xs', x.cells.length = k.sz)
    (h3 : ∀ i (h : i < xs'.length) j (h2 : j < (xs'[i]).cells.length), ∃ v, cs'[i * k.sz + j]? = some v ∧ VRel F w m v (xs'[i]).cells[j]) :
    Sim gl A w0 F (mput m b (.live w.heap.size k.sz (k.g + 1))) (w.alloc (.cells cs' T)) (H.set b ⟨k.g + 1, k.sz, xs'⟩) ∧ Ev F m w F (mput m b (.live w.heap.size k.sz (k.g + 1))) (w.alloc (.cells cs' T)) := by
  have ev : Ev F m w F (mput m b (.live w.heap.size k.sz (k.g + 1))) (w.alloc (.cells cs' T)) := by
    refine ⟨by rw [size_alloc]; omega, fun _ h => h, sim.fnl, fun x hx _ => heap_push_lt _ _ hx, fun x ⟨c, hc'⟩ => ?_, fun x hx => rowSize_lt _ _ hx, fun c => ?_, sim.liv, fun _ h => .inl h⟩
    · by_cases e : c = b
      · subst e
        rw [mput_eq] at hc'
        injection hc' with hc'
        exact .inr (by omega)
      · rw [mput_ne _ _ e] at hc'
        exact .inl ⟨c, hc'⟩
    by_cases e : c = b
    · subst e
      rw [mput_eq]
      rcases hm with hm | ⟨β, hm⟩
      · rw [hm]
        exact .inr (.inr ⟨_, _, _, rfl, by omega⟩)
      · rw [hm]
        exact .inr ⟨_, _, rfl, by omega, fun h => by omega⟩
    · rw [mput_ne _ _ e]; exact slot_refl _
  refine ⟨⟨sim.below.alloc sim.below.size _, ?_, ?_, sim.frz, ?_, ?_, fun g p hp => (sim.glob g p hp).monoNo ev⟩, ev⟩
  · intro c β' h
    rw [size_alloc]
    by_cases e : c = b
    · subst e
      rw [mput_eq] at h
      injection h with h
      subst h
      exact ⟨sim.below.size, by omega, fun hf => absurd (sim.frzlt _ hf) (by omega)⟩
    · rw [mput_ne _ _ e] at h
      obtain ⟨a1, a2, a3⟩ := sim.live c β' h
      exact ⟨a1, by omega, a3⟩
  · intro c c' β' h h'
    by_cases e : c = b <;> by_cases e' : c' = b
    · rw [e, e']
    · subst e
      rw [mput_eq] at h
      rw [mput_ne _ _ e'] at h'
      injection h with h
      subst h
      exact absurd (sim.live _ _ h').2.1 (by omega)
    · subst e'
      rw [mput_eq] at h'
      rw [mput_ne _ _ e] at h
      injection h' with h'
      subst h'
      exact absurd (sim.live _ _ h).2.1 (by omega)
    · rw [mput_ne _ _ e] at h
      rw [mput_ne _ _ e'] at h'
      exact sim.inj c c' β' h h'
  · intro x hx
    rw [size_alloc]
    have := sim.frzlt x hx
    omega
  · intro c k' hk' hnu
    rw [Hp.set_f hk] at hk'
    by_cases e : c = b
    · subst e
      rw [if_pos rfl] at hk'
      injection hk' with hk'
      subst hk'
      exact .inl ⟨w.heap.size, mput_eq _ _ _, cs', T, heap_push_eq _ _, h1, h2, fun i hi j hj => by
        obtain ⟨v, hv, hr⟩ := h3 i hi j hj
        exact ⟨v, hv, hr.mono ev⟩⟩
    · rw [if_neg e] at hk'
      rw [mput_ne _ _ e] at hnu ⊢
      rcases sim.blk c k' hk' hnu with ⟨β', hm', hok⟩ | hv
      case inr => exact .inr (hv.mono ev fun β e => heap_push_lt _ _ (sim.live _ _ (at_mp e)).2.1)
      exact .inl ⟨β', hm', hok.mono ev (heap_push_lt _ _ (sim.live _ _ (at_live hm')).2.1)⟩
theorem Sim.bump (sim : Sim gl A w0 F m w H) {b : Nat} {k : Blk} (hk : H.f b = some k) (hnu : m b ≠ .unborn) (hnm : ∀ β, m b ≠ .mp β) :
    ∃ s', Sim gl A w0 F (mput m b s') w (H.set b ⟨k.g + 1, k.sz, k.xs⟩) ∧ Ev F m w F (mput m b s') w ∧
      ((∃ β, m b = .live β k.sz k.g ∧ s' = .live β k.sz (k.g + 1)) ∨ (m b = .virt k.g ∧ k.xs = [] ∧ s' = .virt (k.g + 1))) := by
  have main : ∀ s', (∀ β, s'.at = some β → (m b).at = some β) → (match m b with
      | .unborn => True
      | .dead => s' = .dead
      | .virt g => s' = .dead ∨ (∃ g', s' = .virt g' ∧ g ≤ g') ∨ ∃ β' sz' g', s' = .live β' sz' g' ∧ g < g'
      | .live β sz g => s' = .dead ∨ ∃ β' g', s' = .live β' sz g' ∧ g ≤ g' ∧ (g = g' → β = β')
      | .mp β => s' = .dead ∨ s' = .mp β) → s' ≠ .unborn →
      ((∃ β, m b = .live β k.sz k.g ∧ BlkOk F m w β k ∧ s' = .live β k.sz (k.g + 1)) ∨ (m b = .virt k.g ∧ k.xs = [] ∧ s' = .virt (k.g + 1))) →
      Sim gl A w0 F (mput m b s') w (H.set b ⟨k.g + 1, k.sz, k.xs⟩) ∧ Ev F m w F (mput m b s') w := by
    intro s' hl hsl hsu hcase
    have live' : ∀ c β', (mput m b s' c).at = some β' → (m c).at = some β' := by
      intro c β' h
      by_cases e : c = b
      · subst e
        rw [mput_eq] at h
        exact hl _ h
      · rw [mput_ne _ _ e] at h
        exact h
    have ev : Ev F m w F (mput m b s') w := by
      refine ⟨Nat.le_refl _, fun _ h => h, sim.fnl, fun _ _ _ => rfl, fun x ⟨c, hc⟩ => ?_, fun _ _ => rfl, fun c => ?_, sim.liv, fun _ h => .inl h⟩
      · exact .inl ⟨c, live' c x hc⟩
      · by_cases e : c = b
        · subst e
          rw [mput_eq]
          exact hsl
        · rw [mput_ne _ _ e]; exact slot_refl _
    refine ⟨⟨sim.below, fun c β h => ?_, fun c c' β h h' => ?_, sim.frz, sim.frzlt, fun c k' hk' hnu => ?_, fun g p hp => (sim.glob g p hp).monoNo ev⟩, ev⟩
    · exact sim.live c β (live' c β h)
    · exact sim.inj c c' β (live' c β h) (live' c' β h')
    · rw [Hp.set_f hk] at hk'
      by_cases e : c = b
      · subst e
        rw [if_pos rfl] at hk'
        injection hk' with hk'
        subst hk'
        rw [mput_eq]
        rcases hcase with ⟨β, _, hok, rfl⟩ | ⟨_, hxs, rfl⟩
        · exact .inl ⟨β, rfl, hok.mono ev rfl⟩
        · exact .inr (.inl ⟨rfl, hxs⟩)
      · rw [if_neg e] at hk'
        rw [mput_ne _ _ e] at hnu ⊢
        rcases sim.blk c k' hk' hnu with ⟨β', hm', hok⟩ | hv
        case inr => exact .inr (hv.mono ev fun _ _ => rfl)
        exact .inl ⟨β', hm', hok.mono ev rfl⟩
  rcases sim.blk2 b k hk hnu hnm with ⟨β, hm, hok⟩ | ⟨hm, hxs⟩
  · obtain ⟨s1, e1⟩ := main (.live β k.sz (k.g + 1)) (fun β' h => by injection h with h; subst h; exact at_live hm) (by rw [hm]; exact .inr ⟨_, _, rfl, by omega, fun _ => rfl⟩) (by simp) (.inl ⟨β, hm, hok, rfl⟩)
    exact ⟨_, s1, e1, .inl ⟨β, hm, rfl⟩⟩
  · obtain ⟨s1, e1⟩ := main (.virt (k.g + 1)) (fun β' h => by cases h) (by rw [hm]; exact .inr (.inl ⟨_, rfl, by omega⟩)) (by simp) (.inr ⟨hm, hxs, rfl⟩)
    exact ⟨_, s1, e1, .inr ⟨hm, hxs, rfl⟩⟩
theorem rowWrite_get (cur : Array Value) (vs : List Value) (o : Nat) (h : o + vs.length ≤ cur.size) (k : Nat) :
    ((cur.toList.take o ++ vs ++ cur.toList.drop (o + vs.length)).toArray)[k]? = if o ≤ k ∧ k < o + vs.length then vs[k - o]? else cur[k]? := by
  simp only [List.getElem?_toArray]
  have e1 : (cur.toList.take o).length = o := by simp; omega
  by_cases h1 : k < o
  · rw [if_neg (by omega), List.append_assoc, List.getElem?_append_left (by omega), List.getElem?_take_of_lt h1, Array.getElem?_toList]
  · by_cases h2 : k < o + vs.length
    · rw [if_pos (by omega), List.append_assoc, List.getElem?_append_right (by omega), List.getElem?_append_left (by omega), e1]
    · rw [if_neg (by omega), List.getElem?_append_right (by simp; omega), List.getElem?_drop, Array.getElem?_toList]
      congr 1
      simp
      omega
theorem rowWrite_size (cur : Array Value) (vs : List Value) (o : Nat) (h : o + vs.length ≤ cur.size) : ((cur.toList.take o ++ vs ++ cur.toList.drop (o + vs.length)).toArray).size = cur.size := by
  simp; omega
theorem mput_same {m : Nat → Slot} {b : Nat} {s : Slot} (h : m b = s) : mput m b s = m := by
  funext c
  by_cases e : c = b
  · subst e; rw [mput_eq, h]
  · exact mput_ne _ _ e
theorem ok_store (sim : Sim gl A w0 F m w H) (hub : ∀ b, H.n ≤ b → m b = .unborn) {t : TypeId} {x v : Operand} {rx rv : RO} {n : Nat} {r : Option PV} {H' : Hp} (ho : o.op = .store t x v) (hn : szOf P t = some n) (hx : roOf x = some rx) (hv : roOf v = some rv)
    (he : ERel F m w a env (rx.reads ++ rv.reads)) (hp : stepE (RO.ev gl env) H (.store n rx rv) = some (r, H')) : EOk P gl A w0 F m w a o r H' := by
  simp only [stepE, Option.bind_eq_bind, Option.bind_eq_some_iff] at hp
  obtain ⟨q, hq, d, hd, hp⟩ := hp
  obtain ⟨e1, e2⟩ := he.app
  have hrd := RO.rel sim hx e1 hd
  have hrq := RO.rel sim hv e2 hq
  split at hp
  · rename_i b g i off
    simp only [Option.bind_eq_some_iff] at hp
    obtain ⟨k, hk, hp⟩ := hp
    split at hp
    · rename_i hc
      simp only [Option.bind_eq_some_iff, Option.pure_def, Option.some.injEq, Prod.mk.injEq] at hp
      obtain ⟨xs', hxs', rfl, rfl⟩ := hp
      obtain ⟨hf, hg⟩ := Hp.blk_some hk
      obtain ⟨β, hm, ⟨cs, T, h1, h2, h3, h4⟩, hev⟩ := ptr_at sim hrd hf hg
      obtain ⟨vs, vr⟩ := hrq.size
      -- the element and its new form
      unfold putAt at hxs'
      simp only [Option.bind_eq_bind, Option.bind_eq_some_iff] at hxs'
      obtain ⟨e, he', hxs'⟩ := hxs'
      obtain ⟨hi, rfl⟩ := List.getElem?_eq_some_iff.1 he'
      have hel := h3 _ (List.getElem_mem hi)
      have hnew : ∃ e', xs' = k.xs.set i e' ∧ e'.cells = splice (k.xs[i]).cells off q.cells ∧ off + q.cells.length ≤ (k.xs[i]).cells.length := by
        split at hxs'
        · rename_i h
          injection hxs' with hxs'
          obtain ⟨rfl, hl⟩ := h
          exact ⟨q, hxs'.symm, by simp [splice, hl], by omega⟩
        · split at hxs'
          · rename_i h
            injection hxs' with hxs'
            exact ⟨_, hxs'.symm, rfl, h⟩
          · cases hxs'
      obtain ⟨e', rfl, hcells, hfit⟩ := hnew
      have hlo : i * k.sz + k.sz ≤ cs.size := by
        have : (i + 1) * k.sz ≤ k.xs.length * k.sz := Nat.mul_le_mul_right _ hi
        rw [Nat.add_mul, Nat.one_mul] at this
        omega
      have hvl : (a.eval v).cells.toList.length = q.cells.length := by simpa using vs
      have hone : ∀ u ∈ (a.eval v).cells.toList, u.oneCell' = true := by
        intro u hu
        obtain ⟨j, hj, rfl⟩ := List.mem_iff_getElem.1 hu
        have hj2 : j < q.cells.length := by rw [← hvl]; exact hj
        rw [Array.getElem_toList]
        exact (vr j (by simpa using hj) hj2).one (List.all_eq_true.1 hc.2 _ (List.getElem_mem hj2))
      have hst := run_storeCells_at P β (i * k.sz + off) T (a.eval v).cells.toList 0 cs w h1 (by omega) hone
      have hrun : (execOp a.eval o).run P w = .ok .skip (w.setRow β (cs.toList.take (i * k.sz + off) ++ (a.eval v).cells.toList ++ cs.toList.drop (i * k.sz + off + (a.eval v).cells.toList.length)).toArray) := by
        simp only [execOp, ho, hev, Instr.storeAt, Instr.sureAddr, storeVar, Sem.run_bind, Sem.run_pure, Result.andThen_ok, run_sizeOf' hn w, show ¬ ((a.eval v).cells.size ≠ n) by omega, if_false, hst, Nat.add_zero]
      obtain ⟨s, ev⟩ := sim.write (g' := k.g) (xs' := k.xs.set i e') hf hm h1 (rowWrite_size cs (a.eval v).cells.toList (i * k.sz + off) (by omega)) (Nat.le_refl _) (by rw [rowWrite_size cs (a.eval v).cells.toList (i * k.sz + off) (by omega)]; simpa using h2)
        (by
          intro y hy
          rcases List.mem_or_eq_of_mem_set hy with hy | rfl
          · exact h3 _ hy
          · rw [hcells, splice_length hfit]; exact hel)
        (by
          intro i' hi' j hj
          simp only [List.length_set] at hi'
          by_cases ei : i' = i
          · subst ei
            simp only [List.getElem_set_self] at hj ⊢
            rw [rowWrite_get cs (a.eval v).cells.toList (i' * k.sz + off) (by omega)]
            have hjs : j < k.sz := by rw [hcells, splice_length hfit] at hj; omega
            have hg2 := splice_get hfit j
            rw [← hcells, List.getElem?_eq_getElem hj] at hg2
            by_cases hin : off ≤ j ∧ j < off + q.cells.length
            · rw [if_pos hin] at hg2
              rw [if_pos (by omega)]
              obtain ⟨h5, h6⟩ := List.getElem?_eq_some_iff.1 hg2.symm
              refine ⟨(a.eval v).cells[j - off]'(by omega), ?_, ?_⟩
              · rw [show i' * k.sz + j - (i' * k.sz + off) = j - off by omega, Array.getElem?_toList]
                exact Array.getElem?_eq_getElem _
              · rw [← h6]; exact vr _ _ h5
            · rw [if_neg hin] at hg2
              rw [if_neg (by omega)]
              obtain ⟨h5, h6⟩ := List.getElem?_eq_some_iff.1 hg2.symm
              obtain ⟨u, hu, hur⟩ := h4 i' hi j h5
              exact ⟨u, hu, by rw [← h6]; exact hur⟩
          · have hne : (k.xs.set i e')[i']'(by simpa using hi') = k.xs[i'] := List.getElem_set_ne (Ne.symm ei) _
            have hj' : j < (k.xs[i']).cells.length := by rw [← hne]; exact hj
            have hj2 : j < k.sz := by rw [← h3 _ (List.getElem_mem hi')]; exact hj'
            rw [rowWrite_get cs (a.eval v).cells.toList (i * k.sz + off) (by omega)]
            have hap : ¬ (i * k.sz + off ≤ i' * k.sz + j ∧ i' * k.sz + j < i * k.sz + off + (a.eval v).cells.toList.length) := by
              rcases Nat.lt_or_gt_of_ne ei with h | h
              · have : (i' + 1) * k.sz ≤ i * k.sz := Nat.mul_le_mul_right _ h
                rw [Nat.add_mul] at this
                omega
              · have : (i + 1) * k.sz ≤ i' * k.sz := Nat.mul_le_mul_right _ h
                rw [Nat.add_mul] at this
                omega
            rw [if_neg hap]
            obtain ⟨u, hu, hur⟩ := h4 i' hi' j hj'
            exact ⟨u, hu, by simp only [hne]; exact hur⟩)
      rw [mput_same hm] at s ev
      exact ⟨undef, _, F, m, .inr ⟨hrun, rfl⟩, s, ev, fun p hp => by simp at hp, fun c hc' => hub c hc'⟩
    · cases hp
  · cases hp
end
end Go.Vm
namespace Go.Vm
open Go Go.RowKit
section
variable {P : Program} {gl : Nat → Option PV} {A : Nat → Prop} {w0 : World} {F : Nat → Prop} {m : Nat → Slot} {w : World} {G H : Hp} {a : Act} {env : Env} {o : Oper} {p : PV} {own : Bool}
structure Shows (F : Nat → Prop) (m : Nat → Slot) (w : World) (v : Value) (ys : List PV) (news : List Value) : Prop where
  shape : ∃ A c, v = .slice A ys.length c ∧ (ys = [] ∨ ∃ ad, A = some ad ∧ ∀ j u, news[j]? = some u → w.cell? (ad.add j) = some u)
  rel : CsRel F m w news.toArray (flat ys)
theorem one_get {z : PV} (h : z.one = true) (j : Nat) (hj : j < z.cells.length) : z.cells[j] = z := by
  have hc : z.cells = [z] := by cases z <;> first | rfl | (exact absurd h (by simp [PV.one]))
  simp only [hc]
  have : j = 0 := by rw [hc] at hj; simpa using hj
  subst this
  rfl
theorem shows_row {ys : List PV} {s : Nat} (hs : ∀ y ∈ ys, y.cells.length = s) (f : Nat → Nat → Value) (hr : ∀ i (h1 : i < ys.length) j (h2 : j < (ys[i]).cells.length), VRel F w m (f i j) (ys[i]).cells[j]) :
    ∃ news : List Value, CsRel F m w news.toArray (flat ys) ∧ ∀ k u, news[k]? = some u → k < ys.length * s ∧ 0 < s ∧ u = f (k / s) (k % s) := by
  refine ⟨(List.range (ys.length * s)).map fun k => f (k / s) (k % s), .of_get ?_ ?_, ?_⟩
  · simp [flat_length hs]
  · intro k q hq
    obtain ⟨hk, _⟩ := List.getElem?_eq_some_iff.1 hq
    rw [flat_length hs] at hk
    have h0 : 0 < s := by rcases Nat.eq_zero_or_pos s with e | e; (subst e; simp at hk); exact e
    have hi : k / s < ys.length := Nat.div_lt_of_lt_mul (by rw [Nat.mul_comm]; exact hk)
    have hj : k % s < s := Nat.mod_lt _ h0
    have hg := flat_get hs (k / s) hi (k % s) hj
    rw [show k / s * s + k % s = k by rw [Nat.mul_comm]; exact Nat.div_add_mod k s, hq] at hg
    obtain ⟨h2, h3⟩ := List.getElem?_eq_some_iff.1 hg.symm
    refine ⟨f (k / s) (k % s), by simp [hk], ?_⟩
    rw [← h3]
    exact hr _ hi _ h2
  · intro k u hu
    obtain ⟨hk, rfl⟩ := List.getElem?_eq_some_iff.1 hu
    simp at hk
    refine ⟨hk, ?_, by simp⟩
    rcases Nat.eq_zero_or_pos s with e | e
    · subst e; simp at hk
    · exact e
theorem elems_shows (sim : Sim gl A w0 F m w G) (hG : ∀ b k, H.f b = some k → G.f b = some k) {v : Value} {x : PV} {ys : List PV} {s : Nat} (hv : VRel F w m v x) (he : elems H x = some ys) (hs : ∀ y ∈ ys, y.cells.length = s) :
    ∃ news, Shows F m w v ys news := by
  have of_frozen : ∀ (ad : Addr) (c s' : Nat) (cs : Nat → Nat → Value), v = .slice (some ad) ys.length c → (∀ e ∈ ys, e.cells.length = s') → (∀ i, i < ys.length → ∀ j, j < s' → w.cell? (ad.add (i * s' + j)) = some (cs i j)) →
      (∀ i (h1 : i < ys.length) j (h2 : j < (ys[i]).cells.length), VRel F w m (cs i j) (ys[i]).cells[j]) → ∃ news, Shows F m w v ys news := by
    intro ad c s' cs hv' hz hcell h
    obtain ⟨news, h1, h2⟩ := shows_row hz cs h
    refine ⟨news, ⟨some ad, c, hv', .inr ⟨ad, rfl, fun k u hu => ?_⟩⟩, h1⟩
    obtain ⟨hk, h0, rfl⟩ := h2 k u hu
    have := hcell (k / s') (Nat.div_lt_of_lt_mul (by rw [Nat.mul_comm]; exact hk)) (k % s') (Nat.mod_lt _ h0)
    rwa [show k / s' * s' + k % s' = k by rw [Nat.mul_comm]; exact Nat.div_add_mod k s'] at this
  unfold elems at he
  split at he
  · injection he with he
    subst he
    cases hv with
    | slnil As c hc => exact ⟨[], ⟨As, c, rfl, by cases As with | none => exact .inl rfl | some ad => exact .inr ⟨ad, rfl, fun k u hu => by simp at hu⟩⟩, by simp [flat], fun j h1 => absurd h1 (by simp)⟩
    | sl ad c s' _ cs hF hc hm hz hcell h => exact of_frozen ad c s' cs rfl hz hcell (fun i h1 j h2 => (h i h1 j h2).weak m)
  · injection he with he
    subst he
    cases hv with
    | litnil => exact ⟨[], ⟨none, 0, rfl, .inl rfl⟩, by simp [flat], fun j h1 => absurd h1 (by simp)⟩
    | lit ad s' _ cs hF hm hz hcell h => exact of_frozen ad _ s' cs rfl hz hcell h
  · rename_i b g off len
    simp only [Option.bind_eq_bind, Option.bind_eq_some_iff] at he
    obtain ⟨k, hk, he⟩ := he
    obtain ⟨hf, hg⟩ := Hp.blk_some hk
    split at he
    · rename_i hle
      injection he with he
      subst he
      cases hv with
      | ref Ad c _ _ _ _ h =>
        have hnu : m b ≠ .unborn := fun e => by rw [e] at h; exact h
        rcases sim.blk2 b k (hG _ _ hf) hnu (fun _ e => by rw [e] at h; exact h) with ⟨β, hm, ⟨cs, T, h1, h2, h3, h4⟩⟩ | ⟨hvi, hxs⟩
        case inr =>
          rw [hvi] at h
          obtain ⟨rfl, rfl⟩ := h.2 hg.symm
          refine ⟨[], ⟨Ad, 0, by simp, ?_⟩, by simp [flat], fun j h1 => absurd h1 (by simp)⟩
          cases Ad with
          | none => exact .inl rfl
          | some ad => exact .inr ⟨ad, rfl, fun k u hu => by simp at hu⟩
        rw [hm] at h
        obtain ⟨rfl, _⟩ := h.2 hg.symm
        have hlen : ((k.xs.drop off).take len).length = len := by simp; omega
        refine of_frozen ⟨β, off * k.sz, none⟩ c k.sz (fun i j => cs.getD ((off + i) * k.sz + j) undef) (by rw [hlen]) (fun e he => h3 e (List.mem_of_mem_drop (List.mem_of_mem_take he))) ?_ ?_
        · intro i hi j hj
          rw [hlen] at hi
          obtain ⟨u, hu, _⟩ := h4 (off + i) (by omega) j (by rw [h3 _ (List.getElem_mem _)]; exact hj)
          rw [add_plain', cell_row h1, show off * k.sz + (i * k.sz + j) = (off + i) * k.sz + j by rw [Nat.add_mul]; omega, hu, Array.getD_eq_getD_getElem?, hu]
          rfl
        · intro i hi j hj
          rw [hlen] at hi
          have e : ((k.xs.drop off).take len)[i]'(by rw [hlen]; exact hi) = k.xs[off + i]'(by omega) := by simp
          simp only [e] at hj ⊢
          obtain ⟨u, hu, hr⟩ := h4 (off + i) (by omega) j hj
          rw [Array.getD_eq_getD_getElem?, hu]
          exact hr
    · cases he
  · rename_i b g i off len
    simp only [Option.bind_eq_bind, Option.bind_eq_some_iff] at he
    obtain ⟨k, hk, e, hel, he⟩ := he
    obtain ⟨hf, hg⟩ := Hp.blk_some hk
    obtain ⟨hi, rfl⟩ := List.getElem?_eq_some_iff.1 hel
    split at he
    · rename_i hle
      injection he with he
      subst he
      cases hv with
      | cref Ad c _ _ _ _ _ h =>
        have hnu : m b ≠ .unborn := fun e => by rw [e] at h; exact h
        rcases sim.blk2 b k (hG _ _ hf) hnu (fun _ e => by rw [e] at h; exact h) with ⟨β, hm, ⟨cs, T, h1, h2, h3, h4⟩⟩ | ⟨hvi, hxs⟩
        case inr => rw [hvi] at h; exact h.elim
        rw [hm] at h
        obtain ⟨rfl, _⟩ := h.2 hg.symm
        have hlen : (((k.xs[i]).cells.drop off).take len).length = len := by simp; omega
        have hone : ∀ e ∈ ((k.xs[i]).cells.drop off).take len, e.one = true := fun e he => List.all_eq_true.1 hle.2 e he
        have hc1 : ∀ e ∈ ((k.xs[i]).cells.drop off).take len, e.cells = [e] := fun e he => by
          have := hone e he
          cases e <;> first | rfl | simp [PV.one] at this
        refine of_frozen ⟨β, i * k.sz + off, none⟩ c 1 (fun q j => cs.getD (i * k.sz + (off + q)) undef) (by rw [hlen]) (fun e he => by rw [hc1 e he]; rfl) ?_ ?_
        · intro q hq j hj
          rw [hlen] at hq
          obtain rfl : j = 0 := by omega
          obtain ⟨u, hu, _⟩ := h4 i hi (off + q) (by omega)
          rw [add_plain', cell_row h1, show i * k.sz + off + (q * 1 + 0) = i * k.sz + (off + q) by omega, hu, Array.getD_eq_getD_getElem?, hu]
          rfl
        · intro q hq j hj
          rw [hlen] at hq
          have e1 : (((k.xs[i]).cells.drop off).take len)[q]'(by rw [hlen]; exact hq) = (k.xs[i]).cells[off + q]'(by omega) := by simp
          obtain ⟨u, hu, hr⟩ := h4 i hi (off + q) (by omega)
          have hj0 : j < 1 := by rw [hc1 _ (List.getElem_mem _)] at hj; simpa using hj
          rw [one_get (hone _ (List.getElem_mem _)) j hj, e1, show i * k.sz + (off + q) = i * k.sz + (off + q) from rfl, Array.getD_eq_getD_getElem?, hu]
          exact hr
    · cases he
  · cases he
end
end Go.Vm
namespace Go.Vm
open Go Go.RowKit
section
variable {P : Program} {gl : Nat → Option PV} {A : Nat → Prop} {w0 : World} {F : Nat → Prop} {m : Nat → Slot} {w : World} {G H : Hp} {a : Act} {env : Env} {o : Oper} {p : PV} {own : Bool}
theorem Sim.add (sim : Sim gl A w0 F m w H) (hub : ∀ b, H.n ≤ b → m b = .unborn) (l : List Blk) : Sim gl A w0 F m w (H.add l) := by
  refine ⟨sim.below, sim.live, sim.inj, sim.frz, sim.frzlt, fun b k hk hnu => ?_, sim.glob⟩
  refine sim.blk b k ?_ hnu
  by_cases h : b < H.n
  · simpa [Hp.add, h] using hk
  · exact absurd (hub b (by omega)) hnu
theorem run_append_room' (t ty e : TypeId) (i : TypeInfo) (ht : P.underlying t = some (.slice e)) (hi : P.info? e = some i) (g n cap : Nat) (cur : Array Value) (T : TypeId) (hg : w.heap[g]? = some (.cells cur T (0, 0)))
    (ad : Addr) (k c : Nat) (news : List Value) (hl : news.length = k * i.size) (hnews : ∀ j v, news[j]? = some v → w.cell? (ad.add j) = some v) (h1 : ∀ u ∈ news, u.oneCell' = true) (hroom : n + k ≤ cap) (hfit : n * i.size + news.length ≤ cur.size) :
    (Builtin.append_ #[t, t] ty #[.slice (some ⟨g, 0, none⟩) n cap, .slice (some ad) k c]).run P w =
      .ok (.slice (some ⟨g, 0, none⟩) (n + k) cap) (w.setRow g (cur.toList.take (n * i.size) ++ news ++ cur.toList.drop (n * i.size + news.length)).toArray) := by
  have hL := run_loadCells_list (P := P) w ad news hnews
  rw [hl] at hL
  have hst := run_storeCells_at P g (n * i.size) T news 0 cur w hg (by omega) h1
  have ha : (⟨g, 0, none⟩ : Addr).add (n * i.size) = ⟨g, n * i.size, none⟩ := by rw [add_plain', Nat.zero_add]
  simp [Builtin.append_, run_underlying ht, Builtin.lenOf, Builtin.firstCells, sizeOf, typeInfo, hi, hL, hroom, ha, hst]
theorem blk_of_flat' {cs : Array Value} {xs : List PV} {s : Nat} (hs : ∀ e ∈ xs, e.cells.length = s) (hle : xs.length * s ≤ cs.size) (h : ∀ (k : Nat) (q : PV), (flat xs)[k]? = some q → ∃ v, cs[k]? = some v ∧ VRel F w m v q) :
    ∀ i (hi : i < xs.length) j (hj : j < (xs[i]).cells.length), ∃ v, cs[i * s + j]? = some v ∧ VRel F w m v (xs[i]).cells[j] := fun i hi j hj => by
  have hj' : j < s := by rw [← hs _ (List.getElem_mem hi)]; exact hj
  exact h _ _ (by rw [flat_get hs i hi j hj']; exact List.getElem?_eq_getElem hj)
theorem flat_append (xs ys : List PV) : flat (xs ++ ys) = flat xs ++ flat ys := by simp [flat]
theorem one_of_rel {news : List Value} {q : List PV} (h : CsRel F m w news.toArray q) (ho : ∀ x ∈ q, x.one = true) : ∀ u ∈ news, u.oneCell' = true := by
  intro u hu
  obtain ⟨j, hj, rfl⟩ := List.mem_iff_getElem.1 hu
  have e : news.length = q.length := by simpa using h.1
  have hj2 : j < q.length := by omega
  have := h.2 j (by simpa using hj) hj2
  simp only [List.getElem_toArray] at this
  exact this.one (ho _ (List.getElem_mem hj2))
theorem flat_ones {ys : List PV} (h : ∀ y ∈ ys, y.cells.all PV.one = true) : ∀ x ∈ flat ys, x.one = true := by
  intro x hx
  obtain ⟨y, hy, hxy⟩ := List.mem_flatMap.1 hx
  exact List.all_eq_true.1 (h y hy) x hxy
theorem grown_rel {olds news : List Value} {xs ys : List PV} {s N : Nat} {z : Array Value} (ho : CsRel F m w olds.toArray (flat xs)) (hn : CsRel F m w news.toArray (flat ys)) (hxs : ∀ y ∈ xs, y.cells.length = s) (hys : ∀ y ∈ ys, y.cells.length = s)
    (zs : z.size = s) : ((olds.toArray ++ news.toArray ++ Builtin.zeroCells z N).size = (xs.length + ys.length + N) * s) ∧
      ∀ i (hi : i < (xs ++ ys).length) j (hj : j < ((xs ++ ys)[i]).cells.length), ∃ v, (olds.toArray ++ news.toArray ++ Builtin.zeroCells z N)[i * s + j]? = some v ∧ VRel F w m v ((xs ++ ys)[i]).cells[j] := by
  have e1 : olds.length = xs.length * s := by have := ho.1; rw [flat_length hxs] at this; simpa using this
  have e2 : news.length = ys.length * s := by have := hn.1; rw [flat_length hys] at this; simpa using this
  have hsz : (olds.toArray ++ news.toArray ++ Builtin.zeroCells z N).size = (xs.length + ys.length + N) * s := by
    rw [Array.size_append, Array.size_append, size_zeroCells, zs, Nat.add_mul, Nat.add_mul]
    simp [e1, e2]
  refine ⟨hsz, blk_of_flat' (by intro e he; rcases List.mem_append.1 he with h | h; exact hxs e h; exact hys e h) (by rw [hsz, List.length_append]; exact Nat.mul_le_mul_right _ (by omega)) (fun k q hq => ?_)⟩
  rw [flat_append] at hq
  have f1 : (flat xs).length = olds.length := by rw [flat_length hxs, e1]
  have f2 : (flat ys).length = news.length := by rw [flat_length hys, e2]
  by_cases h : k < olds.length
  · rw [List.getElem?_append_left (by omega)] at hq
    obtain ⟨v, hv, hr⟩ := ho.get hq
    exact ⟨v, by rw [Array.append_assoc, Array.getElem?_append_left (by simpa using h)]; exact hv, hr⟩
  · rw [List.getElem?_append_right (by omega)] at hq
    obtain ⟨v, hv, hr⟩ := hn.get hq
    obtain ⟨hk, _⟩ := List.getElem?_eq_some_iff.1 hq
    refine ⟨v, ?_, hr⟩
    rw [Array.append_assoc, Array.getElem?_append_right (by simp; omega), Array.getElem?_append_left (by simp; omega)]
    rw [f1] at hv
    simpa using hv
theorem ok_append (sim : Sim gl A w0 F m w H) (hub : ∀ b, H.n ≤ b → m b = .unborn) {c : Call} {t e : TypeId} {s x : Operand} {rs rx : RO} {sz : Nat} {z : PV} {r : Option PV} {H' : Hp} (ho : o.op = .call c) (hcal : c.callee = .builtin .append) (hargs : c.args.toList = [s, x])
    (hts : c.argTypes.toList = [t, t]) (hu : P.underlying t = some (.slice e)) (hsz : szOf P e = some sz) (hz : zeroOf P e = some z) (hzs : z.cells.length = sz) (hb : (P.info? e).any (fun i => decide (i.bytes ≤ 1048576)) = true)
    (hs : roOf s = some rs) (hx : roOf x = some rx) (he : ERel F m w a env (rs.reads ++ rx.reads)) (hp : stepE (RO.ev gl env) H (.append sz z rs rx) = some (r, H')) : EOk P gl A w0 F m w a o r H' := by
  simp only [stepE, Option.bind_eq_bind, Option.bind_eq_some_iff] at hp
  obtain ⟨q, hq, qx, hqx, ys, hys, hp⟩ := hp
  obtain ⟨e1, e2⟩ := he.app
  have hrs := RO.rel sim hs e1 hq
  have hrx := RO.rel sim hx e2 hqx
  split at hp
  rotate_left
  · cases hp
  · · rename_i hc
      simp only [Bool.and_eq_true, decide_eq_true_eq] at hc
      obtain ⟨hall, hbound⟩ := hc
      have hys1 : ∀ y ∈ ys, y.cells.length = sz := fun y hy => by have := List.all_eq_true.1 hall y hy; simp only [Bool.and_eq_true, beq_iff_eq] at this; exact this.1
      have hys2 : ∀ y ∈ ys, y.cells.all PV.one = true := fun y hy => by have := List.all_eq_true.1 hall y hy; simp only [Bool.and_eq_true, beq_iff_eq] at this; exact this.2
      obtain ⟨news, ⟨⟨Ax, cx, hvx, hcx⟩, hnr⟩⟩ := elems_shows (s := sz) sim (fun b k h => h) hrx hys hys1
      have hnl : news.length = ys.length * sz := by have := hnr.1; rw [flat_length hys1] at this; simpa using this
      -- the types
      unfold zeroOf at hz
      simp only [Option.bind_eq_some_iff] at hz
      obtain ⟨ie, hie, zv, hzv, hzz⟩ := hz
      unfold szOf at hsz
      rw [hie] at hsz hb
      simp only [Option.map_some, Option.some.injEq, Option.any_some, decide_eq_true_eq] at hsz hb
      subst hsz
      have zs : zv.cells.size = ie.size := by rw [(ofZero_rel (F := F) (m := m) (w := w) hzz).size.1]; exact hzs
      have hrun : ∀ {v w'}, (Builtin.append_ #[t, t] o.type #[a.eval s, a.eval x]).run P w = .ok v w' → (execOp a.eval o).run P w = .ok (.value v) w' := by
        intro v w' h
        have h1 : c.args.map a.eval = #[a.eval s, a.eval x] := Array.toList_inj.1 (by simp [hargs])
        have h2 : c.argTypes = #[t, t] := Array.toList_inj.1 (by simp [hts])
        simp only [execOp, ho, resolve, hcal, Sem.run_bind, Sem.run_pure, Result.andThen_ok, invoke, builtin, h1, h2, h]
      rw [hvx] at hrun
      split at hp
      · -- a frozen slice without room
        rename_i l
        split at hp
        · rename_i hl0
          simp only [Bool.and_eq_true, Bool.not_eq_true', List.isEmpty_eq_false_iff] at hl0
          obtain ⟨hl, hne⟩ := hl0
          rcases hcx with hcx | ⟨ad, rfl, hnews⟩
          · exact absurd hcx hne
          have hy0 : 0 < ys.length := by rcases Nat.eq_zero_or_pos ys.length with h | h; exact absurd (List.eq_nil_of_length_eq_zero h) hne; exact h
          simp only [Option.some.injEq, Prod.mk.injEq] at hp
          obtain ⟨rfl, rfl⟩ := hp
          simp only [PV.lenP, Option.getD_some] at hbound
          have hl1 : ∀ y ∈ l, y.cells.length = ie.size := fun y hy => by have := List.all_eq_true.1 hl y hy; simp only [Bool.and_eq_true, beq_iff_eq] at this; exact this.1
          have hfin : ∀ (olds : List Value) (N : Nat), CsRel F m w olds.toArray (flat l) → (Builtin.append_ #[t, t] o.type #[a.eval s, .slice (some ad) ys.length cx]).run P w =
              .ok (.slice (some ⟨w.heap.size, 0, none⟩) (l.length + ys.length) (grownCap w (l.length + ys.length) N e)) (w.drew.alloc (.cells (olds.toArray ++ news.toArray ++ Builtin.zeroCells zv.cells (grownCap w (l.length + ys.length) N e - (l.length + ys.length))) e)) →
              EOk P gl A w0 F m w a o (some (.ref H.n 0 0 (l.length + ys.length))) (H.add [⟨0, ie.size, l ++ ys⟩]) := by
            intro olds N hor hr
            obtain ⟨hs1, hs2⟩ := grown_rel (N := grownCap w (l.length + ys.length) N e - (l.length + ys.length)) hor hnr hl1 hys1 zs
            have hge := grownCap_ge w (l.length + ys.length) N e
            have hcm := grownCap_le_maxLen w (l.length + ys.length) N e (by simp only [maxLen]; omega)
            obtain ⟨sd, ed⟩ := (sim.add hub [⟨0, ie.size, l ++ ys⟩]).drew
            obtain ⟨s2, ev2⟩ := sd.alloc (olds.toArray ++ news.toArray ++ Builtin.zeroCells zv.cells (grownCap w (l.length + ys.length) N e - (l.length + ys.length))) e H.n (hub _ (Nat.le_refl _)) ⟨0, ie.size, l ++ ys⟩ (by simp [Hp.add])
              (by rw [hs1, List.length_append]; exact Nat.mul_le_mul_right _ (by omega)) (by intro y hy; rcases List.mem_append.1 hy with h | h; exact hl1 y h; exact hys1 y h)
              (fun i hi j hj => by obtain ⟨v, hv, hr⟩ := hs2 i hi j hj; exact ⟨v, hv, hr.mono ed⟩)
            refine ⟨_, _, F, _, .inl (hrun hr), s2, ed.trans ev2, ?_, fun b hb' => ?_⟩
            · intro p hp
              injection hp with hp
              subst hp
              refine .ref _ _ _ _ _ _ ?_
              rw [mput_eq]
              refine ⟨Nat.le_refl _, fun _ => ⟨by simp, hge, hcm, ?_⟩⟩
              unfold rowSize
              rw [heap_push_eq]
              simp only [Nat.zero_add]
              rw [hs1]
              exact Nat.mul_le_mul_right _ (by omega)
            · rw [mput_ne _ _ (by simp [Hp.add] at hb'; omega)]
              exact hub b (by simp [Hp.add] at hb'; omega)
          generalize hva : a.eval s = va at hrs
          rw [hva] at hfin
          obtain ⟨olds, ⟨⟨Al, cl, hvl, hcl⟩, hor⟩⟩ := elems_shows (s := ie.size) sim (fun b k h => h) hrs (ys := l) rfl hl1
          cases hrs with
          | litnil =>
            refine hfin [] 0 ⟨by simp [flat], fun j h1 => absurd h1 (by simp)⟩ ?_
            have hr := run_append_nil (P := P) w t o.type e ie zv hu hie hzv ad ys.length cx news hnl hnews hy0 (by omega) (by
              have : ys.length * ie.bytes ≤ 1048576 * 1048576 := Nat.mul_le_mul (by simp at hbound; omega) hb
              omega)
            simp only [List.length_nil, Nat.zero_add, List.nil_append, Array.empty_append]
            exact hr
          | lit lad s' _ cs hF hm hz' hcell h =>
            rcases hcl with hcl | ⟨ad', hA, holds⟩
            · subst hcl
              -- an empty literal that has an address
              have hoe : olds = [] := by have := hor.1; simp [flat] at this; exact this
              subst hoe
              refine hfin [] 0 hor ?_
              have hr := run_append_grow (P := P) w t o.type e ie zv hu hie hzv lad 0 0 [] (by simp) (by simp) ad ys.length cx news hnl hnews (by omega) (by omega) (by
                rw [Nat.zero_add]
                refine growslice_fits hy0 ?_
                have : ys.length * ie.bytes ≤ 1048576 * 1048576 := Nat.mul_le_mul (by simp at hbound; omega) hb
                omega)
              simpa using hr
            · injection hvl with hA' hlen hcap
              have hA2 : some lad = some ad' := hA'.trans hA
              injection hA2 with hA2
              subst hA2
              refine hfin olds l.length hor ?_
              exact run_append_grow (P := P) w t o.type e ie zv hu hie hzv lad l.length l.length olds (by have := hor.1; rw [flat_length hl1] at this; simpa using this) holds ad ys.length cx news hnl hnews (by omega) (by omega) (by
                refine growslice_fits (by omega) ?_
                have : (l.length + ys.length) * ie.bytes ≤ 1048576 * 1048576 := Nat.mul_le_mul hbound hb
                omega)
        · split at hp
          · -- nothing is appended
            rename_i hye0
            have hye := List.isEmpty_iff.1 hye0
            subst hye
            simp only [Option.some.injEq, Prod.mk.injEq] at hp
            obtain ⟨rfl, rfl⟩ := hp
            have hsrc := (show Src P ie.size t (.slice Ax 0 cx) 0 [] w from by
              cases Ax with
              | none => exact ⟨.inl ⟨e, hu⟩, fun _ => rfl, run_firstCells_none w _ 0 0 cx, run_firstCells_none w.drew _ 0 0 cx, by simp, fun _ h => by cases h⟩
              | some ad => exact Src.ofSlice w hu ad 0 cx [] (by simp) (fun j u hj => by simp at hj) (fun _ h => by cases h))
            generalize hva : a.eval s = va at hrs
            rw [hva] at hrun
            cases hrs with
            | litnil =>
              have hr := run_append_nothing (P := P) w t t o.type e ie hu hie none 0 0 (Nat.le_refl _) (.slice Ax 0 cx) hsrc
              refine ⟨_, _, F, m, .inl (hrun hr), sim, Ev.refl sim.fnl sim.liv, ?_, hub⟩
              intro p hp
              injection hp with hp
              subst hp
              exact .litnil
            | lit lad s' _ cs hF hm hz' hcell h =>
              have hr := run_append_nothing (P := P) w t t o.type e ie hu hie (some lad) l.length l.length (Nat.le_refl _) (.slice Ax 0 cx) hsrc
              refine ⟨_, _, F, m, .inl (hrun hr), sim, Ev.refl sim.fnl sim.liv, ?_, hub⟩
              intro p hp
              injection hp with hp
              subst hp
              exact .lit lad s' l cs hF hm hz' hcell h
          · cases hp
      · -- a row of the call's own
        rename_i b g len
        simp only [Option.bind_eq_some_iff] at hp
        obtain ⟨k, hk, hp⟩ := hp
        obtain ⟨hf, hg⟩ := Hp.blk_some hk
        split at hp
        · rename_i hc
          simp only [Option.some.injEq, Prod.mk.injEq] at hp
          obtain ⟨rfl, rfl⟩ := hp
          obtain ⟨rfl, hksz⟩ := hc
          simp only [PV.lenP, Option.getD_some] at hbound
          generalize hva : a.eval s = va at hrs
          rw [hva] at hrun
          cases hrs with
          | ref Ad cc _ _ _ _ h =>
            have hnu : m b ≠ .unborn := fun e => by rw [e] at h; exact h
            have hbn : ∀ b', H.n ≤ b' → b' ≠ b := by
              intro b' hb' e
              rw [e] at hb'
              have := H.wf b hb'
              rw [this] at hf
              cases hf
            rcases hcx with hcx | ⟨ad, rfl, hnews⟩
            · -- nothing is appended
              subst hcx
              obtain ⟨s', s2, ev2, hs'⟩ := sim.bump hf hnu (fun _ e => by rw [e] at h; exact h)
              rw [hksz, hg] at s2
              simp only [List.append_nil, List.length_nil, Nat.add_zero]
              have hle : k.xs.length ≤ cc := by
                rcases hs' with ⟨β, hm, _⟩ | ⟨hm, hxs, _⟩
                · rw [hm] at h; exact (h.2 hg.symm).2.1
                · rw [hxs]; exact Nat.zero_le _
              have hr := run_append_nothing (P := P) w t t o.type e ie hu hie Ad k.xs.length cc hle (.slice Ax 0 cx) (by
                cases Ax with
                | none =>
                  refine ⟨.inl ⟨e, hu⟩, fun _ => rfl, run_firstCells_none w _ 0 0 cx, run_firstCells_none w.drew _ 0 0 cx, by simp, fun _ h => by cases h⟩
                | some ad => exact Src.ofSlice w hu ad 0 cx [] (by simp) (fun j u hj => by simp at hj) (fun _ h => by cases h))
              refine ⟨_, _, F, _, .inl (hrun hr), s2, ev2, ?_, fun b' hb' => by rw [mput_ne _ _ (hbn b' hb')]; exact hub b' hb'⟩
              intro p hp
              injection hp with hp
              subst hp
              refine .ref _ _ _ _ _ _ ?_
              rw [mput_eq]
              rcases hs' with ⟨β, hm, rfl⟩ | ⟨hm, hxs, rfl⟩
              · rw [hm] at h
                obtain ⟨q1, q2, q3, q4⟩ := h.2 hg.symm
                exact ⟨by omega, fun _ => ⟨q1, q2, q3, q4⟩⟩
              · rw [hm] at h
                exact ⟨by omega, fun _ => h.2 hg.symm⟩
            have hne : ys ≠ [] ∨ ys = [] := by by_cases h : ys = [] <;> simp [h]
            rcases sim.blk2 b k hf hnu (fun _ e => by rw [e] at h; exact h) with ⟨β, hm, ⟨cs, T, h1, h2, h3, h4⟩⟩ | ⟨hvi, hxs⟩
            case inr =>
              rw [hvi] at h
              obtain ⟨hx0, hc0⟩ := h.2 hg.symm
              subst hc0
              rw [hx0] at hrun
              have hfin : ∀ N, (Builtin.append_ #[t, t] o.type #[.slice Ad 0 0, .slice (some ad) ys.length cx]).run P w =
                  .ok (.slice (some ⟨w.heap.size, 0, none⟩) (0 + ys.length) (grownCap w (0 + ys.length) N e)) (w.drew.alloc (.cells (#[] ++ news.toArray ++ Builtin.zeroCells zv.cells (grownCap w (0 + ys.length) N e - (0 + ys.length))) e)) →
                  EOk P gl A w0 F m w a o (some (.ref b (g + 1) 0 (k.xs.length + ys.length))) (H.set b ⟨g + 1, ie.size, k.xs ++ ys⟩) := by
                intro N hr
                rw [hxs]
                simp only [List.nil_append, List.length_nil]
                obtain ⟨hs1, hs2⟩ := grown_rel (olds := []) (xs := []) (N := grownCap w (0 + ys.length) N e - (0 + ys.length)) (s := ie.size) ⟨by simp [flat], fun j h1 => absurd h1 (by simp)⟩ hnr (by simp) hys1 zs
                have hge := grownCap_ge w (0 + ys.length) N e
                have hcm' := grownCap_le_maxLen w (0 + ys.length) N e (by simp only [maxLen]; omega)
                simp only [List.nil_append, List.length_nil] at hs1 hs2
                obtain ⟨sd, ed⟩ := sim.drew
                obtain ⟨s2, ev2⟩ := sd.regrow (T := e) (cs' := #[] ++ news.toArray ++ Builtin.zeroCells zv.cells (grownCap w (0 + ys.length) N e - (0 + ys.length))) (xs' := ys) hf (.inl hvi)
                  (by rw [hs1, hksz]; exact Nat.mul_le_mul_right _ (by omega)) (by intro y hy; rw [hksz]; exact hys1 y hy)
                  (fun i hi j hj => by rw [hksz]; obtain ⟨v, hv, hr⟩ := hs2 i hi j hj; exact ⟨v, hv, hr.mono ed⟩)
                rw [hksz, hg] at s2 ev2
                refine ⟨_, _, F, _, .inl (hrun hr), s2, ed.trans ev2, ?_, fun b' hb' => by rw [mput_ne _ _ (hbn b' hb')]; exact hub b' hb'⟩
                intro p hp
                injection hp with hp
                subst hp
                refine .ref _ _ _ _ _ _ ?_
                rw [mput_eq]
                refine ⟨Nat.le_refl _, fun _ => ⟨by simp, hge, hcm', ?_⟩⟩
                unfold rowSize
                rw [heap_push_eq]
                simp only [Nat.zero_add] at hs1 ⊢
                rw [hs1]
                exact Nat.mul_le_mul_right _ (by omega)
              rcases Nat.eq_zero_or_pos ys.length with hy0 | hy0
              · have hye := List.eq_nil_of_length_eq_zero hy0
                subst hye
                obtain ⟨s', s2, ev2, hs'⟩ := sim.bump hf hnu (fun _ e => by rw [hvi] at e; cases e)
                rw [hksz, hg] at s2
                simp only [List.append_nil, List.length_nil, Nat.add_zero]
                have hr := run_append_nothing (P := P) w t t o.type e ie hu hie Ad 0 0 (Nat.le_refl _) (.slice (some ad) 0 cx) (Src.ofSlice w hu ad 0 cx [] (by simp) (fun j u hj => by simp at hj) (fun _ h => by cases h))
                refine ⟨_, _, F, _, .inl (hrun hr), s2, ev2, ?_, fun b' hb' => by rw [mput_ne _ _ (hbn b' hb')]; exact hub b' hb'⟩
                intro p hp
                injection hp with hp
                subst hp
                rw [hxs]
                refine .ref _ _ _ _ _ _ ?_
                rw [mput_eq]
                rcases hs' with ⟨β, hm, rfl⟩ | ⟨hm, _, rfl⟩
                · rw [hm] at hvi; cases hvi
                · exact ⟨by omega, fun _ => ⟨rfl, rfl⟩⟩
              · cases Ad with
                | none =>
                  refine hfin 0 ?_
                  have hr := run_append_nil (P := P) w t o.type e ie zv hu hie hzv ad ys.length cx news hnl hnews hy0 (by omega) (by
                    have : ys.length * ie.bytes ≤ 1048576 * 1048576 := Nat.mul_le_mul (by omega) hb
                    omega)
                  simp only [Nat.zero_add, Array.empty_append]
                  exact hr
                | some lad =>
                  refine hfin 0 ?_
                  have hr := run_append_grow (P := P) w t o.type e ie zv hu hie hzv lad 0 0 [] (by simp) (by simp) ad ys.length cx news hnl hnews (by omega) (by omega) (by
                    rw [Nat.zero_add]
                    refine growslice_fits hy0 ?_
                    have : ys.length * ie.bytes ≤ 1048576 * 1048576 := Nat.mul_le_mul (by omega) hb
                    omega)
                  simpa using hr
            rw [hm] at h
            obtain ⟨rfl, hlc, hcm, hcap⟩ := h.2 hg.symm
            rw [Nat.zero_mul] at hrun
            rw [Nat.zero_add] at hcap
            have hrow : rowSize w β = cs.size := by unfold rowSize; rw [h1]
            rw [hrow, hksz] at hcap
            have hxsz : ∀ y ∈ k.xs, y.cells.length = ie.size := fun y hy => by rw [h3 y hy, hksz]
            by_cases hroom : k.xs.length + ys.length ≤ cc
            · have hfit : k.xs.length * ie.size + news.length ≤ cs.size := by
                rw [hnl, ← Nat.add_mul]
                exact Nat.le_trans (Nat.mul_le_mul_right _ hroom) hcap
              have hr := run_append_room' (P := P) t o.type e ie hu hie β k.xs.length cc cs T h1 ad ys.length cx news hnl hnews (one_of_rel hnr (flat_ones hys2)) hroom hfit
              obtain ⟨s2, ev2⟩ := sim.write (g' := g + 1) (xs' := k.xs ++ ys) hf hm h1 (rowWrite_size cs news (k.xs.length * ie.size) hfit) (by omega)
                (by rw [rowWrite_size cs news (k.xs.length * ie.size) hfit, hksz, List.length_append, Nat.add_mul, ← hnl]; exact hfit)
                (by intro y hy; rw [hksz]; rcases List.mem_append.1 hy with h | h; exact hxsz y h; exact hys1 y h)
                (by
                  rw [hksz]
                  refine blk_of_flat' (by intro y hy; rcases List.mem_append.1 hy with h | h; exact hxsz y h; exact hys1 y h) (by rw [rowWrite_size cs news (k.xs.length * ie.size) hfit, List.length_append, Nat.add_mul, ← hnl]; exact hfit) (fun j q hq => ?_)
                  rw [flat_append] at hq
                  rw [rowWrite_get cs news (k.xs.length * ie.size) hfit]
                  have fl : (flat k.xs).length = k.xs.length * ie.size := flat_length hxsz
                  have fy : (flat ys).length = news.length := by rw [flat_length hys1, hnl]
                  by_cases hj : j < k.xs.length * ie.size
                  · rw [List.getElem?_append_left (by omega)] at hq
                    rw [if_neg (by omega)]
                    -- an old cell
                    have hs0 : 0 < ie.size := by rcases Nat.eq_zero_or_pos ie.size with e | e; (rw [e] at hj; simp at hj); exact e
                    have hi : j / ie.size < k.xs.length := Nat.div_lt_of_lt_mul (by rw [Nat.mul_comm]; exact hj)
                    have hgq := flat_get hxsz (j / ie.size) hi (j % ie.size) (Nat.mod_lt _ hs0)
                    rw [show j / ie.size * ie.size + j % ie.size = j by rw [Nat.mul_comm]; exact Nat.div_add_mod j _, hq] at hgq
                    obtain ⟨h5, h6⟩ := List.getElem?_eq_some_iff.1 hgq.symm
                    obtain ⟨v, hv, hvr⟩ := h4 _ hi _ h5
                    rw [hksz, show j / ie.size * ie.size + j % ie.size = j by rw [Nat.mul_comm]; exact Nat.div_add_mod j _] at hv
                    exact ⟨v, hv, by rw [← h6]; exact hvr⟩
                  · rw [List.getElem?_append_right (by omega)] at hq
                    obtain ⟨hlt, _⟩ := List.getElem?_eq_some_iff.1 hq
                    rw [if_pos (by omega)]
                    obtain ⟨v, hv, hvr⟩ := hnr.get hq
                    rw [fl] at hv
                    exact ⟨v, by simpa using hv, hvr⟩)
              rw [hksz] at s2
              refine ⟨_, _, F, _, .inl (hrun hr), s2, by rw [hksz] at ev2; exact ev2, ?_, fun b' hb' => ?_⟩
              · intro p hp
                injection hp with hp
                subst hp
                refine .ref _ _ _ _ _ _ ?_
                rw [mput_eq]
                refine ⟨Nat.le_refl _, fun _ => ⟨by simp, hroom, hcm, ?_⟩⟩
                unfold rowSize
                rw [setRow_heap w β cs _ T (0, 0) h1]
                simp only [Nat.zero_add]
                rw [rowWrite_size cs news (k.xs.length * ie.size) hfit]
                exact hcap
              · rw [mput_ne]
                · exact hub b' hb'
                · intro e
                  rw [e] at hb'
                  have := H.wf b hb'
                  rw [this] at hf
                  cases hf
            · -- it lies anew
              obtain ⟨olds, ⟨⟨Al, cl, hvl, hcl⟩, hor⟩⟩ := elems_shows (s := ie.size) (H := H) sim (fun b k h => h) (x := .ref b g 0 k.xs.length) (.ref _ cc _ _ _ _ (by rw [hm]; exact h)) (ys := k.xs) (by
                simp only [elems, hk, Option.bind_eq_bind, Option.bind_some, Nat.zero_add, Nat.le_refl, if_true, List.drop_zero, List.take_length]) hxsz
              rw [Nat.zero_mul] at hvl
              injection hvl with hA _ _
              subst hA
              have holen : olds.length = k.xs.length * ie.size := by have := hor.1; rw [flat_length hxsz] at this; simpa using this
              have holds : ∀ j v, olds[j]? = some v → w.cell? ((⟨β, 0, none⟩ : Addr).add j) = some v := by
                rcases hcl with hcl | ⟨ad', hA2, holds⟩
                · intro j v hj
                  have : olds = [] := List.eq_nil_of_length_eq_zero (by rw [holen, hcl]; simp)
                  subst this
                  simp at hj
                · injection hA2 with hA2
                  subst hA2
                  exact holds
              have hr := run_append_grow (P := P) w t o.type e ie zv hu hie hzv ⟨β, 0, none⟩ k.xs.length cc olds holen holds ad ys.length cx news hnl hnews (by omega) (by omega) (by
                refine growslice_fits (by omega) ?_
                have : (k.xs.length + ys.length) * ie.bytes ≤ 1048576 * 1048576 := Nat.mul_le_mul hbound hb
                omega)
              obtain ⟨hs1, hs2⟩ := grown_rel (N := grownCap w (k.xs.length + ys.length) cc e - (k.xs.length + ys.length)) hor hnr hxsz hys1 zs
              have hge := grownCap_ge w (k.xs.length + ys.length) cc e
              have hcm' := grownCap_le_maxLen w (k.xs.length + ys.length) cc e (by simp only [maxLen]; omega)
              obtain ⟨sd, ed⟩ := sim.drew
              obtain ⟨s2, ev2⟩ := sd.regrow (T := e) (cs' := olds.toArray ++ news.toArray ++ Builtin.zeroCells zv.cells (grownCap w (k.xs.length + ys.length) cc e - (k.xs.length + ys.length))) (xs' := k.xs ++ ys) hf (.inr ⟨β, hm⟩)
                (by rw [hs1, List.length_append, hksz]; exact Nat.mul_le_mul_right _ (by omega)) (by intro y hy; rw [hksz]; rcases List.mem_append.1 hy with h | h; exact hxsz y h; exact hys1 y h)
                (fun i hi j hj => by rw [hksz]; obtain ⟨v, hv, hr⟩ := hs2 i hi j hj; exact ⟨v, hv, hr.mono ed⟩)
              rw [hksz] at s2 ev2
              rw [hg] at s2 ev2
              refine ⟨_, _, F, _, .inl (hrun hr), s2, ed.trans ev2, ?_, fun b' hb' => ?_⟩
              · intro p hp
                injection hp with hp
                subst hp
                refine .ref _ _ _ _ _ _ ?_
                rw [mput_eq]
                refine ⟨Nat.le_refl _, fun _ => ⟨by simp, hge, hcm', ?_⟩⟩
                unfold rowSize
                rw [heap_push_eq]
                simp only [Nat.zero_add]
                rw [hs1]
                exact Nat.mul_le_mul_right _ (by omega)
              · rw [mput_ne]
                · exact hub b' hb'
                · intro e
                  rw [e] at hb'
                  have := H.wf b hb'
                  rw [this] at hf
                  cases hf
        · cases hp
      · cases hp
theorem pureF_weak {p : PV} (h : pureF p = true) {v : Value} {m' : Nat → Slot} (hv : VRel F w m v p) : VRel F w m' v p := by
  cases hv <;> first | (simp [pureF] at h; done) | skip
  case int => exact .int _ _
  case bool => exact .bool _
  case str => exact .str _
  case nilp => exact .nilp
  case nilf => exact .nilf
  case nili => exact .nili
  case nilm => exact .nilm
  case slnil hc => exact .slnil _ _ ‹_›
  case sl ad c sz l cs hF hc hm hz hcell h2 => exact .sl ad c sz l cs hF hc hm hz hcell h2
theorem ok_appendF (sim : Sim gl A w0 F m w G) (hG : ∀ b k, H.f b = some k → G.f b = some k) {c : Call} {t e : TypeId} {s x : Operand} {rs rx : RO} {sz : Nat} {z : PV} (ho : o.op = .call c) (hcal : c.callee = .builtin .append) (hargs : c.args.toList = [s, x])
    (hts : c.argTypes.toList = [t, t]) (hu : P.underlying t = some (.slice e)) (hsz : szOf P e = some sz) (hz : zeroOf P e = some z) (hzs : z.cells.length = sz) (hb : (P.info? e).any (fun i => decide (i.bytes ≤ 1048576)) = true)
    (hs : roOf s = some rs) (hx : roOf x = some rx) (he : ERel F m w a env (rs.reads ++ rx.reads)) (N ext : Nat) (hp : stepN (RO.ev gl env) H (.appendF sz z rs rx) = some (p, [])) : NOk P gl A w0 F m w G N a o p ext := by
  simp only [stepN, Option.bind_eq_bind, Option.bind_eq_some_iff] at hp
  obtain ⟨q, hq, hp⟩ := hp
  obtain ⟨e1, e2⟩ := he.app
  have hrs := RO.rel sim hs e1 hq
  split at hp
  · rename_i l
    simp only [Option.bind_eq_some_iff] at hp
    obtain ⟨qx, hqx, ys, hys, hp⟩ := hp
    have hrx := RO.rel sim hx e2 hqx
    split at hp
    · rename_i hc
      simp only [Bool.and_eq_true, decide_eq_true_eq] at hc
      obtain ⟨hall, hbound⟩ := hc
      simp only [Option.some.injEq, Prod.mk.injEq, and_true] at hp
      subst hp
      have hall1 : ∀ y ∈ l ++ ys, y.cells.length = sz := fun y hy => by have := List.all_eq_true.1 hall y hy; simp only [Bool.and_eq_true, beq_iff_eq] at this; exact this.1
      have hall2 : ∀ y ∈ l ++ ys, ∀ c ∈ y.cells, pureF c = true := fun y hy => by have := List.all_eq_true.1 hall y hy; simp only [Bool.and_eq_true, beq_iff_eq] at this; exact List.all_eq_true.1 this.2
      have hl1 : ∀ y ∈ l, y.cells.length = sz := fun y hy => hall1 y (List.mem_append_left _ hy)
      have hys1 : ∀ y ∈ ys, y.cells.length = sz := fun y hy => hall1 y (List.mem_append_right _ hy)
      obtain ⟨news, ⟨⟨Ax, cx, hvx, hcx⟩, hnr⟩⟩ := elems_shows (s := sz) sim hG hrx hys hys1
      have hnl : news.length = ys.length * sz := by have := hnr.1; rw [flat_length hys1] at this; simpa using this
      unfold zeroOf at hz
      simp only [Option.bind_eq_some_iff] at hz
      obtain ⟨ie, hie, zv, hzv, hzz⟩ := hz
      unfold szOf at hsz
      rw [hie] at hsz hb
      simp only [Option.map_some, Option.some.injEq, Option.any_some, decide_eq_true_eq] at hsz hb
      subst hsz
      have zs : zv.cells.size = ie.size := by rw [(ofZero_rel (F := F) (m := m) (w := w) hzz).size.1]; exact hzs
      have hrun : ∀ {v w'}, (Builtin.append_ #[t, t] o.type #[a.eval s, a.eval x]).run P w = .ok v w' → (execOp a.eval o).run P w = .ok (.value v) w' := by
        intro v w' h
        have h1 : c.args.map a.eval = #[a.eval s, a.eval x] := Array.toList_inj.1 (by simp [hargs])
        have h2 : c.argTypes = #[t, t] := Array.toList_inj.1 (by simp [hts])
        simp only [execOp, ho, resolve, hcal, Sem.run_bind, Sem.run_pure, Result.andThen_ok, invoke, builtin, h1, h2, h]
      rw [hvx] at hrun
      generalize hva : a.eval s = va at hrs
      rw [hva] at hrun
      obtain ⟨olds, ⟨⟨Al, cl, hvl, hcl⟩, hor⟩⟩ := elems_shows (s := ie.size) sim hG hrs (ys := l) rfl hl1
      rcases hcx with hcx | ⟨ad, rfl, hnews⟩
      · subst hcx
        have hle : l.length ≤ cl := by
          cases hrs with
          | litnil => simp
          | lit => injection hvl with _ _ h; omega
        have hr := run_append_nothing (P := P) w t t o.type e ie hu hie Al l.length cl hle (.slice Ax 0 cx) (by
          cases Ax with
          | none => exact ⟨.inl ⟨e, hu⟩, fun _ => rfl, run_firstCells_none w _ 0 0 cx, run_firstCells_none w.drew _ 0 0 cx, by simp, fun _ h => by cases h⟩
          | some ad => exact Src.ofSlice w hu ad 0 cx [] (by simp) (fun j u hj => by simp at hj) (fun _ h => by cases h))
        rw [← hvl] at hr
        refine .same sim (hrun hr) ?_
        rw [List.append_nil]
        cases hrs with
        | litnil => exact .slnil _ _ (Nat.zero_le _)
        | lit lad s' _ cs hF hm hz' hcell h => exact .sl lad _ s' l cs hF (Nat.le_refl _) hm hz' hcell (fun i h1 j h2 => pureF_weak (hall2 _ (List.mem_append_left _ (List.getElem_mem h1)) _ (List.getElem_mem h2)) (h i h1 j h2))
      · rcases Nat.eq_zero_or_pos ys.length with hy0 | hy0
        · have hye := List.eq_nil_of_length_eq_zero hy0
          subst hye
          have hle : l.length ≤ cl := by
            cases hrs with
            | litnil => simp
            | lit => injection hvl with _ _ h; omega
          have hr := run_append_nothing (P := P) w t t o.type e ie hu hie Al l.length cl hle (.slice (some ad) 0 cx) (Src.ofSlice w hu ad 0 cx [] (by simp) (fun j u hj => by simp at hj) (fun _ h => by cases h))
          rw [← hvl] at hr
          refine .same sim (hrun hr) ?_
          rw [List.append_nil]
          cases hrs with
          | litnil => exact .slnil _ _ (Nat.zero_le _)
          | lit lad s' _ cs hF hm hz' hcell h => exact .sl lad _ s' l cs hF (Nat.le_refl _) hm hz' hcell (fun i h1 j h2 => pureF_weak (hall2 _ (List.mem_append_left _ (List.getElem_mem h1)) _ (List.getElem_mem h2)) (h i h1 j h2))
        · have hbl : l.length + ys.length ≤ 1048576 := by simpa using hbound
          have hfin : ∀ N2, (Builtin.append_ #[t, t] o.type #[va, .slice (some ad) ys.length cx]).run P w =
              .ok (.slice (some ⟨w.heap.size, 0, none⟩) (l.length + ys.length) (grownCap w (l.length + ys.length) N2 e)) (w.drew.alloc (.cells (olds.toArray ++ news.toArray ++ Builtin.zeroCells zv.cells (grownCap w (l.length + ys.length) N2 e - (l.length + ys.length))) e)) →
              NOk P gl A w0 F m w G N a o (.sl (l ++ ys)) ext := by
            intro N2 hr
            obtain ⟨hs1, hs2⟩ := grown_rel (N := grownCap w (l.length + ys.length) N2 e - (l.length + ys.length)) hor hnr hl1 hys1 zs
            have hge := grownCap_ge w (l.length + ys.length) N2 e
            have hcm := grownCap_le_maxLen w (l.length + ys.length) N2 e (by simp only [maxLen]; omega)
            obtain ⟨sd, ed⟩ := sim.drew
            obtain ⟨s2, ev2⟩ := sd.allocF (.cells (olds.toArray ++ news.toArray ++ Builtin.zeroCells zv.cells (grownCap w (l.length + ys.length) N2 e - (l.length + ys.length))) e)
            refine ⟨_, _, _, m, hrun hr, s2, ed.trans ev2, ?_, fun _ _ => rfl⟩
            have e0 : l.length + ys.length = (l ++ ys).length := by simp
            generalize hcc : grownCap w (l.length + ys.length) N2 e = CC at *
            have hfinal : VRel (fun β => F β ∨ β = w.drew.heap.size) (w.drew.alloc (.cells (olds.toArray ++ news.toArray ++ Builtin.zeroCells zv.cells (CC - (l.length + ys.length))) e)) m (.slice (some ⟨w.heap.size, 0, none⟩) (l ++ ys).length CC) (.sl (l ++ ys)) := by
              refine .sl ⟨w.heap.size, 0, none⟩ CC ie.size (l ++ ys) (fun i j => (olds.toArray ++ news.toArray ++ Builtin.zeroCells zv.cells (CC - (l.length + ys.length))).getD (i * ie.size + j) undef) (.inr rfl) (by rw [← e0]; exact hge) hcm hall1 (fun i hi j hj => ?_) (fun i hi j hj => ?_)
              · obtain ⟨v, hv, _⟩ := hs2 i hi j (by rw [hall1 _ (List.getElem_mem hi)]; exact hj)
                rw [add_plain', Nat.zero_add]
                refine (cell_row (heap_push_eq w.drew _) _).trans ?_
                rw [hv, Array.getD_eq_getD_getElem?, hv]
                rfl
              · obtain ⟨v, hv, hr⟩ := hs2 i hi j hj
                rw [Array.getD_eq_getD_getElem?, hv]
                exact (pureF_weak (m' := noM) (hall2 _ (List.getElem_mem hi) _ (List.getElem_mem hj)) hr).monoNo (Ev.trans ed ev2)
            rwa [← e0] at hfinal
          cases hrs with
          | litnil =>
            refine hfin 0 ?_
            have hoe : olds = [] := by have := hor.1; simp [flat] at this; exact this
            subst hoe
            have hr := run_append_nil (P := P) w t o.type e ie zv hu hie hzv ad ys.length cx news hnl hnews hy0 (by omega) (by
              have : ys.length * ie.bytes ≤ 1048576 * 1048576 := Nat.mul_le_mul (by omega) hb
              omega)
            simp only [List.length_nil, Nat.zero_add, List.nil_append, Array.empty_append]
            exact hr
          | lit lad s' _ cs hF hm hz' hcell h =>
            rcases hcl with hcl | ⟨ad', hA, holds⟩
            · subst hcl
              have hoe : olds = [] := by have := hor.1; simp [flat] at this; exact this
              subst hoe
              refine hfin 0 ?_
              have hr := run_append_grow (P := P) w t o.type e ie zv hu hie hzv lad 0 0 [] (by simp) (by simp) ad ys.length cx news hnl hnews (by omega) (by omega) (by
                rw [Nat.zero_add]
                refine growslice_fits hy0 ?_
                have : ys.length * ie.bytes ≤ 1048576 * 1048576 := Nat.mul_le_mul (by omega) hb
                omega)
              simpa using hr
            · injection hvl with hA' hlen hcap
              have hA2 : some lad = some ad' := hA'.trans hA
              injection hA2 with hA2
              subst hA2
              refine hfin l.length ?_
              exact run_append_grow (P := P) w t o.type e ie zv hu hie hzv lad l.length l.length olds (by have := hor.1; rw [flat_length hl1] at this; simpa using this) holds ad ys.length cx news hnl hnews (by omega) (by omega) (by
                refine growslice_fits (by omega) ?_
                have : (l.length + ys.length) * ie.bytes ≤ 1048576 * 1048576 := Nat.mul_le_mul hbl hb
                omega)
    · cases hp
  · cases hp
end
end Go.Vm
