/- The state of the VM and the world's: what holds between them; instructions are found out of the machine's operations. -/
import Derived.Test.YtjegabeechopdaaVmB
import Derived.Laws.Sem
import Derived.Laws.Cells
import Derived.Laws.CopyRow
import Derived.Laws.Entries
import Derived.Laws.Slices
namespace Go.Vm
open Go Go.RowKit

/-- What a block of the local heap is in the world. -/
def BlkOk (F : Nat → Prop) (m : Nat → Slot) (w : World) (β : Nat) (k : Blk) : Prop :=
  ∃ (cs : Array Value) (T : TypeId), w.heap[β]? = some (.cells cs T (0, 0)) ∧ k.xs.length * k.sz ≤ cs.size ∧ (∀ x ∈ k.xs, x.cells.length = k.sz) ∧
    ∀ i (h : i < k.xs.length) j (h2 : j < (k.xs[i]).cells.length), ∃ v, cs[i * k.sz + j]? = some v ∧ VRel F w m v (k.xs[i]).cells[j]

structure Sim (gl : Nat → Option PV) (A : Nat → Prop) (w0 : World) (F : Nat → Prop) (m : Nat → Slot) (w : World) (G : Hp) : Prop where
  below : Below w0.heap.size w0 w
  live : ∀ b β sz g, m b = .live β sz g → w0.heap.size ≤ β ∧ β < w.heap.size ∧ ¬ F β
  inj : ∀ b b' β sz g sz' g', m b = .live β sz g → m b' = .live β sz' g' → b = b'
  frz : ∀ β, F β → A β ∨ w0.heap.size ≤ β
  frzlt : ∀ β, F β → β < w.heap.size
  blk : ∀ b k, G.f b = some k → m b ≠ .unborn → (∃ β, m b = .live β k.sz k.g ∧ BlkOk F m w β k) ∨ (m b = .virt k.g ∧ k.xs = [])
  glob : ∀ g p, gl g = some p → VRel F w noM (.pointer (some ⟨g, 0, none⟩)) p

theorem Sim.fnl {gl A w0 F m w G} (h : Sim gl A w0 F m w G) : ∀ β, F β → β < w.heap.size ∧ ¬ LiveIn m β := fun β hb => ⟨h.frzlt β hb, fun ⟨b, sz, g, e⟩ => (h.live b β sz g e).2.2 hb⟩

theorem Sim.liv {gl A w0 F m w G} (h : Sim gl A w0 F m w G) : ∀ b β sz g, m b = .live β sz g → β < w.heap.size := fun b β sz g e => (h.live b β sz g e).2.1

/-! ### Operands and types -/
def ofValue : Value → Option PV
  | .int k n => some (.int k n)
  | .bool b => some (.bool b)
  | .string s => some (.str s)
  | .pointer none => some .nilp
  | .nilFunc => some .nilf
  | .nilIface => some .nili
  | .map none => some .nilm
  | .slice none 0 0 => some (.lit [])
  | _ => none

def ofValues : List Value → Option (List PV)
  | [] => some []
  | v :: r => do
    let p ← ofValue v
    let l ← ofValues r
    some (p :: l)

def ofZero : Value → Option PV
  | .agg cs => (ofValues cs.toList).map .agg
  | v => ofValue v

theorem ofValue_rel {F m w v p} (h : ofValue v = some p) : VRel F w m v p := by
  unfold ofValue at h
  split at h <;> first | (injection h with h; subst h; constructor) | cases h

theorem ofValues_rel {F m w} : ∀ {l : List Value} {q : List PV}, ofValues l = some q → l.length = q.length ∧ ∀ i (h1 : i < l.length) (h2 : i < q.length), VRel F w m l[i] q[i]
  | [], q, h => by
    simp only [ofValues, Option.some.injEq] at h
    subst h
    exact ⟨rfl, fun i h1 => absurd h1 (by simp)⟩
  | v :: r, q, h => by
    simp only [ofValues, Option.bind_eq_bind, Option.bind_eq_some_iff, Option.some.injEq] at h
    obtain ⟨p, hp, l, hl, rfl⟩ := h
    obtain ⟨e, ih⟩ := ofValues_rel (F := F) (m := m) (w := w) hl
    refine ⟨by simp [e], fun i h1 h2 => ?_⟩
    cases i with
    | zero => exact ofValue_rel hp
    | succ i => exact ih i (by simpa using h1) (by simpa using h2)

theorem ofZero_rel {F m w v p} (h : ofZero v = some p) : VRel F w m v p := by
  unfold ofZero at h
  split at h
  · rename_i cs
    rw [Option.map_eq_some_iff] at h
    obtain ⟨l, hl, rfl⟩ := h
    obtain ⟨e, ih⟩ := ofValues_rel (F := F) (m := m) (w := w) hl
    exact .agg cs l (by simpa using e) (fun i h1 h2 => by have := ih i (by simpa using h1) h2; rwa [Array.getElem_toList] at this)
  · exact ofValue_rel h

def roOf : Operand → Option RO
  | .tmp t => some (.t t)
  | .const v => (ofValue v).map .c
  | .global g => some (.g g)
  | .func f => some (.c (.fn f []))

def rosOf : List Operand → Option (List RO)
  | [] => some []
  | x :: r => do
    let a ← roOf x
    let l ← rosOf r
    some (a :: l)

/-- The temporaries that an operand reads. -/
def RO.reads : RO → List Nat
  | .t n => [n]
  | _ => []

/-- The frame's temporaries and the VM's, as far as they are told. -/
def ERel (F : Nat → Prop) (m : Nat → Slot) (w : World) (a : Act) (env : Env) (ts : List Nat) : Prop := ∀ t ∈ ts, ∀ p, env t = some p → VRel F w m (a.tmps.getD t undef) p

theorem ERel.mono {F m w F' m' w' a env ts} (h : ERel F m w a env ts) (e : Ev F m w F' m' w') : ERel F' m' w' a env ts := fun t ht p hp => (h t ht p hp).mono e

theorem RO.rel {gl A w0 F m w G a env x r p} (sim : Sim gl A w0 F m w G) (hx : roOf x = some r) (he : ERel F m w a env r.reads) (hp : r.ev gl env = some p) : VRel F w m (a.eval x) p := by
  cases x with
  | tmp t =>
    simp only [roOf, Option.some.injEq] at hx
    subst hx
    exact he t (by simp [RO.reads]) p hp
  | const v =>
    simp only [roOf, Option.map_eq_some_iff] at hx
    obtain ⟨q, hq, rfl⟩ := hx
    simp only [RO.ev, Option.some.injEq] at hp
    subst hp
    exact ofValue_rel hq
  | global g =>
    simp only [roOf, Option.some.injEq] at hx
    subst hx
    exact (sim.glob g p hp).weak m
  | func f =>
    simp only [roOf, Option.some.injEq] at hx
    subst hx
    simp only [RO.ev, Option.some.injEq] at hp
    subst hp
    exact .fn f #[] #[] [] rfl rfl (fun i h1 => absurd h1 (by simp))

def shp (P : Program) (t : TypeId) : Option Shape :=
  match P.underlying t with
  | some (.struct _) | some (.array _ _) => (P.info? t).map fun i => some i.size
  | some _ => some none
  | none => none

def szOf (P : Program) (t : TypeId) : Option Nat := (P.info? t).map (·.size)
def zeroOf (P : Program) (t : TypeId) : Option PV := (P.info? t).bind fun i => i.zero.bind ofZero

theorem run_sizeOf' {P : Program} {t n} (h : szOf P t = some n) (w : World) : (sizeOf t).run P w = .ok n w := by
  unfold szOf at h
  rw [Option.map_eq_some_iff] at h
  obtain ⟨i, hi, rfl⟩ := h
  simp [sizeOf, typeInfo, hi]

theorem run_zeroValue' {P : Program} {t z} (h : zeroOf P t = some z) (w : World) : ∃ v, (zeroValue t).run P w = .ok v w ∧ ofZero v = some z := by
  unfold zeroOf at h
  simp only [Option.bind_eq_some_iff] at h
  obtain ⟨i, hi, v, hv, hz⟩ := h
  exact ⟨v, by simp [zeroValue, typeInfo, hi, hv], hz⟩

theorem run_isAgg {P : Program} {t es} (h : shp P t = some es) (w : World) : (isAgg t).run P w = .ok es.isSome w ∧ ∀ n, es = some n → szOf P t = some n := by
  unfold shp at h
  cases hu : P.underlying t with
  | none => rw [hu] at h; cases h
  | some d =>
    have hr := run_underlying hu w
    rw [hu] at h
    constructor
    · simp only [isAgg, Sem.run_bind, hr, Result.andThen_ok]
      cases d <;> simp_all <;> (obtain ⟨i, _, rfl⟩ := h; rfl)
    · intro n hn
      subst hn
      cases d <;> simp_all [szOf]

/-- What is loaded from a place: its cells stand there one behind the other. -/
theorem run_loadVar' {P : Program} {t es F m w p} {l : List PV} (ad : Addr) (cs : Nat → Value) (hs : shp P t = some es) (hp : subv es l = some p)
    (hc : ∀ j, j < l.length → w.cell? (ad.add j) = some (cs j)) (hr : ∀ j (h : j < l.length), VRel F w m (cs j) l[j]) :
    ∃ v, (loadVar t ad).run P w = .ok v w ∧ VRel F w m v p := by
  obtain ⟨ha, hn⟩ := run_isAgg hs w
  cases es with
  | none =>
    cases l with
    | nil => simp [subv] at hp
    | cons x r =>
      simp only [subv, List.head?_cons, Option.some.injEq] at hp
      subst hp
      refine ⟨cs 0, ?_, hr 0 (by simp)⟩
      have h0 := hc 0 (by simp)
      rw [show ad.add 0 = ad by simp [Addr.add]] at h0
      simp only [loadVar, Sem.run_bind, ha, Result.andThen_ok, Option.isSome_none, Bool.false_eq_true, if_false, run_load, h0]
  | some n =>
    simp only [subv] at hp
    split at hp
    · rename_i hle
      injection hp with hp
      subst hp
      have hL := run_loadCells (P := P) w ad n cs (fun j hj => hc j (by omega))
      refine ⟨.agg ((List.range n).map cs).toArray, ?_, ?_⟩
      · simp only [loadVar, Sem.run_bind, ha, Result.andThen_ok, Option.isSome_some, if_true, run_sizeOf' (hn n rfl) w, hL, Sem.run_pure]
      · refine .agg _ _ (by simp; omega) (fun i h1 h2 => ?_)
        simp at h1 h2
        simpa using hr i (by omega)
    · cases hp

theorem VRel.size {F m w v p} (h : VRel F w m v p) : v.cells.size = p.cells.length ∧ ∀ j (h1 : j < v.cells.size) (h2 : j < p.cells.length), VRel F w m v.cells[j] p.cells[j] := by
  cases h with
  | agg a l hs h => exact ⟨hs, h⟩
  | _ =>
    refine ⟨rfl, fun j h1 h2 => ?_⟩
    simp only [Value.cells, PV.cells, List.size_toArray, List.length_cons, List.length_nil] at h1 h2 ⊢
    obtain rfl : j = 0 := by omega
    (try simp)
    first | exact .int _ _ | exact .bool _ | exact .str _ | exact .nilp | exact .nilf | exact .nili | exact .nilm | exact .slnil _ _ ‹_› | exact .litnil
          | (apply VRel.tup <;> assumption) | (apply VRel.sl <;> assumption) | (apply VRel.lit <;> assumption) | (apply VRel.ref; assumption) | (apply VRel.ptr; assumption) | (apply VRel.cref; assumption)
          | (apply VRel.fptr <;> assumption) | (apply VRel.fn <;> assumption)

theorem VRel.one {F m w v p} (h : VRel F w m v p) (ho : p.one = true) : v.oneCell' = true := by
  cases h <;> first | rfl | simp [PV.one] at ho
end Go.Vm
