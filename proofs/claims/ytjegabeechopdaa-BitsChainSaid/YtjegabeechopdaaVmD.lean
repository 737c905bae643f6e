/- Blocks that are made: what the VM's state and the world keep. -/
import Derived.Test.YtjegabeechopdaaVmC
namespace Go.Vm
open Go Go.RowKit

theorem heap_push_lt (w : World) (o : Obj) {i : Nat} (h : i < w.heap.size) : (w.alloc o).heap[i]? = w.heap[i]? := Below.heap_alloc w o i h
theorem heap_push_eq (w : World) (o : Obj) : (w.alloc o).heap[w.heap.size]? = some o := by show (w.heap.push o)[w.heap.size]? = some o; simp
theorem rowSize_lt (w : World) (o : Obj) {i : Nat} (h : i < w.heap.size) : rowSize (w.alloc o) i = rowSize w i := by unfold rowSize; rw [heap_push_lt w o h]
theorem size_alloc (w : World) (o : Obj) : (w.alloc o).heap.size = w.heap.size + 1 := by show (w.heap.push o).size = _; simp

theorem BlkOk.mono {F m w F' m' w' β k} (h : BlkOk F m w β k) (e : Ev F m w F' m' w') (hk : w'.heap[β]? = w.heap[β]?) : BlkOk F' m' w' β k := by
  obtain ⟨cs, T, h1, h2, h3, h4⟩ := h
  exact ⟨cs, T, hk.trans h1, h2, h3, fun i hi j hj => by
    obtain ⟨v, hv, hr⟩ := h4 i hi j hj
    exact ⟨v, hv, hr.mono e⟩⟩

def mput (m : Nat → Slot) (b : Nat) (s : Slot) : Nat → Slot := fun c => if c = b then s else m c
theorem mput_eq (m : Nat → Slot) (b : Nat) (s : Slot) : mput m b s b = s := if_pos rfl
theorem mput_ne (m : Nat → Slot) {b c : Nat} (s : Slot) (h : c ≠ b) : mput m b s c = m c := if_neg h

/-- A new row of the world for a block of the local heap. -/
theorem Sim.alloc {gl A w0 F m w G} (sim : Sim gl A w0 F m w G) (cs : Array Value) (T : TypeId) (b0 : Nat) (hu : m b0 = .unborn) (k : Blk) (hk : G.f b0 = some k)
    (h1 : k.xs.length * k.sz ≤ cs.size) (h2 : ∀ x ∈ k.xs, x.cells.length = k.sz)
    (h3 : ∀ i (h : i < k.xs.length) j (h2 : j < (k.xs[i]).cells.length), ∃ v, cs[i * k.sz + j]? = some v ∧ VRel F w m v (k.xs[i]).cells[j]) :
    Sim gl A w0 F (mput m b0 (.live w.heap.size k.sz k.g)) (w.alloc (.cells cs T)) G ∧ Ev F m w F (mput m b0 (.live w.heap.size k.sz k.g)) (w.alloc (.cells cs T)) := by
  have ev : Ev F m w F (mput m b0 (.live w.heap.size k.sz k.g)) (w.alloc (.cells cs T)) := by
    refine ⟨by rw [size_alloc]; omega, fun _ h => h, sim.fnl, fun β hb _ => heap_push_lt _ _ hb, fun β ⟨c, sz, g, hc⟩ => ?_, fun β hb => rowSize_lt _ _ hb, fun b => ?_, sim.liv⟩
    · by_cases e : c = b0
      · subst e
        rw [mput_eq] at hc
        injection hc with hc _ _
        exact .inr (by omega)
      · rw [mput_ne _ _ e] at hc
        exact .inl ⟨c, sz, g, hc⟩
    by_cases hb : b = b0
    · subst hb; rw [hu]; trivial
    · rw [mput_ne _ _ hb]; exact slot_refl _
  refine ⟨⟨sim.below.alloc sim.below.size _, ?_, ?_, sim.frz, ?_, ?_, fun g p hp => (sim.glob g p hp).monoNo ev⟩, ev⟩
  · intro b β sz g hb
    rw [size_alloc]
    by_cases e : b = b0
    · subst e
      rw [mput_eq] at hb
      injection hb with hb _ _
      subst hb
      exact ⟨sim.below.size, by omega, fun hf => absurd (sim.frzlt _ hf) (by omega)⟩
    · rw [mput_ne _ _ e] at hb
      obtain ⟨a1, a2, a3⟩ := sim.live b β sz g hb
      exact ⟨a1, by omega, a3⟩
  · intro b b' β sz g sz' g' hb hb'
    by_cases e : b = b0 <;> by_cases e' : b' = b0
    · rw [e, e']
    · subst e
      rw [mput_eq] at hb
      rw [mput_ne _ _ e'] at hb'
      injection hb with hb _ _
      subst hb
      exact absurd (sim.live _ _ _ _ hb').2.1 (by omega)
    · subst e'
      rw [mput_eq] at hb'
      rw [mput_ne _ _ e] at hb
      injection hb' with hb' _ _
      subst hb'
      exact absurd (sim.live _ _ _ _ hb).2.1 (by omega)
    · rw [mput_ne _ _ e] at hb
      rw [mput_ne _ _ e'] at hb'
      exact sim.inj b b' β sz g sz' g' hb hb'
  · intro β hb
    rw [size_alloc]
    have := sim.frzlt β hb
    omega
  · intro b k' hk' hnu
    by_cases e : b = b0
    · subst e
      obtain rfl : k = k' := by rw [hk] at hk'; exact Option.some.inj hk'
      refine .inl ⟨w.heap.size, mput_eq _ _ _, cs, T, heap_push_eq _ _, h1, h2, fun i hi j hj => ?_⟩
      obtain ⟨v, hv, hr⟩ := h3 i hi j hj
      exact ⟨v, hv, hr.mono ev⟩
    · rw [mput_ne _ _ e] at hnu ⊢
      rcases sim.blk b k' hk' hnu with ⟨β, hm, hok⟩ | hv
      case inr => exact .inr hv
      exact .inl ⟨β, hm, hok.mono ev (heap_push_lt _ _ (sim.live _ _ _ _ hm).2.1)⟩

/-- A new row of the world that nobody writes again. -/
theorem Sim.allocF {gl A w0 F m w G} (sim : Sim gl A w0 F m w G) (o : Obj) :
    Sim gl A w0 (fun β => F β ∨ β = w.heap.size) m (w.alloc o) G ∧ Ev F m w (fun β => F β ∨ β = w.heap.size) m (w.alloc o) := by
  have ev : Ev F m w (fun β => F β ∨ β = w.heap.size) m (w.alloc o) :=
    ⟨by rw [size_alloc]; omega, fun _ h => .inl h, sim.fnl, fun β hb _ => heap_push_lt _ _ hb, fun _ h => .inl h, fun β hb => rowSize_lt _ _ hb, fun b => slot_refl _, sim.liv⟩
  refine ⟨⟨sim.below.alloc sim.below.size _, ?_, sim.inj, ?_, ?_, ?_, fun g p hp => (sim.glob g p hp).monoNo ev⟩, ev⟩
  · intro b β sz g hb
    obtain ⟨a1, a2, a3⟩ := sim.live b β sz g hb
    rw [size_alloc]
    exact ⟨a1, by omega, fun h => h.elim a3 (fun e => by omega)⟩
  · intro β hb
    rcases hb with hb | rfl
    · exact sim.frz β hb
    · exact .inr sim.below.size
  · intro β hb
    rw [size_alloc]
    rcases hb with hb | rfl
    · have := sim.frzlt β hb; omega
    · omega
  · intro b k hk hnu
    rcases sim.blk b k hk hnu with ⟨β, hm, hok⟩ | hv
    case inr => exact .inr hv
    exact .inl ⟨β, hm, hok.mono ev (heap_push_lt _ _ (sim.live _ _ _ _ hm).2.1)⟩
end Go.Vm
