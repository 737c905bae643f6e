/- Laid. -/
import Derived.Test.YtkdhindpjllpkaaGreatDoorVmThree
import Derived.KernelRfl
import Derived.Test.YtkdhindpjllpkaaGreatDoorProg
import Derived.Test.YtkdhindpjllpkaaGreatDoorXerrA
set_option linter.unusedSimpArgs false
set_option linter.unusedVariables false
set_option maxRecDepth 100000
set_option maxHeartbeats 4000000
set_option exponentiation.threshold 2000
namespace Go.Vm
open Go
section
variable {gl : Nat → Option PV}
theorem callOk_as : callOk Go.Proofs.Tryz.prog 53 = true := by kernel_rfl
theorem cs_two {F : Nat → Prop} {m : Nat → Slot} {w : World} {vs : Array Value} {p q : PV} (h : CsRel F m w vs [p, q]) : ∃ x y, vs = #[x, y] ∧ VRel F w m x p ∧ VRel F w m y q := by
  obtain ⟨hs, h⟩ := h
  obtain ⟨l⟩ := vs
  match l, hs with
  | [x, y], _ => exact ⟨x, y, rfl, h 0 (by simp) (by simp), h 1 (by simp) (by simp)⟩
theorem h_As_nil (x : PV) (H : Hp) : HSpec Go.Proofs.Tryz.prog gl 53 [.nili, x] H (fun r G => r = .bool false ∧ G = H) := by
  refine ⟨callOk_as, fun A w0 F m w vs sim hU hvs => ?_⟩
  obtain ⟨v0, v1, rfl, h0, h1⟩ := cs_two hvs
  cases h0
  refine (as_nil v1 w).mono ?_
  rintro e w' ⟨rfl, rfl⟩
  exact ⟨_, F, m, _, H, rfl, ⟨rfl, rfl⟩, sim, hU, Ev.refl sim.fnl sim.liv, .bool _⟩
def errH : Value := .iface 185 (.agg #[.pointer (some ⟨5, 87, none⟩)])
theorem h_As_hit (l : List PV) (H : Hp) (b : Nat) (hb : H.f b = some ⟨0, 1, [.nilp]⟩) (hgl : gl 0 = some (.fptr [.raw errH])) :
    HSpec Go.Proofs.Tryz.prog gl 53 [.ifc 84 (.fptr l), .ifc 89 (.ptr b 0 0 0)] H (fun r G => r = .bool true ∧ G = H.set b ⟨0, 1, [.fptr l]⟩) := by
  refine ⟨callOk_as, fun A w0 F m w vs sim hU hvs => ?_⟩
  obtain ⟨v0, v1, rfl, h0, h1⟩ := cs_two hvs
  cases h0 with
  | ifc _ v0 _ h0 =>
  cases h1 with
  | ifc _ v1 _ h1 =>
  obtain ⟨β, hm, ⟨cs, T, c1, c2, c3, c4⟩, rfl⟩ := ptr_at sim h1 hb rfl
  cases h0 with
  | fptr e _ ce hFe hce hve =>
  have hg := sim.glob _ _ hgl
  have hg0 : w.cell? ⟨0, 0, none⟩ = some errH := by
    cases hg with
    | fptr ad _ cg hFg hcg hvg =>
      have h2 := hcg 0 (by simp)
      have h3 := hvg 0 (by simp)
      simp only [List.getElem_cons_zero] at h3
      have h4 : cg 0 = errH := by
        generalize cg 0 = x at h3
        unfold errH at h3 ⊢
        cases h3
        rfl
      rw [h4] at h2
      simpa [Addr.add] using h2
  simp only [Nat.zero_mul, Nat.zero_add] at *
  obtain ⟨old, hold, _⟩ := c4 0 (by simp) 0 (by simp [PV.cells])
  simp only [Nat.zero_mul, Nat.zero_add] at hold
  have ht0 : w.cell? ⟨β, 0, none⟩ = some old := by simp [World.cell?, c1, hold]
  have hf0 : w.frozen? ⟨β, 0, none⟩ = false := by simp [World.frozen?, c1]
  refine (as_hit e ⟨β, 0, none⟩ old w hg0 ht0 hf0).mono ?_
  rintro ev w' ⟨rfl, rfl⟩
  obtain ⟨s1, e1⟩ := sim.allocF (.cells #[.pointer (some ⟨β, 0, none⟩)] 89)
  obtain ⟨s2, e2⟩ := s1.allocF (.cells #[.pointer (some ⟨5, 89, none⟩), .pointer (some ⟨w.heap.size, 0, none⟩), .int .u64 150] 146)
  obtain ⟨s3, e3⟩ := s2.allocF (.cells #[.pointer (some ⟨5, 89, none⟩), .pointer (some ⟨w.heap.size, 0, none⟩), .int .u64 150] 146)
  obtain ⟨s4, e4⟩ := s3.allocF (.cells #[.pointer (some e)] 84)
  have eAll := ((e1.trans e2).trans e3).trans e4
  have hβ := (sim.live b β (at_live hm))
  have c1' := (eAll.size β hβ.2.1)
  have hkeep : ∀ (W : World) (o : Obj), β < W.heap.size → (W.alloc o).heap[β]? = W.heap[β]? := fun W o h => heap_push_lt W o h
  have hc : ((((w.alloc (.cells #[.pointer (some ⟨β, 0, none⟩)] 89)).alloc (.cells #[.pointer (some ⟨5, 89, none⟩), .pointer (some ⟨w.heap.size, 0, none⟩), .int .u64 150] 146)).alloc (.cells #[.pointer (some ⟨5, 89, none⟩), .pointer (some ⟨w.heap.size, 0, none⟩), .int .u64 150] 146)).alloc (.cells #[.pointer (some e)] 84)).heap[β]? = some (.cells cs T (0, 0)) := by
    rw [hkeep _ _ (by simp only [size_alloc]; omega), hkeep _ _ (by simp only [size_alloc]; omega), hkeep _ _ (by simp only [size_alloc]; omega), hkeep _ _ hβ.2.1]
    exact c1
  rw [setCell_eq_setRow _ _ _ _ _ _ _ hc]
  have hcs : 1 ≤ cs.size := by simpa using c2
  have hve4 : VRel _ _ m (.pointer (some e)) (.fptr l) := (VRel.fptr (m := m) e l ce hFe hce hve).mono eAll
  obtain ⟨s5, e5⟩ := s4.write (g' := 0) (xs' := [.fptr l]) (cs' := cs.setIfInBounds 0 (.pointer (some e))) hb hm hc (by simp) (Nat.le_refl _) (by simpa using hcs) (by simp [PV.cells]) (fun i hi j hj => by
    simp only [List.length_singleton] at hi
    obtain rfl : i = 0 := by omega
    simp only [List.getElem_cons_zero, PV.cells, List.length_singleton] at hj
    obtain rfl : j = 0 := by omega
    refine ⟨.pointer (some e), by rw [Nat.zero_mul, Nat.zero_add, Array.getElem?_setIfInBounds_self_of_lt (by omega)], ?_⟩
    simp only [List.getElem_cons_zero, PV.cells]
    exact hve4)
  refine ⟨_, _, _, _, _, rfl, ⟨rfl, rfl⟩, s5, fun b' hb' => ?_, eAll.trans e5, .bool _⟩
  have hbn : b < H.n := Nat.lt_of_not_le fun h => by rw [H.wf b h] at hb; cases hb
  rw [mput_ne _ _ (by have : H.n ≤ b' := hb'; omega)]
  exact hU b' hb'
end
end Go.Vm
