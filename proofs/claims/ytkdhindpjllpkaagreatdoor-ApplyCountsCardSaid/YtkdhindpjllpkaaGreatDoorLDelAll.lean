/- Laid. -/
import Derived.Test.YtkdhindpjllpkaaGreatDoorLAll
import Derived.Shelf.Slices.Clone
import Derived.Shelf.Slices.SearchI
import Derived.Shelf.Slices.Empties
import Derived.Shelf.Spec.SlicesGrow
set_option linter.unusedSimpArgs false
set_option linter.unusedVariables false
set_option maxRecDepth 100000
set_option maxHeartbeats 4000000
set_option exponentiation.threshold 2000
namespace Go.Vm
open Go Go.RowKit
section
variable {P : Program} {gl : Nat → Option PV}
theorem csRel1 {F : Nat → Prop} {m : Nat → Slot} {w : World} {vs : Array Value} {p : PV} (h : CsRel F m w vs [p]) : ∃ x, vs = #[x] ∧ VRel F w m x p := by
  obtain ⟨hs, h⟩ := h
  obtain ⟨l⟩ := vs
  match l, hs with
  | [x], _ => exact ⟨x, rfl, h 0 (by simp) (by simp)⟩
theorem csRel2 {F : Nat → Prop} {m : Nat → Slot} {w : World} {vs : Array Value} {p q : PV} (h : CsRel F m w vs [p, q]) : ∃ x y, vs = #[x, y] ∧ VRel F w m x p ∧ VRel F w m y q := by
  obtain ⟨hs, h⟩ := h
  obtain ⟨l⟩ := vs
  match l, hs with
  | [x, y], _ => exact ⟨x, y, rfl, h 0 (by simp) (by simp), h 1 (by simp) (by simp)⟩
theorem sl_cells {F : Nat → Prop} {m : Nat → Slot} {w : World} {v : Value} {xs : List Int} (hne : xs ≠ []) (h : VRel F w m v (.sl (xs.map pz))) :
    ∃ b off c, v = .slice (some ⟨b, off, none⟩) xs.length c ∧ ∀ j, j < xs.length → w.cell? ⟨b, off + j, none⟩ = some (.int .i64 (xs.getD j 0)) := by
  generalize hl : xs.map pz = l at h
  have hlen : l.length = xs.length := by rw [← hl]; simp
  have hpos : 0 < xs.length := List.length_pos_iff.2 hne
  cases h with
  | slnil A c hc => simp at hlen; omega
  | sl ad c sz l cs hF hc hm hz hcell h =>
    obtain rfl : sz = 1 := by
      have := hz (pz xs[0]) (by rw [← hl]; exact List.mem_map_of_mem (List.getElem_mem hpos))
      simpa [PV.cells] using this.symm
    have hat : ∀ j, j < xs.length → w.cell? (ad.add j) = some (.int .i64 (xs.getD j 0)) := fun j hj => by
      have h1 := hcell j (by omega) 0 (by omega)
      have e : l[j]'(by omega) = pz xs[j] := by subst hl; simp
      have h2 := h j (by omega) 0 (by rw [e]; simp [PV.cells])
      simp only [e, PV.cells, List.getElem_singleton] at h2
      simp only [Nat.mul_one, Nat.add_zero] at h1
      rw [h1]
      have e2 : xs.getD j 0 = xs[j] := by rw [List.getD_eq_getElem?_getD, List.getElem?_eq_getElem hj, Option.getD_some]
      rw [e2]
      generalize cs j 0 = q at h2
      cases h2
      rfl
    obtain ⟨b, off, sp⟩ := ad
    have hsp : sp = none := by
      have := hat 0 hpos
      cases sp with
      | none => rfl
      | some z =>
        unfold World.cell? at this
        simp only [Addr.add] at this
        split at this <;> simp at this
    subst hsp
    rw [hlen]
    refine ⟨b, off, c, rfl, fun j hj => ?_⟩
    have := hat j hj
    rwa [show (Addr.mk b off none).add j = ⟨b, off + j, none⟩ by cases j <;> rfl] at this
theorem ev_noM {A F : Nat → Prop} {m : Nat → Slot} {w w' : World} (hA : ∀ β, A β → β < w.heap.size) (hb : Below w.heap.size w w') (hm : ∀ b β, (m b).at = some β → w.heap.size ≤ β) (hF : ∀ β, A β → F β) (hF2 : ∀ β, F β → A β ∨ w.heap.size ≤ β) : Ev A noM w F m w' :=
  ⟨hb.size, hF, fun β h => ⟨hA β h, fun ⟨b, e⟩ => by simp [noM, Slot.at] at e⟩, fun β h _ => hb.block β h, fun β ⟨b, e⟩ => .inr (hm b β e), fun β h => by unfold rowSize; rw [hb.block β h], fun b => trivial, fun b β e => by simp [noM, Slot.at] at e, fun β h => (hF2 β h).elim .inl fun h => .inr (.inr h)⟩
theorem sim_own {A : Nat → Prop} {w w' : World} (hA : ∀ β, A β → β < w.heap.size) (hg : ∀ g p, gl g = some p → VRel A w noM (.pointer (some ⟨g, 0, none⟩)) p) (hb : Below w.heap.size w w') {g : Nat} {cur : Array Value} {T : TypeId} (h1 : w.heap.size ≤ g) (h2 : w'.heap[g]? = some (.cells cur T (0, 0)))
    {sz : Nat} {xs : List PV} (h3 : xs.length * sz ≤ cur.size) (h4 : ∀ x ∈ xs, x.cells.length = sz) (h5 : ∀ i (h : i < xs.length) j (h2 : j < (xs[i]).cells.length), ∃ v, cur[i * sz + j]? = some v ∧ VRel A w' (mput noM 0 (.live g sz 0)) v (xs[i]).cells[j]) :
    Sim gl A w A (mput noM 0 (.live g sz 0)) w' (Hp.ofL [some ⟨0, sz, xs⟩]) := by
  have hlt : g < w'.heap.size := by
    by_cases h : g < w'.heap.size
    · exact h
    · rw [Array.getElem?_eq_none (by omega)] at h2; cases h2
  have hat : ∀ b β, (mput noM 0 (.live g sz 0) b).at = some β → b = 0 ∧ β = g := fun b β h => by
    by_cases e : b = 0
    · subst e; rw [mput_eq] at h; injection h with h; exact ⟨rfl, h.symm⟩
    · rw [mput_ne _ _ e] at h; simp [noM, Slot.at] at h
  have ev : Ev A noM w A (mput noM 0 (.live g sz 0)) w' := ev_noM hA hb (fun b β h => by rw [(hat b β h).2]; exact h1) (fun _ h => h) (fun _ h => .inl h)
  refine ⟨hb, fun b β h => ?_, fun b b' β h h' => by rw [(hat b β h).1, (hat b' β h').1], fun β h => .inl h, fun β h => Nat.lt_of_lt_of_le (hA β h) hb.size, fun b k hk hnu => ?_, fun g p hp => (hg g p hp).monoNo ev⟩
  · obtain ⟨rfl, rfl⟩ := hat b β h
    exact ⟨h1, hlt, fun h => absurd (hA _ h) (by omega)⟩
  · by_cases e : b = 0
    · subst e
      have hk' : k = ⟨0, sz, xs⟩ := by
        simp only [Hp.ofL] at hk
        exact (Option.some.inj hk).symm
      subst hk'
      exact .inl ⟨g, mput_eq _ _ _, cur, T, h2, h3, h4, h5⟩
    · rw [mput_ne _ _ e] at hnu; exact absurd rfl hnu
theorem rowSize_cells {w : World} {g : Nat} {cur : Array Value} {T : TypeId} {z : Nat × Nat} (h : w.heap[g]? = some (.cells cur T z)) : rowSize w g = cur.size := by unfold rowSize; rw [h]
theorem h_clone_of {f : FuncId} (hok : callOk P f = true) (T : TypeId)
    (hc : ∀ (b off n c : Nat) (zs : List Int) (w : World), n ≤ zs.length → n * 8 ≤ 140737488355328 → (∀ j, j < zs.length → w.cell? ⟨b, off + j, none⟩ = some (.int .i64 (zs.getD j 0))) → Calls P f #[.slice (some ⟨b, off, none⟩) n c] w fun e w' =>
      ∃ v', e = .returned v' ∧ w'.ownsRow w.heap.size T 1 v' n ((zs.take n).map (Value.int .i64)) ∧ v' ≠ .slice none 0 0 ∧ Below w.heap.size w w')
    {xs : List Int} (hne : xs ≠ []) (hl : xs.length ≤ 1000000) : Fresh P gl f [.sl (xs.map pz)] (.ref 0 0 0 xs.length) (Hp.ofL [some ⟨0, 1, xs.map pz⟩]) := by
  refine ⟨hok, fun A w vs hA hg hvs => ?_⟩
  obtain ⟨v, rfl, hv⟩ := csRel1 hvs
  obtain ⟨b, off, c, rfl, hcell⟩ := sl_cells hne hv
  refine (hc b off xs.length c xs w (Nat.le_refl _) (by omega) hcell).mono ?_
  rintro e w' ⟨v', rfl, ⟨_, hown⟩, hnn, hb⟩
  rcases hown with ⟨rfl, _⟩ | ⟨g, cap, cur, rfl, h1, h2, h3, h4, h5, h6⟩
  · exact absurd rfl hnn
  simp only [Nat.mul_one, List.take_length] at h5 h6
  refine ⟨_, A, mput noM 0 (.live g 1 0), rfl, sim_own hA hg hb h1 h2 (by simp; omega) (by simp [PV.cells]) (fun i hi j hj => ?_), fun b hb => ?_, fun _ h => h, ?_⟩
  · simp only [List.getElem_map, PV.cells, List.length_singleton, List.length_map] at hi hj
    obtain rfl : j = 0 := by omega
    refine ⟨.int .i64 xs[i], ?_, ?_⟩
    · have : (cur.toList.take xs.length)[i]? = some (.int .i64 xs[i]) := by rw [h6]; simp [hi]
      rw [List.getElem?_take_of_lt hi] at this
      simpa using this
    · simp only [List.getElem_map, PV.cells, List.getElem_singleton]
      exact .int _ _
  · have : b ≠ 0 := by simp [Hp.ofL] at hb; omega
    rw [mput_ne _ _ this]; rfl
  · refine .ref _ _ _ _ _ _ ?_
    rw [mput_eq]
    exact ⟨Nat.le_refl _, fun _ => ⟨by simp, h3, h4, by rw [rowSize_cells h2]; omega⟩⟩
theorem p_clone_nil {f : FuncId} (hok : callOk P f = true) (T : TypeId)
    (h0 : ∀ (n c : Nat) (w : World), Calls P f #[.slice none n c] w fun e w' => e = .returned (.slice none 0 0) ∧ w' = w)
    (h1 : ∀ (a : Addr) (c : Nat) (w : World), Calls P f #[.slice (some a) 0 c] w fun e w' => ∃ v', e = .returned v' ∧ w'.ownsRow w.heap.size T 1 v' 0 [] ∧ v' ≠ .slice none 0 0 ∧ Below w.heap.size w w') :
    Pure P gl f [.sl []] (.sl []) := by
  refine ⟨hok, fun A w vs hA hg hvs => ?_⟩
  obtain ⟨v, rfl, hv⟩ := csRel1 hvs
  have : ∃ a c, v = .slice a 0 c := by
    generalize hl : ([] : List PV) = l at hv
    cases hv with
    | slnil A c hc => exact ⟨A, c, rfl⟩
    | sl ad c sz l cs => subst hl; exact ⟨some ad, c, rfl⟩
  obtain ⟨a, c, rfl⟩ := this
  cases a with
  | none =>
    refine (h0 0 c w).mono ?_
    rintro e w' ⟨rfl, rfl⟩
    exact ⟨_, rfl, Below.refl _ _, .slnil none 0 (Nat.zero_le _)⟩
  | some a =>
    refine (h1 a c w).mono ?_
    rintro e w' ⟨v', rfl, ⟨_, hown⟩, hnn, hb⟩
    rcases hown with ⟨rfl, _⟩ | ⟨g, cap, cur, rfl, _, _, _, h4, _⟩
    · exact absurd rfl hnn
    · exact ⟨_, rfl, hb, .slnil _ _ h4⟩
theorem h_grow_of {f : FuncId} (hok : callOk P f = true) (T : TypeId) {i0 : TypeInfo} {z : Value} (hz0 : i0.zero = some z) {sz : Nat} (hsz : i0.size = sz)
    (hc : ∀ (base : Option Addr) (l c n : Nat) (cs : List Value) (w : World), l ≤ c → c < l + n → (l + n) * i0.bytes ≤ 140737488355328 → l + n ≤ 4611686018427387904 → cs.length = c * i0.size → (base = none → c = 0) → (∀ a, base = some a → ∀ j v, cs[j]? = some v → w.cell? (a.add j) = some v) →
      Calls P f #[.slice base l c, .int .i64 n] w fun e w' => e = .returned (.slice (some ⟨w.heap.size, 0, none⟩) l (grownCap w (l + n) c T)) ∧ w' = w.drew.alloc (.cells (cs.toArray ++ Builtin.zeroCells z.cells (l + n - c) ++ Builtin.zeroCells z.cells (grownCap w (l + n) c T - (l + n))) T))
    (hc0 : ∀ (base : Option Addr) (l c n : Nat) (w : World), l ≤ c → c ≤ 9223372036854775807 → n ≤ 9223372036854775807 → l + n ≤ c → Calls P f #[.slice base l c, .int .i64 n] w fun e w' => e = .returned (.slice base l c) ∧ w' = w)
    (hzc : z.cells.size = sz) {n : Nat} (hn : n * i0.bytes ≤ 140737488355328) (hn2 : n ≤ 1000000) {H : Hp} {b0 : Nat} (hb0 : H.n = b0) : HSpec P gl f [.lit [], .int .i64 n] H (fun r G => r = .ref b0 0 0 0 ∧ G = H.add [⟨0, sz, []⟩]) := by
  subst hb0
  refine ⟨hok, fun A w0 F m w vs sim hU hvs => ?_⟩
  obtain ⟨v, u, rfl, hv, hu⟩ := csRel2 hvs
  cases hu
  have : ∃ a, v = .slice a 0 0 := by
    generalize hl : ([] : List PV) = l at hv
    cases hv with
    | litnil => exact ⟨none, rfl⟩
    | lit ad sz l cs => subst hl; exact ⟨some ad, rfl⟩
  obtain ⟨a, rfl⟩ := this
  by_cases h0 : n = 0
  · subst h0
    refine (hc0 a 0 0 0 w (Nat.le_refl _) (Nat.zero_le _) (Nat.zero_le _) (Nat.le_refl _)).mono ?_
    rintro e w' ⟨rfl, rfl⟩
    obtain ⟨s1, e1⟩ := sim.virt hU sz
    refine ⟨_, F, _, .ref H.n 0 0 0, _, rfl, ⟨rfl, rfl⟩, s1, fun b hb => ?_, e1, ?_⟩
    · have hb' : H.n + 1 ≤ b := by simpa [Hp.add] using hb
      rw [mput_ne _ _ (by omega)]
      exact hU b (by omega)
    · refine .ref _ _ _ _ _ _ ?_
      rw [mput_eq]
      exact ⟨Nat.le_refl _, fun _ => ⟨rfl, rfl⟩⟩
  refine (hc a 0 0 n [] w (Nat.le_refl _) (by omega) (by simpa using hn) (by omega) (by simp) (fun _ => rfl) (fun _ _ j v h => by simp at h)).mono ?_
  simp only [Nat.zero_add, Nat.sub_zero]
  rintro e w' ⟨rfl, rfl⟩
  have hge : n ≤ grownCap w n 0 T := grownCap_ge w _ _ _
  have hle : grownCap w n 0 T ≤ maxLen := grownCap_le_maxLen w n 0 T (by unfold maxLen; omega)
  generalize grownCap w n 0 T = G at *
  have hsz2 : (([] : List Value).toArray ++ Builtin.zeroCells z.cells n ++ Builtin.zeroCells z.cells (G - n)).size = G * sz := by
    have hz : ∀ k, (Builtin.zeroCells z.cells k).size = k * sz := fun k => by simp [Builtin.zeroCells, hzc]
    simp only [Array.size_append, hz, List.size_toArray, List.length_nil, Nat.zero_add]
    rw [← Nat.add_mul, Nat.add_sub_cancel' hge]
  generalize ([] : List Value).toArray ++ Builtin.zeroCells z.cells n ++ Builtin.zeroCells z.cells (G - n) = cur at *
  obtain ⟨s1, e1⟩ := sim.drew
  have s2 := s1.add hU [⟨0, sz, []⟩]
  obtain ⟨s3, e3⟩ := s2.alloc cur T H.n (hU _ (Nat.le_refl _)) ⟨0, sz, []⟩ (by simp [Hp.add]) (by simp) (by simp) (fun i hi => by simp at hi)
  have h2 : (w.drew.alloc (.cells cur T)).heap[w.heap.size]? = some (.cells cur T (0, 0)) := by
    show (w.heap.push _)[w.heap.size]? = _
    rw [Array.getElem?_push_size]
  refine ⟨_, F, _, .ref H.n 0 0 0, _, rfl, ⟨rfl, rfl⟩, s3, fun b hb => ?_, e1.trans e3, ?_⟩
  · have hb' : H.n + 1 ≤ b := by simpa [Hp.add] using hb
    rw [mput_ne _ _ (by omega)]
    exact hU b (by omega)
  · refine .ref _ _ _ _ _ _ ?_
    rw [mput_eq]
    exact ⟨Nat.le_refl _, fun _ => ⟨by simp, Nat.zero_le _, hle, by
      show _ ≤ rowSize _ w.heap.size
      rw [rowSize_cells h2, hsz2, Nat.zero_add]; exact Nat.le_refl _⟩⟩
theorem p_search_of {f : FuncId} (hok : callOk P f = true)
    (hc : ∀ (b off n c : Nat) (zs : List Int) (x : Int) (w : World), n ≤ zs.length → n < 4611686018427387904 → (∀ j, j < zs.length → w.cell? ⟨b, off + j, none⟩ = some (.int .i64 (zs.getD j 0))) → (zs.take n).Pairwise (· ≤ ·) →
      Calls P f #[.slice (some ⟨b, off, none⟩) n c, .int .i64 x] w fun e w' => e = .returned (.tuple #[.int .i64 ((zs.take n).countP (· < x) : Nat), .bool ((zs.take n).contains x)]) ∧ ∃ q, w' = w.drewN q)
    (h0 : ∀ (a : Option Addr) (c : Nat) (x : Int) (w : World), Calls P f #[.slice a 0 c, .int .i64 x] w fun e w' => e = .returned (.tuple #[.int .i64 0, .bool false]) ∧ w' = w)
    {xs : List Int} (hs : xs.Pairwise (· ≤ ·)) (hl : xs.length ≤ 1000000) (x : Int) : Pure P gl f [.sl (xs.map pz), .int .i64 x] (.tup [.int .i64 (xs.countP (· < x) : Nat), .bool (xs.contains x)]) := by
  refine ⟨hok, fun A w vs hA hg hvs => ?_⟩
  obtain ⟨v, u, rfl, hv, hu⟩ := csRel2 hvs
  cases hu
  have tw : ∀ {F : Nat → Prop} {w : World} {n : Nat} {b : Bool}, VRel F w noM (.tuple #[.int .i64 (n : Int), .bool b]) (.tup [.int .i64 (n : Int), .bool b]) := fun {F w n b} => .tup _ _ rfl fun i h1 h2 => by
    match i, h2 with
    | 0, _ => exact .int _ _
    | 1, _ => exact .bool _
  by_cases hne : xs = []
  · subst hne
    have : ∃ a c, v = .slice a 0 c := by
      simp only [List.map_nil] at hv
      generalize hl : ([] : List PV) = l at hv
      cases hv with
      | slnil A c hc => exact ⟨A, c, rfl⟩
      | sl ad c sz l cs => subst hl; exact ⟨some ad, c, rfl⟩
    obtain ⟨a, c, rfl⟩ := this
    refine (h0 a c x w).mono ?_
    rintro e w' ⟨rfl, rfl⟩
    exact ⟨_, rfl, Below.refl _ _, tw⟩
  · obtain ⟨b, off, c, rfl, hcell⟩ := sl_cells hne hv
    refine (hc b off xs.length c xs x w (Nat.le_refl _) (by omega) hcell (by rw [List.take_length]; exact hs)).mono ?_
    rw [List.take_length]
    rintro e w' ⟨rfl, q, rfl⟩
    exact ⟨_, rfl, ⟨rfl, rfl, rfl, Nat.le_refl _, fun _ _ => rfl⟩, tw⟩
end
section
variable {P : Program} {gl : Nat → Option PV} {e : Bool} {s : Env} {H : Hp} {l : Nodes} {Q : Env → Hp → Prop} {d : Option Nat} {bf : Nat}
theorem n_slice_hi0 {x i : RO} {sz b g off len : Nat} {k : IntKind} {c : Int} {xs : List PV} (hx : x.ev gl s = some (.ref b g off len)) (hi : i.ev gl s = some (.int k c)) (hb : H.f b = some ⟨g, sz, xs⟩) (h : c = 0) (kk : WN P gl e l (s.put d (some (.sl []))) H Q) : WN P gl e (.op d (.prim (.sliceSl sz false true false) [x, i]) bf l) s H Q := by
  subst h
  refine n_val rfl ?_ kk
  have e1 : bnd len (.int k 0) = some 0 := by simp only [bnd]; rw [if_pos ⟨by omega, by omega⟩]; rfl
  simp only [stepN, evs, hx, hi, Option.bind_eq_bind, Option.bind_some, Option.pure_def, primF, PV.lenP, bnds, e1, Option.map_some, Hp.blk, hb, if_true]
  try rfl
theorem n_slice_all {x i j : RO} {b g len : Nat} {k k2 : IntKind} {c c2 : Int} {xs : List PV} (hx : x.ev gl s = some (.ref b g 0 len)) (hi : i.ev gl s = some (.int k c)) (hj : j.ev gl s = some (.int k2 c2)) (hb : H.f b = some ⟨g, 3, xs⟩) (h : c = len) (h2 : c2 = len) (kk : WN P gl e l (s.put d (some (.ref b g 0 len))) H Q) : WN P gl e (.op d (.prim (.sliceSl 3 false true true) [x, i, j]) bf l) s H Q := by
  subst h h2
  refine n_val rfl ?_ kk
  have e1 : ∀ k, bnd len (.int k (len : Int)) = some len := fun k => by simp only [bnd]; rw [if_pos ⟨by omega, by omega⟩, Int.toNat_natCast]
  simp only [stepN, evs, hx, hi, hj, Option.bind_eq_bind, Option.bind_some, Option.pure_def, primF, PV.lenP, bnds, e1, Option.map_some, Hp.blk, hb, if_true]
  by_cases h0 : 0 = len
  · subst h0; simp
  · simp [h0]
theorem n_slice_all_sl {x i j : RO} {sz : Nat} {k k2 : IntKind} {c c2 : Int} {xs : List PV} (hx : x.ev gl s = some (.sl xs)) (hi : i.ev gl s = some (.int k c)) (hj : j.ev gl s = some (.int k2 c2)) (hz : (xs.all fun e => e.cells.length == sz) = true) (h : c = xs.length) (h2 : c2 = xs.length) (kk : WN P gl e l (s.put d (some (.sl xs))) H Q) : WN P gl e (.op d (.prim (.sliceSl sz false true true) [x, i, j]) bf l) s H Q := by
  subst h h2
  refine n_val rfl ?_ kk
  have e1 : ∀ k, bnd xs.length (.int k (xs.length : Int)) = some xs.length := fun k => by simp only [bnd]; rw [if_pos ⟨by omega, by omega⟩, Int.toNat_natCast]
  simp only [stepN, evs, hx, hi, hj, Option.bind_eq_bind, Option.bind_some, Option.pure_def, primF, PV.lenP, bnds, e1, Option.map_some, hz, if_true]
  split
  · rename_i h0
    have : xs = [] := List.eq_nil_of_length_eq_zero h0.symm
    subst this; rfl
  · simp
theorem softs2 {bor : Bool} {x y x' y' : PV} (h1 : soft H bor x = some x') (h2 : soft H bor y = some y') : softs H bor [x, y] = some [x', y'] := by
  simp only [softs, h1, h2, Option.bind_eq_bind, Option.bind_some]
end
end Go.Vm
namespace Go.Vm
open Go Go.RowKit
def nilC (p q : PV) : Prop := p = q ∨ (p = .lit [] ∧ q = .sl [])
theorem nilC.rel {F : Nat → Prop} {m : Nat → Slot} {w : World} {v : Value} {p q : PV} (h : VRel F w m v p) (k : nilC p q) : VRel F w m v q := by
  rcases k with rfl | ⟨rfl, rfl⟩
  · exact h
  · generalize hl : ([] : List PV) = l at h
    cases h with
    | litnil => exact .slnil none 0 (Nat.zero_le _)
    | lit ad sz l cs hF hm hz hcell h => subst hl; exact .slnil (some ad) 0 (Nat.zero_le _)
structure WkB (xs xs' : List PV) : Prop where
  len : xs.length = xs'.length
  cell : ∀ i (h : i < xs.length) (h' : i < xs'.length), (xs[i]).cells.length = (xs'[i]).cells.length ∧ ∀ j (q : j < (xs[i]).cells.length) (q' : j < (xs'[i]).cells.length), nilC (xs[i]).cells[j] (xs'[i]).cells[j]
theorem WkB.rfl {xs : List PV} : WkB xs xs := ⟨_root_.rfl, fun i h h' => ⟨_root_.rfl, fun j q q' => .inl _root_.rfl⟩⟩
def WkC (p q : PV) : Prop := p.cells.length = q.cells.length ∧ ∀ j (h : j < p.cells.length) (h' : j < q.cells.length), nilC p.cells[j] q.cells[j]
theorem WkC.rfl {p : PV} : WkC p p := ⟨_root_.rfl, fun j q q' => .inl _root_.rfl⟩
theorem WkB.set {xs : List PV} {k : Nat} {p q : PV} (h : WkC p q) : WkB (xs.set k p) (xs.set k q) := by
  refine ⟨by simp, fun i h1 h2 => ?_⟩
  by_cases e : k = i
  · subst e
    simp only [List.getElem_set_self]
    exact h
  · simp only [List.getElem_set_ne e]
    exact ⟨trivial, fun j q q' => .inl _root_.rfl⟩
theorem WkB.app {xs : List PV} {p q : PV} (h : WkC p q) : WkB (xs ++ [p]) (xs ++ [q]) := by
  refine ⟨by simp, fun i h1 h2 => ?_⟩
  by_cases e : i < xs.length
  · simp only [List.getElem_append_left e]
    exact ⟨trivial, fun j q q' => .inl _root_.rfl⟩
  · simp only [List.length_append, List.length_singleton] at h1
    obtain rfl : i = xs.length := by omega
    simp only [List.getElem_append_right (Nat.le_refl _), Nat.sub_self, List.getElem_singleton]
    exact h
theorem wkc_bk (b : Bool) : WkC (.agg [.bool b, .lit [], .lit []]) (.agg [.bool b, .sl [], .sl []]) := by
  refine ⟨rfl, fun j h h' => ?_⟩
  simp only [PV.cells, List.length_cons, List.length_nil] at h
  match j, h with
  | 0, _ => exact .inl rfl
  | 1, _ => exact .inr ⟨rfl, rfl⟩
  | 2, _ => exact .inr ⟨rfl, rfl⟩
section
variable {P : Program} {gl : Nat → Option PV} {n0 : Nat} {s : Env} {H : Hp} {Q : Ex → Env → Hp → Prop}
theorem gh_nil {b g z : Nat} {xs xs' : List PV} (hb : H.f b = some ⟨g, z, xs⟩) (hw : WkB xs xs') (h3 : ∃ e ∈ xs, e.cells.length = 3) (hmb : mapB xs = true) : Gh gl n0 s H s (H.set b ⟨g, z, xs'⟩) := by
  rintro A w0 F0 m0 w00 N ds a w hm ⟨F, m, sim, ev, ht, hu, hr⟩
  refine ⟨F, m, ?_, ev, ht, hu, hr⟩
  refine ⟨sim.below, sim.live, sim.inj, sim.frz, sim.frzlt, fun c k hk hnu => ?_, sim.glob⟩
  rw [Hp.set_f hb] at hk
  by_cases e : c = b
  · subst e
    rw [if_pos rfl] at hk
    obtain rfl := (Option.some.inj hk).symm
    obtain ⟨x, hx, hx3⟩ := h3
    rcases sim.blk c ⟨g, z, xs⟩ hb hnu with ⟨β, hm, ⟨cv, T, h1, h2, h3, h4⟩⟩ | ⟨_, hx0⟩ | ⟨β, _, es, c0, _, h2, h3⟩ | ⟨_, _, L, _, _, hx0, _⟩
    · refine .inl ⟨β, hm, cv, T, h1, by have := hw.len; simp only at *; rw [← this]; exact h2, fun x hx => ?_, fun i hi j hj => ?_⟩
      · obtain ⟨i, hi, rfl⟩ := List.getElem_of_mem hx
        have hi' : i < xs.length := by rw [hw.len]; exact hi
        rw [← (hw.cell i hi' hi).1]
        exact h3 _ (List.getElem_mem hi')
      · have hi' : i < xs.length := by rw [hw.len]; exact hi
        obtain ⟨q1, q2⟩ := hw.cell i hi' hi
        obtain ⟨v, hv, hrel⟩ := h4 i hi' j (by rw [q1]; exact hj)
        exact ⟨v, hv, hrel |> fun h => nilC.rel h (q2 j _ hj)⟩
    · simp only at hx0
      subst hx0
      cases hx
    · obtain ⟨i, hi, rfl⟩ := List.getElem_of_mem hx
      obtain ⟨n, b, _, _, h⟩ := h3 i (by rw [h2]; exact hi) hi
      simp only at h
      rw [h] at hx3
      simp [PV.cells] at hx3
    · simp only at hx0
      rw [hx0] at hmb
      cases hmb
  · rw [if_neg e] at hk
    cases hc : H.f c with
    | none => rw [hc] at hk; cases hk
    | some k' =>
      rw [hc] at hk
      obtain rfl := (Option.some.inj hk).symm
      exact sim.blk c _ hc hnu
theorem tr_nil {c : RCode} {b g z : Nat} {xs xs' : List PV} (hb : H.f b = some ⟨g, z, xs⟩) (hw : WkB xs xs') (h3 : ∃ e ∈ xs, e.cells.length = 3) (hmb : mapB xs = true) (k : Tr P gl n0 c s (H.set b ⟨g, z, xs'⟩) Q) : Tr P gl n0 c s H Q := tr_ghost (gh_nil hb hw h3 hmb) k
end
structure Dl (q : Int → Bool) (l ys : List Int) (i j : Nat) : Prop where
  len : ys.length = l.length
  hij : i < j
  hj : j ≤ l.length
  pre : ys.take i = (l.take j).filter fun x => !q x
  suf : ∀ m, j ≤ m → ys.getD m 0 = l.getD m 0
theorem Dl.start {q : Int → Bool} {l : List Int} {k : Nat} (hk : k < l.length) (h : q (l.getD k 0) = true) (hn : ∀ j, j < k → q (l.getD j 0) = false) : Dl q l l k (k + 1) := by
  refine ⟨rfl, by omega, by omega, ?_, fun _ _ => rfl⟩
  rw [← take_snoc1 hk 0, List.filter_append]
  have h1 : (l.take k).filter (fun x => !q x) = l.take k := by
    rw [List.filter_eq_self]
    intro a ha
    obtain ⟨j, hj, rfl⟩ := List.getElem_of_mem ha
    rw [List.length_take] at hj
    have := hn j (by omega)
    rw [List.getD_eq_getElem?_getD, List.getElem?_eq_getElem (by omega), Option.getD_some] at this
    simp [this]
  rw [h1, List.filter_cons, h]
  simp
theorem Dl.skip {q : Int → Bool} {l ys : List Int} {i j : Nat} (h : Dl q l ys i j) (hj : j < l.length) (hq : q (ys.getD j 0) = true) : Dl q l ys i (j + 1) := by
  refine ⟨h.len, by have := h.hij; omega, by omega, ?_, fun m hm => h.suf m (by omega)⟩
  rw [h.suf j (Nat.le_refl _)] at hq
  rw [h.pre, ← take_snoc1 hj 0, List.filter_append, List.filter_cons, hq]
  simp
theorem Dl.keep {q : Int → Bool} {l ys : List Int} {i j : Nat} (h : Dl q l ys i j) (hj : j < l.length) (hq : q (ys.getD j 0) = false) : Dl q l (ys.set i (ys.getD j 0)) (i + 1) (j + 1) := by
  have h1 := h.hij
  have h2 := h.len
  refine ⟨by simp [h2], by omega, by omega, ?_, fun m hm => ?_⟩
  · rw [h.suf j (Nat.le_refl _)] at hq ⊢
    rw [← take_snoc1 hj 0, List.filter_append, ← h.pre]
    rw [← take_snoc1 (l := ys.set i (l.getD j 0)) (by simp; omega) 0]
    congr 1
    · rw [List.take_set_of_le (by omega)]
    · rw [List.getD_eq_getElem?_getD, List.getElem?_set_self (by omega)]
      simp only [Option.getD_some, List.filter_cons, hq, Bool.not_false, if_true, List.filter_nil]
  · rw [List.getD_eq_getElem?_getD, List.getElem?_set_ne (by omega), ← List.getD_eq_getElem?_getD]
    exact h.suf m (by omega)
theorem Dl.fin {q : Int → Bool} {l ys : List Int} {i j : Nat} (h : Dl q l ys i j) (hj : ¬ j < l.length) : ys.take i = l.filter (fun x => !q x) ∧ i = (l.filter fun x => !q x).length := by
  have h1 := h.pre
  have h2 := h.hij
  have h3 := h.hj
  have h4 := h.len
  rw [List.take_of_length_le (l := l) (by omega)] at h1
  refine ⟨h1, ?_⟩
  rw [← h1, List.length_take]
  omega
theorem wto_filter (l : List Int) (n : Int) : (l.filter fun x => !(x == n)) = wtoV l n := by
  unfold wtoV
  refine List.filter_congr fun x _ => ?_
  simp [bne]
theorem del_end {l ys : List Int} {n : Int} {i j : Nat} (h : Dl (fun x => x == n) l ys i j) (hj : ¬ j < l.length) : i = (wtoV l n).length ∧ ys.take i ++ List.replicate (l.length - i) 0 ++ ys.drop (i + (l.length - i)) = wtoV l n ++ List.replicate (l.length - (wtoV l n).length) 0 := by
  obtain ⟨h1, h2⟩ := h.fin hj
  rw [wto_filter] at h1 h2
  have h3 := h.len
  have h4 := h.hij
  have h5 := h.hj
  refine ⟨h2, ?_⟩
  rw [List.drop_of_length_le (by omega), List.append_nil, h1, ← h2]
theorem wto_none {l : List Int} {n : Int} (h : ∀ j, j < l.length → (l.getD j 0 == n) = false) : wtoV l n = l := by
  unfold wtoV
  rw [List.filter_eq_self]
  intro a ha
  obtain ⟨j, hj, rfl⟩ := List.getElem_of_mem ha
  have := h j hj
  rw [List.getD_eq_getElem?_getD, List.getElem?_eq_getElem hj, Option.getD_some] at this
  simpa [bne] using this
theorem fidx_neg {α : Type} {q : α → Bool} (a0 : α) {l : List α} (h : fidx q l = -1) : ∀ j, j < l.length → q (l.getD j a0) = false := by
  intro j hj
  have h1 := fidx_in q l
  rw [h] at h1
  have h2 : l.any q = false := by rw [← h1]; rfl
  rw [List.any_eq_false] at h2
  have := h2 (l.getD j a0) (getD_mem a0 hj)
  simpa using this
theorem fidx_pos {α : Type} {q : α → Bool} (a0 : α) : ∀ {l : List α}, fidx q l ≠ -1 → ∃ k : Nat, fidx q l = (k : Int) ∧ k < l.length ∧ q (l.getD k a0) = true ∧ ∀ j, j < k → q (l.getD j a0) = false
  | [], h => absurd rfl h
  | x :: r, h => by
    by_cases hx : q x = true
    · exact ⟨0, by simp [fidx, hx], by simp, by simpa using hx, fun j hj => absurd hj (by omega)⟩
    · have hx : q x = false := by simpa using hx
      by_cases hr : fidx q r = -1
      · simp [fidx, hx, hr] at h
      · obtain ⟨k, h1, h2, h3, h4⟩ := fidx_pos a0 hr
        refine ⟨k + 1, ?_, by simpa using h2, by simpa using h3, fun j hj => ?_⟩
        · simp only [fidx, hx, Bool.false_eq_true, if_false, h1]
          rw [if_neg (by omega)]
          omega
        · cases j with
          | zero => simpa using hx
          | succ j => simpa using h4 j (by omega)
theorem take_lt {l : List Int} (h : l.Pairwise (· ≤ ·)) (n : Int) : l.take (l.countP (· < n)) = l.takeWhile (fun x => decide (x < n)) ∧ l.drop (l.countP (· < n)) = l.dropWhile (fun x => decide (x < n)) := by
  have e : l.countP (· < n) = (l.takeWhile fun x => decide (x < n)).length := by
    induction l with
    | nil => rfl
    | cons x l ih =>
      have h2 := List.pairwise_cons.1 h
      by_cases hx : x < n
      · rw [List.countP_cons_of_pos (by simpa using hx), List.takeWhile_cons_of_pos (by simpa using hx), List.length_cons, ih h2.2]
      · rw [List.countP_cons_of_neg (by simpa using hx), List.takeWhile_cons_of_neg (by simpa using hx), List.length_nil, List.countP_eq_zero]
        intro y hy
        have := h2.1 y hy
        simp only [decide_eq_true_eq]
        omega
  rw [e]
  have := List.takeWhile_append_dropWhile (p := fun x => decide (x < n)) (l := l)
  constructor
  · exact (congrArg (List.take _) this.symm).trans List.take_left
  · exact (congrArg (List.drop _) this.symm).trans List.drop_left
theorem with_eq {l : List Int} (h : l.Pairwise (· ≤ ·)) (n : Int) : l.take (l.countP (· < n)) ++ [n] ++ l.drop (l.countP (· < n)) = withV l n := by
  rw [(take_lt h n).1, (take_lt h n).2, withV, List.append_assoc, List.singleton_append]
theorem up_le {l : List Int} (h : Up l) : l.Pairwise (· ≤ ·) := h.imp fun h => by omega
def totL {α : Type} (ls : List (List α)) : Nat := (ls.map List.length).sum
theorem totL_take {α : Type} {ls : List (List α)} {k : Nat} (h : k < ls.length) : totL (ls.take k) + (ls.getD k []).length = totL (ls.take (k + 1)) := by
  unfold totL
  rw [← take_snoc1 h [], List.map_append, List.sum_append]
  simp
theorem totL_flat {α : Type} (ls : List (List α)) : ls.flatten.length = totL ls := by rw [List.length_flatten]; rfl
theorem flat_takeL {α : Type} {ls : List (List α)} {k : Nat} (h : k < ls.length) : (ls.take k).flatten ++ ls.getD k [] = (ls.take (k + 1)).flatten := by
  rw [← take_snoc1 h [], List.flatten_append]
  simp
theorem totL_le {α : Type} (ls : List (List α)) (k : Nat) : totL (ls.take k) ≤ totL ls := by
  unfold totL
  conv => rhs; rw [← List.take_append_drop k ls]
  rw [List.map_append, List.sum_append]
  omega
theorem tot_end {α : Type} {ls : List (List α)} {k : Nat} {t : Int} (h1 : k ≤ ls.length) (h2 : t = (totL (ls.take k) : Nat)) (h : ls.length ≤ k) : k = ls.length ∧ t = (totL ls : Nat) := by
  obtain rfl : k = ls.length := by omega
  rw [List.take_of_length_le (Nat.le_refl _)] at h2
  exact ⟨rfl, h2⟩
theorem trim_step {m : List Bk} (h0 : 0 < m.length) (hl : (m.getD (m.length - 1) B0).live = false) : trimB (m.take (m.length - 1)) = trimB m := by
  have h := take_snoc1 (l := m) (k := m.length - 1) (by omega) B0
  rw [show m.length - 1 + 1 = m.length by omega, List.take_length] at h
  conv => rhs; rw [← h]
  rw [trimB_snoc, hl]
  simp
theorem trim_stop {m : List Bk} (h : m.length = 0 ∨ (m.getD (m.length - 1) B0).live = true) : trimB m = m := by
  rw [trim_at 0 rfl (fun j h1 h2 => by omega) h, List.take_length]
theorem trim_more {l : List Bk} {k : Nat} (h0 : 0 < k) (hk : k ≤ l.length) (ht : trimB (l.take k) = trimB l) (hl : (l.getD (k - 1) B0).live = false) (hp : 0 < (trimB l).length) : 1 < k ∧ trimB (l.take (k - 1)) = trimB l := by
  have e1 : (l.take k).length = k := by rw [List.length_take]; omega
  have e2 : (l.take k).getD (k - 1) B0 = l.getD (k - 1) B0 := by simp [List.getD_eq_getElem?_getD, List.getElem?_take, show k - 1 < k by omega]
  have h1 := trim_step (m := l.take k) (by omega) (by rw [e1, e2]; exact hl)
  rw [e1, List.take_take, Nat.min_eq_left (by omega), ht] at h1
  refine ⟨?_, h1⟩
  by_cases h2 : 1 < k
  · exact h2
  · rw [← h1, show k - 1 = 0 by omega] at hp
    simp [trimB] at hp
theorem trim_halt {l : List Bk} {k : Nat} (hk : k ≤ l.length) (ht : trimB (l.take k) = trimB l) (h : k = 0 ∨ (l.getD (k - 1) B0).live = true) : l.take k = trimB l := by
  rw [← ht]
  have e1 : (l.take k).length = k := by rw [List.length_take]; omega
  refine (trim_stop ?_).symm
  rcases h with h | h
  · left; omega
  · by_cases h0 : k = 0
    · left; omega
    · right
      rw [e1]
      have e2 : (l.take k).getD (k - 1) B0 = l.getD (k - 1) B0 := by simp [List.getD_eq_getElem?_getD, List.getElem?_take, show k - 1 < k by omega]
      rw [e2]; exact h
theorem trim_cond {l : List Bk} {k : Nat} (h : (decide ((k : Int) > 0) && !(l.getD (0 + ((k : Int) - 1).toNat) B0).live) = true) : 0 < k ∧ (l.getD (k - 1) B0).live = false := by
  have e : 0 + ((k : Int) - 1).toNat = k - 1 := by omega
  rw [e] at h
  simp only [Bool.and_eq_true, decide_eq_true_eq, Bool.not_eq_true'] at h
  exact ⟨by omega, h.2⟩
theorem trim_cond0 {l : List Bk} {k : Nat} (h : (decide ((k : Int) > 0) && !(l.getD (0 + ((k : Int) - 1).toNat) B0).live) = false) : k = 0 ∨ (l.getD (k - 1) B0).live = true := by
  have e : 0 + ((k : Int) - 1).toNat = k - 1 := by omega
  rw [e] at h
  simp only [Bool.and_eq_false_iff, decide_eq_false_iff_not, Bool.not_eq_false'] at h
  rcases h with h | h
  · left; omega
  · exact .inr h
theorem trim_hi {l : List Bk} {k : Nat} (h : (decide ((k : Int) > 0) && !(l.getD (0 + ((k : Int) - 1).toNat) B0).live) = true) (hx : k ≤ l.length ∧ trimB (l.take k) = trimB l) (hp : 0 < (trimB l).length) : 0 < (k : Int) - 1 ∧ (k : Int) - 1 ≤ (k : Nat) := by
  obtain ⟨h1, h2⟩ := trim_cond h
  have := (trim_more h1 hx.1 hx.2 h2 hp).1
  omega
theorem trim_nx {l : List Bk} {k : Nat} (h : (decide ((k : Int) > 0) && !(l.getD (0 + ((k : Int) - 1).toNat) B0).live) = true) (hx : k ≤ l.length ∧ trimB (l.take k) = trimB l) (hp : 0 < (trimB l).length) : ((k : Int) - 1).toNat ≤ l.length ∧ trimB (l.take ((k : Int) - 1).toNat) = trimB l := by
  obtain ⟨h1, h2⟩ := trim_cond h
  have := (trim_more h1 hx.1 hx.2 h2 hp).2
  have e : ((k : Int) - 1).toNat = k - 1 := by omega
  rw [e]
  exact ⟨by omega, this⟩
theorem trim_out {l : List Bk} {k : Nat} (h : (decide ((k : Int) > 0) && !(l.getD (0 + ((k : Int) - 1).toNat) B0).live) = false) (hx : k ≤ l.length ∧ trimB (l.take k) = trimB l) : k = (trimB l).length := by
  rw [← trim_halt hx.1 hx.2 (trim_cond0 h), List.length_take]
  omega
theorem tr_nilB {P : Program} {gl : Nat → Option PV} {n0 : Nat} {s : Env} {H : Hp} {Q : Ex → Env → Hp → Prop} {c : RCode} {b g z k : Nat} {bs : List Bk} {v : Bool} (hk : k < bs.length) (hb : H.f b = some ⟨g, z, (bs.map pB).set k (.agg [.bool v, .lit [], .lit []])⟩) (kk : Tr P gl n0 c s (H.set b ⟨g, z, (bs.set k ⟨v, [], []⟩).map pB⟩) Q) : Tr P gl n0 c s H Q := by
  refine tr_nil (xs' := (bs.set k ⟨v, [], []⟩).map pB) hb ?_ ⟨.agg [.bool v, .lit [], .lit []], List.mem_set (by simpa using hk) _, rfl⟩ ?_ kk
  · rw [List.map_set]
    exact WkB.set (wkc_bk v)
  · cases bs with
    | nil => rfl
    | cons x bs => cases k <;> rfl
def wB (b : Int) (x : Bk) : Bk := ⟨x.live, x.code, wtoV x.succ b⟩
theorem del_step {O : List Bk} {b : Int} {j : Nat} (h : j < O.length) : (mixL (O.map (wB b)) O j).set j (wB b ((mixL (O.map (wB b)) O j).getD j B0)) = mixL (O.map (wB b)) O (j + 1) := by
  have h1 : (O.map (wB b)).length = O.length := by simp
  rw [mixL_getD h1 h, ← mixL_set h1 h B0]
  congr 1
  simp only [List.getD_eq_getElem?_getD, List.getElem?_map, List.getElem?_eq_getElem h, Option.map_some, Option.getD_some]
theorem del_all {O : List Bk} {b : Int} {j : Nat} (h : O.length ≤ j) : mixL (O.map (wB b)) O j = O.map (wB b) := mixL_full h (by simpa using h)
theorem mix_len {O : List Bk} {b : Int} {j : Nat} : (mixL (O.map (wB b)) O j).length = O.length := mixL_length (by simp)
theorem mix_at {O : List Bk} {b : Int} {j : Nat} (h : j < O.length) : (mixL (O.map (wB b)) O j).getD j B0 = O.getD j B0 := mixL_getD (by simp) h B0
theorem delB_eq (bs : List Bk) (b : Int) : delB bs b = trimB ((bs.set b.toNat B0).map (wB b)) := rfl
section
variable {P : Program} {gl : Nat → Option PV} {e : Bool} {s : Env} {H : Hp} {l : Nodes} {Q : Env → Hp → Prop} {d : Option Nat} {bf : Nat} {α : Type} {f : α → PV}
theorem vals_size {sz : Nat} (hf : ∀ a, (f a).cells.length = sz) (xs : List α) : ((xs.map f).all fun e => e.cells.length == sz) = true := by
  rw [List.all_map, List.all_eq_true]
  exact fun a _ => by simp [hf a]
theorem n_slice_hi_v {x i : RO} {sz : Nat} {k : IntKind} {c : Int} {xs : List α} (hx : x.ev gl s = some (.sl (xs.map f))) (hi : i.ev gl s = some (.int k c)) (hf : ∀ a, (f a).cells.length = sz) (h : 0 ≤ c ∧ c ≤ (xs.length : Nat)) (kk : WN P gl e l (s.put d (some (.sl ((xs.take c.toNat).map f)))) H Q) : WN P gl e (.op d (.prim (.sliceSl sz false true false) [x, i]) bf l) s H Q := by
  refine n_slice_hi_sl hx hi (vals_size hf xs) (by simpa using h) ?_
  rw [← List.map_take]
  exact kk
theorem n_slice_lo_v {x i : RO} {sz : Nat} {k : IntKind} {c : Int} {xs : List α} (hx : x.ev gl s = some (.sl (xs.map f))) (hi : i.ev gl s = some (.int k c)) (hf : ∀ a, (f a).cells.length = sz) (h : 0 ≤ c ∧ c ≤ (xs.length : Nat)) (kk : WN P gl e l (s.put d (some (.sl ((xs.drop c.toNat).map f)))) H Q) : WN P gl e (.op d (.prim (.sliceSl sz true false false) [x, i]) bf l) s H Q := by
  refine n_slice_lo_sl hx hi (vals_size hf xs) (by simpa using h) ?_
  rw [← List.map_drop]
  exact kk
theorem n_slice_all_v {x i j : RO} {sz : Nat} {k k2 : IntKind} {c c2 : Int} {xs : List α} (hx : x.ev gl s = some (.sl (xs.map f))) (hi : i.ev gl s = some (.int k c)) (hj : j.ev gl s = some (.int k2 c2)) (hf : ∀ a, (f a).cells.length = sz) (h : c = (xs.map f).length) (h2 : c2 = (xs.map f).length) (kk : WN P gl e l (s.put d (some (.sl (xs.map f)))) H Q) : WN P gl e (.op d (.prim (.sliceSl sz false true true) [x, i, j]) bf l) s H Q :=
  n_slice_all_sl hx hi hj (vals_size hf xs) h h2 kk
theorem n_callvb {f : FuncId} {x : RO} {caps : List PV} {args : List RO} {us us' : List PV} {r : PV} (h0 : x.ev gl s = some (.fn f caps)) (h1 : evs (RO.ev gl s) args = some us) (h2 : softs H true (us ++ caps) = some us') (h3 : Pure P gl f us' r) (h4 : scal r = true) (k : WN P gl e l (s.put d (some r)) H Q) : WN P gl e (.op d (.callv x args) bf l) s H Q :=
  .inl ⟨f, caps, us, h0, h1, .inl ⟨true, us', r, h2, h3, fun _ => h4, k⟩⟩
theorem n_load_fld {es : Shape} {x : RO} {b g i off sz : Nat} {xs : List α} (a0 : α) {r : PV} (hx : x.ev gl s = some (.ptr b g i off)) (hb : H.f b = some ⟨g, sz, xs.map f⟩) (hr : subv es ((f (xs.getD i a0)).cells.drop off) = some r) (h : i < xs.length) (kk : WN P gl e l (s.put d (some r)) H Q) : WN P gl e (.op d (.load es x) bf l) s H Q := by
  refine n_val rfl ?_ kk
  have hy := getD_map (f := f) a0 h
  simp only [stepN, hx, Option.bind_eq_bind, Option.bind_some, Hp.blk, hb, if_true, hy, hr, Option.pure_def]
theorem n_store_fld {b g i off n sz : Nat} {x v : RO} {p : PV} {xs : List α} (a0 a : α) (hx : x.ev gl s = some (.ptr b g i off)) (hv : v.ev gl s = some p) (hb : H.f b = some ⟨g, sz, xs.map f⟩) (hn : (p.cells.length == n && p.cells.all PV.one) = true) (hp : putAt [f (xs.getD i a0)] 0 off p = some [f a]) (h : i < xs.length) (k : WN P gl e l (s.put d none) (H.set b ⟨g, sz, (xs.set i a).map f⟩) Q) : WN P gl e (.op d (.store n x v) bf l) s H Q := by
  refine n_store (xs' := (xs.set i a).map f) hx hv hb hn ?_ k
  have hy := getD_map (f := f) a0 h
  simp only [putAt, hy, List.getElem?_cons_zero, Option.bind_eq_bind, Option.bind_some] at hp ⊢
  rw [List.map_set]
  split at hp
  · rename_i q
    rw [if_pos q]
    simp only [List.set_cons_zero, Option.some.injEq, List.cons.injEq, and_true] at hp
    rw [hp]
  · rename_i q
    rw [if_neg q]
    split at hp
    · rename_i q2
      rw [if_pos q2]
      simp only [List.set_cons_zero, Option.some.injEq, List.cons.injEq, and_true] at hp
      rw [hp]
    · cases hp
theorem n_store_raw {b g i off n sz : Nat} {x v : RO} {p q : PV} {xs : List α} (a0 : α) (hx : x.ev gl s = some (.ptr b g i off)) (hv : v.ev gl s = some p) (hb : H.f b = some ⟨g, sz, xs.map f⟩) (hn : (p.cells.length == n && p.cells.all PV.one) = true) (hp : putAt [f (xs.getD i a0)] 0 off p = some [q]) (h : i < xs.length) (k : WN P gl e l (s.put d none) (H.set b ⟨g, sz, (xs.map f).set i q⟩) Q) : WN P gl e (.op d (.store n x v) bf l) s H Q := by
  refine n_store (xs' := (xs.map f).set i q) hx hv hb hn ?_ k
  have hy := getD_map (f := f) a0 h
  simp only [putAt, hy, List.getElem?_cons_zero, Option.bind_eq_bind, Option.bind_some] at hp ⊢
  split at hp
  · rename_i z
    rw [if_pos z]
    simp only [List.set_cons_zero, Option.some.injEq, List.cons.injEq, and_true] at hp
    rw [hp]
  · rename_i z
    rw [if_neg z]
    split at hp
    · rename_i z2
      rw [if_pos z2]
      simp only [List.set_cons_zero, Option.some.injEq, List.cons.injEq, and_true] at hp
      rw [hp]
    · cases hp
theorem fz_agg3 {k : Nat} {a b c a' b' c' : PV} (h1 : fz1 H k a = some a') (h2 : fz1 H k b = some b') (h3 : fz1 H k c = some c') : fz H k (.agg [a, b, c]) = some (.agg [a', b', c']) := by
  simp only [fz, fz0, fzL, h1, h2, h3, Option.bind_eq_bind, Option.bind_some, Option.map_some]
theorem fzP_app {k : Nat} {xs ys xs' ys' : List PV} (h : fzP H k xs = some xs') (h2 : fzP H k ys = some ys') : fzP H k (xs ++ ys) = some (xs' ++ ys') := by
  induction xs generalizing xs' with
  | nil => cases h; exact h2
  | cons x xs ih =>
    simp only [fzP, Option.bind_eq_bind, Option.bind_eq_some_iff] at h
    obtain ⟨y, h1, l, h3, h4⟩ := h
    obtain rfl := (Option.some.inj h4).symm
    simp only [List.cons_append, fzP, h1, ih h3, Option.bind_eq_bind, Option.bind_some]
theorem fzP_set {k i : Nat} {xs ys : List PV} {q q' : PV} (h : fzP H k xs = some ys) (hq : fz H k q = some q') : fzP H k (xs.set i q) = some (ys.set i q') := by
  induction xs generalizing i ys with
  | nil => cases h; rfl
  | cons x xs ih =>
    simp only [fzP, Option.bind_eq_bind, Option.bind_eq_some_iff] at h
    obtain ⟨y, h1, l, h2, h3⟩ := h
    obtain rfl := (Option.some.inj h3).symm
    cases i with
    | zero => simp only [List.set_cons_zero, fzP, hq, h2, Option.bind_eq_bind, Option.bind_some]
    | succ i => simp only [List.set_cons_succ, fzP, h1, ih h2, Option.bind_eq_bind, Option.bind_some]
theorem fzP_setv {k i : Nat} {xs : List α} {q : PV} (a : α) (hf : ∀ a, pureE (f a) = true) (hq : fz H k q = some (f a)) : fzP H k ((xs.map f).set i q) = some ((xs.set i a).map f) := by
  rw [List.map_set]
  exact fzP_set (fzP_vals hf rfl) hq
theorem fz1_vals {k b g sz len : Nat} {xs : List α} (hk : k ≤ b) (hb : H.f b = some ⟨g, sz, xs.map f⟩) (hf : ∀ a, pureE (f a) = true) (hl : len = xs.length) : fz1 H k (.ref b g 0 len) = some (.sl (xs.map f)) := by
  subst hl
  refine fz1_row hk ?_ (vals_pure hf xs)
  simp [elems, Hp.blk, hb, List.take_of_length_le]
theorem n_copy_all {sz b g len : Nat} {x v : RO} {p : PV} {xs ys : List PV} (hx : x.ev gl s = some (.ref b g 0 len)) (hv : v.ev gl s = some p) (hb : H.f b = some ⟨g, sz, xs⟩) (he : elems H p = some ys) (ho : cellsOk sz ys = true) (h1 : ys.length = len) (h2 : xs.length = len)
    (k : WN P gl e l (s.put d (some (.int .i64 (len : Int)))) (H.set b ⟨g, sz, ys⟩) Q) : WN P gl e (.op d (.copy sz x v) bf l) s H Q := by
  refine n_copy hx hv hb he ?_ (by omega) ?_
  · rw [h1, Nat.min_self, ← h1, List.take_length]; exact ho
  · rw [h1, Nat.min_self, ← h1, List.take_length]
    rw [show splice xs 0 ys = ys by unfold splice; rw [List.take_zero, List.nil_append, List.drop_of_length_le (by omega), List.append_nil], h1]
    exact k
theorem n_store_same {b g i off n sz : Nat} {x v : RO} {p : PV} {xs : List α} (a0 : α) (hx : x.ev gl s = some (.ptr b g i off)) (hv : v.ev gl s = some p) (hb : H.f b = some ⟨g, sz, xs.map f⟩) (hn : (p.cells.length == n && p.cells.all PV.one) = true) (hp : putAt [f (xs.getD i a0)] 0 off p = some [f (xs.getD i a0)]) (h : i < xs.length) (k : WN P gl e l (s.put d none) (H.set b ⟨g, sz, xs.map f⟩) Q) : WN P gl e (.op d (.store n x v) bf l) s H Q := by
  refine n_store_fld a0 (xs.getD i a0) hx hv hb hn hp h ?_
  have : xs.set i (xs.getD i a0) = xs := by
    rw [List.getD_eq_getElem?_getD, List.getElem?_eq_getElem h, Option.getD_some, List.set_getElem_self]
  rw [this]
  exact k
end
theorem first_all {l : List (Int × Bool)} (h : firstV l = 0) (h0 : ∀ q ∈ l, q.1 ≠ 0) : ∀ q ∈ l, q.2 = false := by
  induction l with
  | nil => intro q hq; cases hq
  | cons x l ih =>
    obtain ⟨e, b⟩ := x
    obtain ⟨h1, h2⟩ := first_zero h (h0 (e, b) (by simp))
    intro q hq
    rcases List.mem_cons.1 hq with rfl | hq
    · exact h1
    · exact ih h2 (fun q hq => h0 q (by simp [hq])) q hq
theorem code_live {p : List Fn} {f b : Int} {g : Fn} (hf : funV p f = some g) (hl : liveF g b = true) : codeV p f b = (g.bs.getD b.toNat B0).code := by
  unfold codeV blkV
  rw [hf, Option.getD_some, if_pos hl, Option.getD_some]
theorem che_blk {p : List Fn} {e : Ed} (h : cheV p e = 0) (h3 : 2 ≤ e.op) : 0 ≤ e.b ∧ e.b.toNat < (p.getD e.f.toNat F0).bs.length ∧ Up ((p.getD e.f.toNat F0).bs.getD e.b.toNat B0).succ ∧
    (e.op = 2 → e.b ≠ 0) ∧ (e.op = 6 → 0 ≤ e.pos ∧ e.pos ≤ (((p.getD e.f.toNat F0).bs.getD e.b.toNat B0).code.length : Nat)) ∧ (e.op = 7 → 0 ≤ e.pos ∧ e.pos < (((p.getD e.f.toNat F0).bs.getD e.b.toNat B0).code.length : Nat)) := by
  obtain ⟨hr, ho⟩ := che_oth h (by omega)
  obtain ⟨hk, hf⟩ := che_fun h (by omega)
  have hop := che_op h
  have hs := (sane_iff p).1 (che_sane h)
  have key : liveF (p.getD e.f.toNat F0) e.b = true → 0 ≤ e.b ∧ e.b.toNat < (p.getD e.f.toNat F0).bs.length ∧ Up ((p.getD e.f.toNat F0).bs.getD e.b.toNat B0).succ := fun hl => by
    obtain ⟨h1, h2, h3⟩ := live_lt hl
    exact ⟨h1, h2, ((hs.fs _ (getD_mem F0 hk)).bs _ (getD_mem B0 h2)).up⟩
  unfold othV at ho
  rw [if_neg (by omega)] at ho
  split at ho
  · rename_i h2
    have ha := first_all ho (by simp)
    have hl := noB_one (b := e.b) (ha (2, noB p e.f [e.b]) (by simp)) (by simp) hf
    have hz := ha (6, e.b == 0) (by simp)
    obtain ⟨k1, k2, k3⟩ := key hl
    exact ⟨k1, k2, k3, fun _ => by simpa using hz, fun q => by omega, fun q => by omega⟩
  · split at ho
    · have ha := first_all ho (by simp)
      have hl := noB_one (b := e.b) (ha (2, noB p e.f [e.b, e.to]) (by simp)) (by simp) hf
      obtain ⟨k1, k2, k3⟩ := key hl
      exact ⟨k1, k2, k3, fun q => by omega, fun q => by omega, fun q => by omega⟩
    · split at ho
      · have ha := first_all ho (by simp)
        have hl := noB_one (b := e.b) (ha (2, noB p e.f [e.b, e.to]) (by simp)) (by simp) hf
        obtain ⟨k1, k2, k3⟩ := key hl
        exact ⟨k1, k2, k3, fun q => by omega, fun q => by omega, fun q => by omega⟩
      · split at ho
        · have ha := first_all ho (by simp)
          have hl := noB_one (b := e.b) (ha (2, noB p e.f [e.b, e.to, e.ot]) (by simp)) (by simp) hf
          obtain ⟨k1, k2, k3⟩ := key hl
          exact ⟨k1, k2, k3, fun q => by omega, fun q => by omega, fun q => by omega⟩
        · split at ho
          · unfold insV at ho
            have hl := noB_one (b := e.b) (first_zero ho (by decide)).1 (by simp) hf
            have h2 := (first_zero (first_zero ho (by decide)).2 (by decide)).1
            rw [code_live hf hl] at h2
            simp only [Bool.or_eq_false_iff, decide_eq_false_iff_not] at h2
            obtain ⟨k1, k2, k3⟩ := key hl
            exact ⟨k1, k2, k3, fun q => by omega, fun q => by omega, fun q => by omega⟩
          · have ha := first_all ho (by simp)
            have hl := noB_one (b := e.b) (ha (2, noB p e.f [e.b]) (by simp)) (by simp) hf
            have h2 := ha (3, decide (e.pos < 0) || decide (e.pos ≥ ((codeV p e.f e.b).length : Nat))) (by simp)
            rw [code_live hf hl] at h2
            simp only [Bool.or_eq_false_iff, decide_eq_false_iff_not] at h2
            obtain ⟨k1, k2, k3⟩ := key hl
            exact ⟨k1, k2, k3, fun q => by omega, fun q => by omega, fun q => by omega⟩
theorem shiftPs_set {n : Nat} {xs ys : List PV} {q q' : PV} (h : shiftPs n xs = some ys) (hq : shiftP n q = some q') (i : Nat) : shiftPs n (xs.set i q) = some (ys.set i q') := by
  induction xs generalizing i ys with
  | nil => cases h; rfl
  | cons x xs ih =>
    simp only [shiftPs, Option.bind_eq_bind, Option.bind_eq_some_iff] at h
    obtain ⟨y, h1, l, h3, h4⟩ := h
    obtain rfl := (Option.some.inj h4).symm
    cases i with
    | zero => simp only [List.set_cons_zero, shiftPs, hq, h3, Option.bind_eq_bind, Option.bind_some]
    | succ i => simp only [List.set_cons_succ, shiftPs, h1, ih h3 i, Option.bind_eq_bind, Option.bind_some]
section
variable {H : Hp}
theorem mapO_app {F : PV → Option PV} {xs ys xs' ys' : List PV} (h : mapO F xs = some xs') (h2 : mapO F ys = some ys') : mapO F (xs ++ ys) = some (xs' ++ ys') := by
  induction xs generalizing xs' with
  | nil => cases h; exact h2
  | cons x xs ih =>
    simp only [mapO, Option.bind_eq_bind, Option.bind_eq_some_iff] at h
    obtain ⟨y, h1, l, h3, h4⟩ := h
    obtain rfl := (Option.some.inj h4).symm
    simp only [List.cons_append, mapO, h1, ih h3, Option.bind_eq_bind, Option.bind_some]
theorem mapO_set {F : PV → Option PV} {xs xs' : List PV} {q q' : PV} (h : mapO F xs = some xs') (hq : F q = some q') (i : Nat) : mapO F (xs.set i q) = some (xs'.set i q') := by
  induction xs generalizing i xs' with
  | nil => cases h; rfl
  | cons x xs ih =>
    simp only [mapO, Option.bind_eq_bind, Option.bind_eq_some_iff] at h
    obtain ⟨y, h1, l, h3, h4⟩ := h
    obtain rfl := (Option.some.inj h4).symm
    cases i with
    | zero => simp only [List.set_cons_zero, mapO, hq, h3, Option.bind_eq_bind, Option.bind_some]
    | succ i => simp only [List.set_cons_succ, mapO, h1, ih h3 i, Option.bind_eq_bind, Option.bind_some]
theorem mapO_vals {α : Type} {f : α → PV} {F : PV → Option PV} (hF : ∀ a, F (f a) = some (f a)) (xs : List α) : mapO F (xs.map f) = some (xs.map f) := by
  induction xs with
  | nil => rfl
  | cons x xs ih => simp only [List.map_cons, mapO, hF, ih, Option.bind_eq_bind, Option.bind_some]
theorem softN_row {ok : Nat → Bool} {n b g sz len : Nat} {xs ys : List PV} (hok : ok b = true) (hb : H.f b = some ⟨g, sz, xs⟩) (hl : len = xs.length) (hn : xs.all pureE = false) (hm : mapO (cellO (softN H ok n)) xs = some ys) : softN H ok (n + 1) (.ref b g 0 len) = some (.sl ys) := by
  subst hl
  have he : elems H (.ref b g 0 xs.length) = some xs := by simp [elems, Hp.blk, hb, List.take_of_length_le]
  simp only [softN, hok, if_true, he, hn, Bool.false_eq_true, if_false, hm, Option.map_some]
theorem softN_vals {α : Type} {f : α → PV} {ok : Nat → Bool} {n b g sz len : Nat} {xs : List α} (hok : ok b = true) (hb : H.f b = some ⟨g, sz, xs.map f⟩) (hf : ∀ a, pureE (f a) = true) (hl : len = xs.length) : softN H ok (n + 1) (.ref b g 0 len) = some (.sl (xs.map f)) := by
  subst hl
  have he : elems H (.ref b g 0 xs.length) = some (xs.map f) := by simp [elems, Hp.blk, hb, List.take_of_length_le]
  simp only [softN, hok, if_true, he, vals_pure hf xs]
theorem soft_prog {b g sz len : Nat} {xs : List PV} {q : List Fn} (hb : H.f b = some ⟨g, sz, xs⟩) (hl : len = xs.length) (hn : xs.all pureE = false) (hm : mapO (cellO (softN H (fun _ => true) 4)) xs = some (q.map pF)) : soft H true (.tup [.agg [.ref b g 0 len], .int .i64 0]) = some (.tup [pP q, .int .i64 0]) := by
  have h := softN_row (ok := fun _ => true) rfl hb hl hn hm
  simp only [soft, softT, soft0, softL, soft1, h, Option.bind_eq_bind, Option.bind_some, Option.map_some]
  rfl
theorem cell_fn {F : PV → Option PV} {a v : Int} {r : PV} {bs : List Bk} (h1 : ∀ n : Int, F (.int .i64 n) = some (.int .i64 n)) (h2 : F r = some (.sl (bs.map pB))) : cellO F (.agg [.int .i64 a, .int .i64 v, r]) = some (pF ⟨a, v, bs⟩) := by
  simp only [cellO, mapO, h1, h2, Option.bind_eq_bind, Option.bind_some, Option.map_some]
theorem soft_pF (n : Nat) (x : Fn) : cellO (softN H (fun _ => true) (n + 1)) (pF x) = some (pF x) := cell_fn (fun _ => rfl) rfl
theorem soft_pB (n : Nat) (x : Bk) : cellO (softN H (fun _ => true) (n + 1)) (pB x) = some (pB x) := rfl
theorem all_set_f {xs : List PV} {i : Nat} {q : PV} (hi : i < xs.length) (hq : pureE q = false) : (xs.set i q).all pureE = false := by
  rw [List.all_eq_false]
  exact ⟨q, List.mem_set hi _, by rw [hq]; simp⟩
theorem all_app_f {xs : List PV} {q : PV} (hq : pureE q = false) : (xs ++ [q]).all pureE = false := by
  rw [List.all_eq_false]
  exact ⟨q, by simp, by rw [hq]; simp⟩
theorem soft_in {b g sz len B g2 sz2 n k : Nat} {p : List Fn} {a v : Int} {bs : List Bk} (hb : H.f b = some ⟨g, sz, (p.map pF).set k (.agg [.int .i64 a, .int .i64 v, .ref B g2 0 n])⟩) (hl : len = p.length) (hk : k < p.length) (hB : softN H (fun _ => true) 4 (.ref B g2 0 n) = some (.sl (bs.map pB))) :
    soft H true (.tup [.agg [.ref b g 0 len], .int .i64 0]) = some (.tup [pP (p.set k ⟨a, v, bs⟩), .int .i64 0]) := by
  refine soft_prog hb (by simpa using hl) (all_set_f (by simpa using hk) rfl) ?_
  rw [List.map_set]
  exact mapO_set (mapO_vals (soft_pF 3) p) (cell_fn (fun _ => rfl) hB) k
end
section
variable {P : Program} {gl : Nat → Option PV} {e : Bool} {s : Env} {H : Hp} {l : Nodes} {Q : Env → Hp → Prop} {d : Option Nat} {bf : Nat}
theorem n_load_set {es : Shape} {x : RO} {b g i off sz : Nat} {xs : List PV} {q r : PV} (hx : x.ev gl s = some (.ptr b g i off)) (hb : H.f b = some ⟨g, sz, xs.set i q⟩) (hr : subv es (q.cells.drop off) = some r) (h : i < xs.length) (kk : WN P gl e l (s.put d (some r)) H Q) : WN P gl e (.op d (.load es x) bf l) s H Q := by
  refine n_val rfl ?_ kk
  have hy : (xs.set i q)[i]? = some q := by rw [List.getElem?_set_self h]
  simp only [stepN, hx, Option.bind_eq_bind, Option.bind_some, Hp.blk, hb, if_true, hy, hr, Option.pure_def]
theorem n_store_set {b g i off n sz : Nat} {x v : RO} {p q q' : PV} {xs : List PV} (hx : x.ev gl s = some (.ptr b g i off)) (hv : v.ev gl s = some p) (hb : H.f b = some ⟨g, sz, xs.set i q⟩) (hn : (p.cells.length == n && p.cells.all PV.one) = true) (hp : putAt [q] 0 off p = some [q']) (h : i < xs.length) (k : WN P gl e l (s.put d none) (H.set b ⟨g, sz, xs.set i q'⟩) Q) : WN P gl e (.op d (.store n x v) bf l) s H Q := by
  refine n_store (xs' := xs.set i q') hx hv hb hn ?_ k
  have hy : (xs.set i q)[i]? = some q := by rw [List.getElem?_set_self h]
  simp only [putAt, hy, List.getElem?_cons_zero, Option.bind_eq_bind, Option.bind_some] at hp ⊢
  split at hp
  · rename_i z
    rw [if_pos z]
    simp only [List.set_cons_zero, Option.some.injEq, List.cons.injEq, and_true] at hp
    rw [hp, List.set_set]
  · rename_i z
    rw [if_neg z]
    split at hp
    · rename_i z2
      rw [if_pos z2]
      simp only [List.set_cons_zero, Option.some.injEq, List.cons.injEq, and_true] at hp
      rw [hp, List.set_set]
    · cases hp
end
def E0 : Ed := ⟨0, 0, 0, 0, 0, 0, i0⟩
def backV (op : Int) : Int := if op = 1 then 2 else if op = 3 then 4 else if op = 4 then 3 else if op = 5 then 5 else if op = 6 then 7 else if op = 7 then 6 else -1
def undoV (p : List Fn) (e : Ed) : Ed × Bool :=
  if cheV p e ≠ 0 then (E0, false)
  else if e.op = 1 then (⟨2, e.f, newBlockV p e.f, 0, 0, 0, i0⟩, true)
  else if e.op = 3 then (⟨4, e.f, e.b, e.to, 0, 0, i0⟩, true)
  else if e.op = 4 then (⟨3, e.f, e.b, e.to, 0, 0, i0⟩, true)
  else if e.op = 5 then (⟨5, e.f, e.b, e.ot, e.to, 0, i0⟩, true)
  else if e.op = 6 then (⟨7, e.f, e.b, 0, 0, e.pos, i0⟩, true)
  else if e.op = 7 then (if newIdV (applyV p e) ≠ ((atV p e.f e.b e.pos).getD i0).id then (E0, false) else (⟨6, e.f, e.b, 0, 0, e.pos, { (atV p e.f e.b e.pos).getD i0 with id := 0 }⟩, true))
  else (E0, false)
theorem up_ext {l m : List Int} (hl : Up l) (hm : Up m) (h : ∀ c, c ∈ l ↔ c ∈ m) : l = m := by
  induction l generalizing m with
  | nil =>
    cases m with
    | nil => rfl
    | cons y m => exact absurd ((h y).2 (by simp)) (by simp)
  | cons x l ih =>
    cases m with
    | nil => exact absurd ((h x).1 (by simp)) (by simp)
    | cons y m =>
      rw [Up, List.pairwise_cons] at hl hm
      have e : x = y := by
        rcases List.mem_cons.1 ((h x).1 (by simp)) with q | q
        · exact q
        · rcases List.mem_cons.1 ((h y).2 (by simp)) with r | r
          · exact r.symm
          · have := hl.1 y r; have := hm.1 x q; omega
      subst e
      rw [ih hl.2 hm.2 fun c => ?_]
      constructor
      · intro hc
        rcases List.mem_cons.1 ((h c).1 (List.mem_cons_of_mem _ hc)) with q | q
        · subst q; have := hl.1 c hc; omega
        · exact q
      · intro hc
        rcases List.mem_cons.1 ((h c).2 (List.mem_cons_of_mem _ hc)) with q | q
        · subst q; have := hm.1 c hc; omega
        · exact q
theorem wto_id {l : List Int} {n : Int} (h : n ∉ l) : wtoV l n = l := List.filter_eq_self.2 fun a ha => by simpa using fun e : a = n => h (e ▸ ha)
theorem wto_with {l : List Int} {n : Int} (hu : Up l) (h : n ∉ l) : wtoV (withV l n) n = l := by
  refine up_ext (up_wto (up_with hu h) n) hu fun c => ?_
  rw [mem_wto, mem_with]
  constructor
  · rintro ⟨rfl | h1, h2⟩
    · exact absurd rfl h2
    · exact h1
  · exact fun hc => ⟨.inr hc, fun e => h (e ▸ hc)⟩
theorem with_wto {l : List Int} {n : Int} (hu : Up l) (h : n ∈ l) : withV (wtoV l n) n = l := by
  refine up_ext (up_with (up_wto hu n) fun hm => (mem_wto.1 hm).2 rfl) hu fun c => ?_
  rw [mem_with, mem_wto]
  constructor
  · rintro (rfl | h1)
    · exact h
    · exact h1.1
  · intro hc
    by_cases e : c = n
    · exact .inl e
    · exact .inr ⟨hc, e⟩
theorem set_self {α : Type} {l : List α} {k : Nat} {d : α} : l.set k (l.getD k d) = l := by
  refine ext_getD d (by simp) fun j hj => ?_
  rw [getD_set]
  split
  · rename_i hq; rw [← hq.1]
  · rfl
theorem set_back {α : Type} {l : List α} {k : Nat} {x y d : α} (h : y = l.getD k d) : (l.set k x).set k y = l := by
  rw [List.set_set, h, set_self]
theorem getD_set_eq {α : Type} {l : List α} {k : Nat} {x d : α} (h : k < l.length) : (l.set k x).getD k d = x := by rw [getD_set, if_pos ⟨rfl, h⟩]
theorem che_ok {q : List Fn} {u : Ed} (hs : sane q = true) (ho : 0 < u.op ∧ u.op < 8) (hr : 0 ≤ u.f ∧ u.f < (q.length : Nat)) (h : othV q u = 0) : cheV q u = 0 := by
  rw [cheV, if_neg (by rw [hs]; simp), if_neg (by omega), if_neg (by omega), if_neg (by omega)]
  exact h
theorem apply_at {p : List Fn} {e : Ed} (h : cheV p e = 0) (h0 : e.op ≠ 0) : applyV p e = p.set e.f.toNat (funA p e (p.getD e.f.toNat F0)) := by
  rw [applyV, if_neg (by simpa using h), if_neg h0]
theorem undo_by {p : List Fn} {e u : Ed} {g' : Fn} (h : cheV p e = 0) (h0 : e.op ≠ 0) (hg : funA p e (p.getD e.f.toNat F0) = g') (hf : u.f = e.f) (ho : 0 < u.op ∧ u.op < 8) (hch : funV (applyV p e) e.f = some g' → othV (applyV p e) u = 0) (hb : funA (applyV p e) u g' = p.getD e.f.toNat F0) :
    cheV (applyV p e) u = 0 ∧ applyV (applyV p e) u = p := by
  have hr := (che_oth h h0).1
  have hk := (che_fun h h0).1
  have hs := sane_apply h
  have e1 := apply_at h h0
  rw [hg] at e1
  have hl : (applyV p e).length = p.length := by rw [e1, List.length_set]
  have e2 : (applyV p e).getD e.f.toNat F0 = g' := by rw [e1, getD_set_eq hk]
  have hc : cheV (applyV p e) u = 0 := che_ok hs ho (by rw [hf, hl]; exact hr) (hch (by rw [funV, if_pos ⟨hs, hr.1, by rw [hl]; exact hr.2⟩, e2]))
  refine ⟨hc, ?_⟩
  rw [apply_at hc (by omega), hf, e2, hb]
  conv => lhs; rw [e1]
  exact set_back rfl
theorem noB_no {p : List Fn} {f : Int} {l : List Int} {g : Fn} (hf : funV p f = some g) (h : ∀ b ∈ l, liveF g b = true) : noB p f l = false := by
  rw [noB, List.any_eq_false]
  intro b hb
  rw [blk_at hf (h b hb)]; simp
theorem firstV_no {l : List (Int × Bool)} (h : ∀ q ∈ l, q.2 = false) : firstV l = 0 := by
  induction l with
  | nil => rfl
  | cons x l ih =>
    obtain ⟨e, b⟩ := x
    obtain rfl : b = false := h (e, b) (by simp)
    simp only [firstV, Bool.false_eq_true, if_false]
    exact ih fun q hq => h q (by simp [hq])
theorem bs_back {g : Fn} {b : Nat} {x y : Bk} (hb : b < g.bs.length) (h : y = g.bs.getD b B0) : ({ g with bs := (g.bs.set b x).set b y } : Fn) = g := by
  rw [set_back h]
theorem in_iff {l : List Int} {n : Int} : l.contains n = true ↔ n ∈ l := List.contains_iff_mem
theorem notin_iff {l : List Int} {n : Int} : l.contains n = false ↔ n ∉ l := by
  rw [← in_iff]; simp
theorem blkA_3 {p : List Fn} {e : Ed} {x : Bk} (h : e.op = 3) : blkA p e x = { x with succ := withV x.succ e.to } := by rw [blkA, if_pos h]
theorem blkA_4 {p : List Fn} {e : Ed} {x : Bk} (h : e.op = 4) : blkA p e x = { x with succ := wtoV x.succ e.to } := by rw [blkA, if_neg (by omega), if_pos h]
theorem blkA_5 {p : List Fn} {e : Ed} {x : Bk} (h : e.op = 5) : blkA p e x = { x with succ := withV (wtoV x.succ e.to) e.ot } := by rw [blkA, if_neg (by omega), if_neg (by omega), if_pos h]
theorem blkA_6 {p : List Fn} {e : Ed} {x : Bk} (h : e.op = 6) : blkA p e x = { x with code := x.code.take e.pos.toNat ++ { e.i with id := newIdV p } :: x.code.drop e.pos.toNat } := by rw [blkA, if_neg (by omega), if_neg (by omega), if_neg (by omega), if_pos h]
theorem blkA_7 {p : List Fn} {e : Ed} {x : Bk} (h : e.op = 7) : blkA p e x = { x with code := x.code.take e.pos.toNat ++ x.code.drop (e.pos.toNat + 1) } := by rw [blkA, if_neg (by omega), if_neg (by omega), if_neg (by omega), if_neg (by omega)]
theorem funA_b {p : List Fn} {e : Ed} {g : Fn} (h : 3 ≤ e.op) : funA p e g = { g with bs := g.bs.set e.b.toNat (blkA p e (g.bs.getD e.b.toNat B0)) } := by rw [funA, if_neg (by omega), if_neg (by omega)]
theorem undo_blk {p : List Fn} {e u : Ed} (h : cheV p e = 0) (h3 : 3 ≤ e.op) (hf : u.f = e.f) (hb : u.b = e.b) (h3u : 3 ≤ u.op ∧ u.op < 8)
    (hch : ∀ g' : Fn, funV (applyV p e) e.f = some g' → (∀ c, liveF g' c = liveF (p.getD e.f.toNat F0) c) → g'.bs.getD e.b.toNat B0 = blkA p e ((p.getD e.f.toNat F0).bs.getD e.b.toNat B0) → g'.vs = (p.getD e.f.toNat F0).vs → othV (applyV p e) u = 0)
    (hx : blkA (applyV p e) u (blkA p e ((p.getD e.f.toNat F0).bs.getD e.b.toNat B0)) = (p.getD e.f.toNat F0).bs.getD e.b.toNat B0) : cheV (applyV p e) u = 0 ∧ applyV (applyV p e) u = p := by
  obtain ⟨b1, b2, _⟩ := che_blk h (by omega)
  have hl : (blkA p e ((p.getD e.f.toNat F0).bs.getD e.b.toNat B0)).live = ((p.getD e.f.toNat F0).bs.getD e.b.toNat B0).live := by
    unfold blkA
    split; · rfl
    split; · rfl
    split; · rfl
    split; · rfl
    rfl
  refine undo_by h (by omega) (funA_b h3) hf (by omega) (fun hg => hch _ hg (fun c => liveF_set hl c) (getD_set_eq b2) rfl) ?_
  rw [funA_b h3u.1, hb]
  simp only
  rw [getD_set_eq b2, hx]
  exact bs_back b2 rfl
theorem undo_3 {p : List Fn} {e : Ed} (h : cheV p e = 0) (ho : e.op = 3) : cheV (applyV p e) ⟨4, e.f, e.b, e.to, 0, 0, i0⟩ = 0 ∧ applyV (applyV p e) ⟨4, e.f, e.b, e.to, 0, 0, i0⟩ = p := by
  obtain ⟨l1, l2, _, l4, _⟩ := edge_facts h (.inl ho)
  obtain ⟨_, _, hu, _⟩ := che_blk h (by omega)
  have hn : e.to ∉ ((p.getD e.f.toNat F0).bs.getD e.b.toNat B0).succ := by rw [← notin_iff, l4, ho]; rfl
  refine undo_blk h (by omega) rfl rfl (by simp) (fun g' hg hl hx hv => ?_) ?_
  · rw [othV, if_neg (by simp), if_neg (by simp), if_neg (by simp), if_pos rfl]
    refine firstV_no fun q hq => ?_
    simp only [List.mem_cons, List.not_mem_nil, or_false] at hq
    have hb : liveF g' e.b = true := by rw [hl]; exact l1
    rcases hq with rfl | rfl
    · refine noB_no hg fun b hb' => ?_
      simp only [List.mem_cons, List.not_mem_nil, or_false] at hb'
      rcases hb' with rfl | rfl
      · exact hb
      · rw [hl]; exact l2
    · show (!edgV (applyV p e) e.f e.b e.to) = false
      rw [edg_at hg hb, hx, blkA_3 ho, Bool.not_eq_false', in_iff, mem_with]; exact .inl rfl
  · rw [blkA_4 rfl, blkA_3 ho]
    simp only
    rw [wto_with hu hn]
theorem undo_4 {p : List Fn} {e : Ed} (h : cheV p e = 0) (ho : e.op = 4) : cheV (applyV p e) ⟨3, e.f, e.b, e.to, 0, 0, i0⟩ = 0 ∧ applyV (applyV p e) ⟨3, e.f, e.b, e.to, 0, 0, i0⟩ = p := by
  obtain ⟨l1, l2, _, l4, _⟩ := edge_facts h (.inr (.inl ho))
  obtain ⟨_, _, hu, _⟩ := che_blk h (by omega)
  have hn : e.to ∈ ((p.getD e.f.toNat F0).bs.getD e.b.toNat B0).succ := by rw [← in_iff, l4, ho]; rfl
  refine undo_blk h (by omega) rfl rfl (by simp) (fun g' hg hl hx hv => ?_) ?_
  · rw [othV, if_neg (by simp), if_neg (by simp), if_pos rfl]
    refine firstV_no fun q hq => ?_
    simp only [List.mem_cons, List.not_mem_nil, or_false] at hq
    have hb : liveF g' e.b = true := by rw [hl]; exact l1
    rcases hq with rfl | rfl
    · refine noB_no hg fun b hb' => ?_
      simp only [List.mem_cons, List.not_mem_nil, or_false] at hb'
      rcases hb' with rfl | rfl
      · exact hb
      · rw [hl]; exact l2
    · show edgV (applyV p e) e.f e.b e.to = false
      rw [edg_at hg hb, hx, blkA_4 ho, notin_iff, mem_wto]; exact fun q => q.2 rfl
  · rw [blkA_3 rfl, blkA_4 ho]
    simp only
    rw [with_wto hu hn]
theorem rew_ids {l : List Int} {to ot : Int} (hu : Up l) (h1 : to ∈ l) (h2 : ot ≠ to → ot ∉ l) : withV (wtoV (withV (wtoV l to) ot) ot) to = l := by
  have hn : ot ∉ wtoV l to := fun hm => by
    obtain ⟨m1, m2⟩ := mem_wto.1 hm
    exact h2 m2 m1
  rw [wto_with (up_wto hu to) hn, with_wto hu h1]
theorem undo_5 {p : List Fn} {e : Ed} (h : cheV p e = 0) (ho : e.op = 5) : cheV (applyV p e) ⟨5, e.f, e.b, e.ot, e.to, 0, i0⟩ = 0 ∧ applyV (applyV p e) ⟨5, e.f, e.b, e.ot, e.to, 0, i0⟩ = p := by
  obtain ⟨l1, l2, l3, l4, l5⟩ := edge_facts h (.inr (.inr ho))
  obtain ⟨_, _, hu, _⟩ := che_blk h (by omega)
  have h1 : e.to ∈ ((p.getD e.f.toNat F0).bs.getD e.b.toNat B0).succ := by rw [← in_iff, l4, ho]; rfl
  have h2 : e.ot ≠ e.to → e.ot ∉ ((p.getD e.f.toNat F0).bs.getD e.b.toNat B0).succ := fun hne => notin_iff.1 (l5 ho hne)
  refine undo_blk h (by omega) rfl rfl (by simp) (fun g' hg hl hx hv => ?_) ?_
  · rw [othV, if_neg (by simp), if_neg (by simp), if_neg (by simp), if_neg (by simp), if_pos rfl]
    refine firstV_no fun q hq => ?_
    simp only [List.mem_cons, List.not_mem_nil, or_false] at hq
    have hb : liveF g' e.b = true := by rw [hl]; exact l1
    rcases hq with rfl | rfl
    · refine noB_no hg fun b hb' => ?_
      simp only [List.mem_cons, List.not_mem_nil, or_false] at hb'
      rcases hb' with rfl | rfl | rfl
      · exact hb
      · rw [hl]; exact l3 ho
      · rw [hl]; exact l2
    · show (!edgV (applyV p e) e.f e.b e.ot || (e.to != e.ot && edgV (applyV p e) e.f e.b e.to)) = false
      rw [edg_at hg hb, edg_at hg hb, hx, blkA_5 ho, Bool.or_eq_false_iff, Bool.not_eq_false', in_iff, mem_with]
      refine ⟨.inl rfl, ?_⟩
      by_cases hne : e.to = e.ot
      · rw [show (e.to != e.ot) = false by simpa using hne]; rfl
      · rw [Bool.and_eq_false_iff]
        refine .inr ?_
        rw [notin_iff, mem_with, mem_wto]
        rintro (q | q)
        · exact hne q
        · exact q.2 rfl
  · rw [blkA_5 rfl, blkA_5 ho]
    simp only
    rw [rew_ids hu h1 h2]
theorem ins_out {α : Type} {l : List α} {n : Nat} {x : α} (h : n ≤ l.length) : (l.take n ++ x :: l.drop n).take n ++ (l.take n ++ x :: l.drop n).drop (n + 1) = l := by
  have e : (l.take n).length = n := by rw [List.length_take]; omega
  rw [List.take_append_of_le_length (by omega), List.take_of_length_le (by omega), List.drop_append, List.drop_of_length_le (by omega), e, show n + 1 - n = 1 by omega]
  simp
theorem out_ins {α : Type} {l : List α} {n : Nat} (d : α) (h : n < l.length) : (l.take n ++ l.drop (n + 1)).take n ++ l.getD n d :: (l.take n ++ l.drop (n + 1)).drop n = l := by
  have e : (l.take n).length = n := by rw [List.length_take]; omega
  rw [List.take_append_of_le_length (by omega), List.take_of_length_le (by omega), List.drop_append, List.drop_of_length_le (by omega), e, Nat.sub_self, List.getD_eq_getElem?_getD, List.getElem?_eq_getElem h, Option.getD_some]
  simp
theorem undo_6 {p : List Fn} {e : Ed} (h : cheV p e = 0) (ho : e.op = 6) : cheV (applyV p e) ⟨7, e.f, e.b, 0, 0, e.pos, i0⟩ = 0 ∧ applyV (applyV p e) ⟨7, e.f, e.b, 0, 0, e.pos, i0⟩ = p := by
  have q := ins_facts h ho
  refine undo_blk h (by omega) rfl rfl (by simp) (fun g' hg hl hx hv => ?_) ?_
  · rw [othV, if_neg (by simp), if_neg (by simp), if_neg (by simp), if_neg (by simp), if_neg (by simp), if_neg (by simp)]
    refine firstV_no fun y hq => ?_
    simp only [List.mem_cons, List.not_mem_nil, or_false] at hq
    have hb : liveF g' e.b = true := by rw [hl]; exact q.live
    rcases hq with rfl | rfl
    · exact noB_no hg fun b hb' => by rw [List.mem_singleton] at hb'; subst hb'; exact hb
    · show (decide (e.pos < 0) || decide (e.pos ≥ ((codeV (applyV p e) e.f e.b).length : Nat))) = false
      have := q.pos
      rw [cod_at hg hb, hx, blkA_6 ho]
      simp only [Bool.or_eq_false_iff, decide_eq_false_iff_not, List.length_append, List.length_cons, List.length_take, List.length_drop]
      omega
  · rw [blkA_7 rfl, blkA_6 ho]
    simp only
    rw [ins_out q.pos.2]
theorem at_del {p : List Fn} {e : Ed} (h : cheV p e = 0) (ho : e.op = 7) : (atV p e.f e.b e.pos).getD i0 = ((p.getD e.f.toNat F0).bs.getD e.b.toNat B0).code.getD e.pos.toNat i0 := by
  obtain ⟨l1, l2, l3⟩ := del_facts h ho
  have hf := (che_fun h (by omega)).2
  rw [atV, blk_at hf l1, Option.getD_some, if_pos ⟨l2, by omega⟩, Option.getD_some]
theorem undo_7 {p : List Fn} {e : Ed} {i : In} (h : cheV p e = 0) (ho : e.op = 7) (hi : (atV p e.f e.b e.pos).getD i0 = i) (hid : newIdV (applyV p e) = i.id) : cheV (applyV p e) ⟨6, e.f, e.b, 0, 0, e.pos, { i with id := 0 }⟩ = 0 ∧ applyV (applyV p e) ⟨6, e.f, e.b, 0, 0, e.pos, { i with id := 0 }⟩ = p := by
  obtain ⟨l1, l2, l3⟩ := del_facts h ho
  obtain ⟨hf, hfv⟩ := che_fun h (by omega)
  rw [at_del h ho] at hi
  have hs := (sane_iff p).1 (che_sane h)
  have hB := (hs.fs _ (getD_mem F0 hf)).bs _ (getD_mem B0 (live_lt l1).2.1)
  have hI : okI p (p.getD e.f.toNat F0) i = true := by rw [← hi]; exact hB.code _ (getD_mem i0 l3)
  have e1 := apply_at h (show e.op ≠ 0 by omega)
  have hlen : (applyV p e).length = p.length := by rw [e1, List.length_set]
  have har : ∀ j, ((applyV p e).getD j F0).ar = (p.getD j F0).ar := fun j => by rw [e1, funA_b (by omega)]; exact sig_set (p := p) (k := e.f.toNat) (f' := ⟨(p.getD e.f.toNat F0).ar, (p.getD e.f.toNat F0).vs, (p.getD e.f.toNat F0).bs.set e.b.toNat (blkA p e ((p.getD e.f.toNat F0).bs.getD e.b.toNat B0))⟩) rfl j
  have hvs : ((applyV p e).getD e.f.toNat F0).vs = (p.getD e.f.toNat F0).vs := by rw [e1, funA_b (by omega), getD_set_eq hf]
  simp only [okI, Bool.and_eq_true, Bool.not_eq_true', Bool.or_eq_true, decide_eq_true_eq, beq_iff_eq, bne_iff_ne, ne_eq] at hI
  obtain ⟨⟨o1, o2⟩, o3⟩ := hI
  have hf0 := form_id (n := 0) o1 (by omega) (by omega)
  have hv0 := vars_id (n := 0) o1 (by omega) (by omega)
  have hid0 : 0 ≤ i.id := by
    simp only [form, Bool.and_eq_true, decide_eq_true_eq] at o1
    exact o1.1.1.1.1.2.1
  refine undo_blk h (by omega) rfl rfl (by simp) (fun g' hg hl hx hv => ?_) ?_
  · rw [othV, if_neg (by simp), if_neg (by simp), if_neg (by simp), if_neg (by simp), if_neg (by simp), if_pos rfl]
    have hb : liveF g' e.b = true := by rw [hl]; exact l1
    have hle := hB.len
    refine firstV_no fun y hq => ?_
    simp only [List.mem_cons, List.not_mem_nil, or_false] at hq
    have hcl : (codeV (applyV p e) e.f e.b).length + 1 = ((p.getD e.f.toNat F0).bs.getD e.b.toNat B0).code.length := by
      rw [cod_at hg hb, hx, blkA_7 ho]
      simp only [List.length_append, List.length_take, List.length_drop]
      omega
    rcases hq with rfl | rfl | rfl | rfl | rfl | rfl | rfl
    · exact noB_no hg fun b hb' => by rw [List.mem_singleton] at hb'; subst hb'; exact hb
    · simp only [Bool.or_eq_false_iff, decide_eq_false_iff_not]; omega
    · simp only [hf0]; rfl
    · show ((varsI { i with id := 0 }).any fun v => decide (v ≥ ((applyV p e).getD e.f.toNat F0).vs)) = false
      rw [hv0, hvs]; exact o2
    · simp only [hlen]
      rcases o3 with o3 | o3
      · rw [show (i.kind == 7) = false by simpa using o3]; rfl
      · rw [decide_eq_false (by omega), Bool.and_false]
    · simp only [har]
      rcases o3 with o3 | o3
      · rw [show (i.kind == 7) = false by simpa using o3]; rfl
      · rw [show ((p.getD i.f.toNat F0).ar != i.n) = false by simpa using o3.2, Bool.and_false]
    · simp only [Bool.or_eq_false_iff, decide_eq_false_iff_not, hid]; omega
  · rw [blkA_6 rfl, blkA_7 ho]
    simp only [hid]
    have e2 : ({ i with id := i.id } : In) = ((p.getD e.f.toNat F0).bs.getD e.b.toNat B0).code.getD e.pos.toNat i0 := hi.symm
    rw [e2, out_ins i0 l3]
theorem trim_self {l : List Bk} (h : l = [] ∨ (l.getD (l.length - 1) B0).live = true) : trimB l = l := by
  have := trim_at 0 (l := l) (n := l.length) rfl (fun j h1 h2 => by omega) (by
    rcases h with h | h
    · subst h; exact .inl rfl
    · exact .inr h)
  rw [this, List.take_length]
theorem wB_id {p : List Fn} {g : Fn} {x : Bk} {n : Int} (h : OkB p g x) (hn : liveF g n = false) : (⟨x.live, x.code, wtoV x.succ n⟩ : Bk) = x := by
  rw [wto_id fun hm => by rw [h.to n hm] at hn; cases hn]
theorem undo_1 {p : List Fn} {e : Ed} (h : cheV p e = 0) (ho : e.op = 1) : cheV (applyV p e) ⟨2, e.f, newBlockV p e.f, 0, 0, 0, i0⟩ = 0 ∧ applyV (applyV p e) ⟨2, e.f, newBlockV p e.f, 0, 0, 0, i0⟩ = p := by
  obtain ⟨k, hk, h12, hle, hd⟩ := new_blk h ho
  have hf := (che_fun h (by omega)).1
  have hs := ((sane_iff p).1 (che_sane h)).fs _ (getD_mem F0 hf)
  have h1 : funA p e (p.getD e.f.toNat F0) = { p.getD e.f.toNat F0 with bs := addB (p.getD e.f.toNat F0).bs (newBlockV p e.f) } := by rw [funA, if_pos ho]
  rw [hk] at h1 ⊢
  generalize hg : p.getD e.f.toNat F0 = g at *
  have hk0 : k ≠ 0 := fun e => by rw [e, hs.fst] at hd; cases hd
  have hnl : liveF g (k : Int) = false := by
    unfold liveF
    rw [Int.toNat_natCast, hd, Bool.and_false]
  have hlk : ((addB g.bs k).getD k B0).live = true ∧ k < (addB g.bs k).length := by
    rw [addB]
    by_cases hkl : k = g.bs.length
    · rw [if_pos (by omega), hkl]; simp
    · have hlt : k < g.bs.length := by omega
      rw [if_neg (by omega), Int.toNat_natCast, getD_set_eq hlt]
      exact ⟨rfl, by simpa using hlt⟩
  refine undo_by h (by omega) (by rw [hg]) rfl (by simp) (fun hgv => ?_) ?_
  · rw [othV, if_neg (by simp), if_pos rfl]
    refine firstV_no fun y hq => ?_
    simp only [List.mem_cons, List.not_mem_nil, or_false] at hq
    rcases hq with rfl | rfl
    · exact noB_no hgv fun b hb' => by rw [List.mem_singleton] at hb'; subst hb'; rw [h1]; exact live_of (g := { g with bs := addB g.bs k }) hlk.2 hlk.1
    · show (((k : Nat) : Int) == 0) = false
      simpa using hk0
  · rw [funA, if_neg (by simp), if_pos rfl, hg]
    rw [h1]
    show ({ g with bs := delB (addB g.bs k) k } : Fn) = g
    have hid : (g.bs.map fun x => (⟨x.live, x.code, wtoV x.succ (k : Int)⟩ : Bk)) = g.bs := by
      conv => rhs; rw [← List.map_id g.bs]
      exact List.map_congr_left fun x hx => wB_id (hs.bs x hx) hnl
    have key : delB (addB g.bs k) k = g.bs := by
      rw [delB, addB, Int.toNat_natCast]
      by_cases hkl : k = g.bs.length
      · rw [if_pos (by omega), hkl, List.set_append_right _ _ (Nat.le_refl _), Nat.sub_self, List.set_cons_zero, List.map_append, ← hkl, hid, List.map_singleton, trimB_snoc, if_neg (by simp [B0])]
        exact trim_self (.inr hs.lst)
      · rw [if_neg (by omega), List.set_set]
        have e0 : g.bs.getD k B0 = B0 := by
          obtain ⟨c1, c2⟩ := (hs.bs _ (getD_mem B0 (show k < g.bs.length by omega))).dead hd
          generalize g.bs.getD k B0 = y at *
          obtain ⟨a, b, c⟩ := y
          simp only at c1 c2 hd
          subst c1 c2 hd
          rfl
        have e1 : g.bs.set k B0 = g.bs := by
          conv => lhs; rw [← e0]
          exact set_self
        rw [e1, hid]
        exact trim_self (.inr hs.lst)
    rw [key]
theorem undo_ok {p : List Fn} {e : Ed} (h : (undoV p e).2 = true) : cheV (applyV p e) (undoV p e).1 = 0 ∧ applyV (applyV p e) (undoV p e).1 = p := by
  unfold undoV at h ⊢
  by_cases hc : cheV p e = 0
  rotate_left
  · rw [if_pos hc] at h; cases h
  rw [if_neg (by simpa using hc)] at h ⊢
  by_cases h1 : e.op = 1
  · rw [if_pos h1]; exact undo_1 hc h1
  rw [if_neg h1] at h ⊢
  by_cases h1 : e.op = 3
  · rw [if_pos h1]; exact undo_3 hc h1
  rw [if_neg h1] at h ⊢
  by_cases h1 : e.op = 4
  · rw [if_pos h1]; exact undo_4 hc h1
  rw [if_neg h1] at h ⊢
  by_cases h1 : e.op = 5
  · rw [if_pos h1]; exact undo_5 hc h1
  rw [if_neg h1] at h ⊢
  by_cases h1 : e.op = 6
  · rw [if_pos h1]; exact undo_6 hc h1
  rw [if_neg h1] at h ⊢
  by_cases h1 : e.op = 7
  · rw [if_pos h1] at h ⊢
    by_cases h2 : newIdV (applyV p e) = ((atV p e.f e.b e.pos).getD i0).id
    · rw [if_neg (by simpa using h2)]
      exact undo_7 hc h1 rfl h2
    · rw [if_pos h2] at h; cases h
  rw [if_neg h1] at h; cases h
theorem undo_no {p : List Fn} {e : Ed} (h : cheV p e = 0) (h2 : (undoV p e).2 = false) : e.op = 0 ∨ e.op = 2 ∨ e.op = 7 := by
  have ho := che_op h
  unfold undoV at h2
  rw [if_neg (by simpa using h)] at h2
  split at h2; · cases h2
  split at h2; · cases h2
  split at h2; · cases h2
  split at h2; · cases h2
  split at h2; · cases h2
  omega
theorem undo_bad {p : List Fn} {e : Ed} (h : cheV p e ≠ 0) : undoV p e = (E0, false) := by rw [undoV, if_pos h]
/-! ### Its function alone -/
theorem tou_one (p : List Fn) (e : Ed) : ((touV p e).length = 1 ↔ cheV p e = 0) := by
  unfold touV
  by_cases h : cheV p e = 0
  · rw [if_neg (by simpa using h)]
    constructor
    · exact fun _ => h
    · intro _; split <;> rfl
  · rw [if_pos h]
    exact ⟨fun q => by simp at q, fun q => absurd q h⟩
theorem app_len (p : List Fn) (e : Ed) : p.length ≤ (applyV p e).length ∧ (applyV p e).length ≤ p.length + 1 := by
  unfold applyV
  split
  · omega
  split
  · simp
  · simp
theorem app_other {p : List Fn} {e : Ed} {f : Nat} (hf : f < (applyV p e).length) (h : ¬ (cheV p e = 0 ∧ (touV p e).getD 0 0 = (f : Int))) : f < p.length ∧ (applyV p e).getD f F0 = p.getD f F0 := by
  by_cases hc : cheV p e = 0
  rotate_left
  · rw [applyV, if_pos hc] at hf ⊢
    exact ⟨hf, rfl⟩
  have ht : (touV p e).getD 0 0 ≠ (f : Int) := fun q => h ⟨hc, q⟩
  rw [touV, if_neg (by simpa using hc)] at ht
  rw [applyV, if_neg (by simpa using hc)] at hf ⊢
  by_cases h0 : e.op = 0
  · rw [if_pos h0] at hf ht ⊢
    simp only [List.length_append, List.length_singleton] at hf
    simp only [List.getD_cons_zero, ne_eq] at ht
    have : f < p.length := by omega
    exact ⟨this, by rw [List.getD_eq_getElem?_getD, List.getElem?_append_left this, ← List.getD_eq_getElem?_getD]⟩
  · rw [if_neg h0] at hf ht ⊢
    rw [List.length_set] at hf
    simp only [List.getD_cons_zero, ne_eq] at ht
    have hr := (che_oth hc h0).1
    exact ⟨hf, by rw [getD_set, if_neg (by omega)]⟩
theorem sam_is {p : List Fn} {e : Ed} : samV p e = true ↔ (e.op = 5 ∧ e.to = e.ot) ∧ cheV p e = 0 := by
  simp only [samV, Bool.and_eq_true, beq_iff_eq]
theorem app_same {p : List Fn} {e : Ed} (h : samV p e = true) : applyV p e = p := by
  obtain ⟨⟨h5, ht⟩, hc⟩ := sam_is.1 h
  obtain ⟨_, _, _, l4, _⟩ := edge_facts hc (.inr (.inr h5))
  obtain ⟨_, _, hu, _⟩ := che_blk hc (by omega)
  have h1 : e.to ∈ ((p.getD e.f.toNat F0).bs.getD e.b.toNat B0).succ := by rw [← in_iff, l4, h5]; rfl
  rw [apply_at hc (by omega), funA_b (by omega), blkA_5 h5, ← ht, with_wto hu h1]
  have e1 : ({ (p.getD e.f.toNat F0).bs.getD e.b.toNat B0 with succ := ((p.getD e.f.toNat F0).bs.getD e.b.toNat B0).succ } : Bk) = (p.getD e.f.toNat F0).bs.getD e.b.toNat B0 := rfl
  rw [e1, set_self]
  exact set_self
theorem fun_ne {p : List Fn} {e : Ed} (hc : cheV p e = 0) (h0 : e.op ≠ 0) (h : funA p e (p.getD e.f.toNat F0) ≠ p.getD e.f.toNat F0) : applyV p e ≠ p := by
  intro q
  rw [apply_at hc h0] at q
  have := congrArg (fun l : List Fn => l.getD e.f.toNat F0) q
  try simp only at this
  rw [getD_set_eq (che_fun hc h0).1] at this
  exact h this
theorem blk_ne {p : List Fn} {e : Ed} (hc : cheV p e = 0) (h3 : 3 ≤ e.op) (h : blkA p e ((p.getD e.f.toNat F0).bs.getD e.b.toNat B0) ≠ (p.getD e.f.toNat F0).bs.getD e.b.toNat B0) : applyV p e ≠ p := by
  refine fun_ne hc (by omega) fun q => h ?_
  rw [funA_b h3] at q
  have := congrArg (fun g : Fn => g.bs.getD e.b.toNat B0) q
  simp only at this
  rwa [getD_set_eq (che_blk hc (by omega)).2.1] at this
theorem app_diff {p : List Fn} {e : Ed} (hc : cheV p e = 0) (hs : samV p e = false) : applyV p e ≠ p := by
  have ho := che_op hc
  have hop : e.op = 0 ∨ e.op = 1 ∨ e.op = 2 ∨ e.op = 3 ∨ e.op = 4 ∨ e.op = 5 ∨ e.op = 6 ∨ e.op = 7 := by omega
  rcases hop with h | h | h | h | h | h | h | h
  · rw [applyV, if_neg (by simpa using hc), if_pos h]
    intro q
    have := congrArg List.length q
    simp at this
  · obtain ⟨k, hk, h12, hle, hd⟩ := new_blk hc h
    refine fun_ne hc (by omega) fun q => ?_
    rw [funA, if_pos h, hk] at q
    have := congrArg (fun g : Fn => (g.bs.getD k B0).live) q
    simp only at this
    rw [hd, addB] at this
    by_cases hkl : k = (p.getD e.f.toNat F0).bs.length
    · rw [if_pos (by omega), hkl] at this
      simp at this
    · rw [if_neg (by omega), Int.toNat_natCast, getD_set_eq (by omega)] at this
      cases this
  · obtain ⟨hf, hfv⟩ := che_fun hc (by omega)
    have hq := (che_oth hc (by omega)).2
    rw [othV, if_neg (by omega), if_pos h] at hq
    obtain ⟨o1, _⟩ := first_zero hq (by decide)
    have l1 := live_lt (noB_one o1 (b := e.b) (by simp) hfv)
    refine fun_ne hc (by omega) fun q => ?_
    rw [funA, if_neg (by omega), if_pos h] at q
    have q2 := congrArg (fun g : Fn => g.bs) q
    simp only at q2
    have q3 := congrArg (fun l : List Bk => (l.getD e.b.toNat B0).live) q2
    try simp only at q3
    rw [l1.2.2, delB] at q3
    obtain ⟨n, n1, n2, n3, n4⟩ := trim_spec (((p.getD e.f.toNat F0).bs.set e.b.toNat B0).map fun x => (⟨x.live, x.code, wtoV x.succ e.b⟩ : Bk))
    rw [n2, List.getD_eq_getElem?_getD, List.getElem?_take] at q3
    split at q3
    · rw [List.getElem?_map, List.getElem?_set_self l1.2.1] at q3
      simp [B0] at q3
    · simp [B0] at q3
  · refine blk_ne hc (by omega) fun q => ?_
    obtain ⟨_, _, _, l4, _⟩ := edge_facts hc (.inl h)
    rw [blkA_3 h] at q
    have := congrArg (fun x : Bk => x.succ.contains e.to) q
    simp only at this
    rw [l4, h, in_iff.2 (mem_with.2 (.inl rfl))] at this
    cases this
  · refine blk_ne hc (by omega) fun q => ?_
    obtain ⟨_, _, _, l4, _⟩ := edge_facts hc (.inr (.inl h))
    rw [blkA_4 h] at q
    have := congrArg (fun x : Bk => x.succ.contains e.to) q
    simp only at this
    rw [l4, h, notin_iff.2 (fun m => (mem_wto.1 m).2 rfl)] at this
    cases this
  · refine blk_ne hc (by omega) fun q => ?_
    obtain ⟨_, _, _, l4, l5⟩ := edge_facts hc (.inr (.inr h))
    have hne : e.ot ≠ e.to := fun q => by
      rw [sam_is.2 ⟨⟨h, q.symm⟩, hc⟩] at hs; cases hs
    rw [blkA_5 h] at q
    have := congrArg (fun x : Bk => x.succ.contains e.ot) q
    simp only at this
    rw [l5 h hne, in_iff.2 (mem_with.2 (.inl rfl))] at this
    cases this
  · refine blk_ne hc (by omega) fun q => ?_
    rw [blkA_6 h] at q
    have := congrArg (fun x : Bk => x.code.length) q
    simp only [List.length_append, List.length_cons, List.length_take, List.length_drop] at this
    omega
  · refine blk_ne hc (by omega) fun q => ?_
    obtain ⟨_, _, l3⟩ := del_facts hc h
    rw [blkA_7 h] at q
    have := congrArg (fun x : Bk => x.code.length) q
    simp only [List.length_append, List.length_take, List.length_drop] at this
    omega
/-! ### Edges, instructions -/
theorem fun_app {p : List Fn} {e : Ed} (hc : cheV p e = 0) (h0 : e.op ≠ 0) : funV (applyV p e) e.f = some (funA p e (p.getD e.f.toNat F0)) := by
  have hr := (che_oth hc h0).1
  have hl : (applyV p e).length = p.length := by rw [apply_at hc h0, List.length_set]
  rw [funV, if_pos ⟨sane_apply hc, hr.1, by rw [hl]; exact hr.2⟩, apply_at hc h0, getD_set_eq (che_fun hc h0).1]
theorem blk_live {p : List Fn} {e : Ed} {x : Bk} : (blkA p e x).live = x.live := by
  unfold blkA
  split; · rfl
  split; · rfl
  split; · rfl
  split; · rfl
  rfl
theorem blk_app {p : List Fn} {e : Ed} (hc : cheV p e = 0) (h3 : 3 ≤ e.op) (b : Int) : blkV (applyV p e) e.f b = if b = e.b then (blkV p e.f b).map (blkA p e) else blkV p e.f b := by
  have hf := fun_app hc (show e.op ≠ 0 by omega)
  have hf0 := (che_fun hc (show e.op ≠ 0 by omega)).2
  obtain ⟨b1, b2, _⟩ := che_blk hc (by omega)
  rw [blkV, blkV, hf, hf0, Option.getD_some, Option.getD_some, funA_b h3, liveF_set blk_live]
  by_cases hb : b = e.b
  · subst hb
    rw [if_pos rfl]
    split
    · rw [Option.map_some, getD_set_eq b2]
    · rfl
  · rw [if_neg hb]
    split
    · rename_i hl
      have := (live_lt hl).1
      rw [getD_set, if_neg (by omega)]
    · rfl
theorem con_eq {l m : List Int} {c : Int} (h : c ∈ l ↔ c ∈ m) : l.contains c = m.contains c := by
  by_cases hc : c ∈ l
  · rw [in_iff.2 hc, in_iff.2 (h.1 hc)]
  · rw [notin_iff.2 hc, notin_iff.2 fun q => hc (h.2 q)]
theorem edge_law {p : List Fn} {e : Ed} (hc : cheV p e = 0) (ho : e.op = 3 ∨ e.op = 4 ∨ e.op = 5) :
    (e.op = 3 → ((blkV (applyV p e) e.f e.b).getD B0).succ.contains e.to = true) ∧ (e.op = 4 → ((blkV (applyV p e) e.f e.b).getD B0).succ.contains e.to = false) ∧
    (e.op = 5 → ((blkV (applyV p e) e.f e.b).getD B0).succ.contains e.ot = true ∧ (e.ot ≠ e.to → ((blkV (applyV p e) e.f e.b).getD B0).succ.contains e.to = false)) ∧
    ∀ b c : Int, ¬ (b = e.b ∧ (c = e.to ∨ e.op = 5 ∧ c = e.ot)) → ((blkV p e.f b).getD B0).succ.contains c = ((blkV (applyV p e) e.f b).getD B0).succ.contains c := by
  obtain ⟨l1, _⟩ := edge_facts hc ho
  have hf := (che_fun hc (by omega)).2
  have e1 := blk_app hc (by omega) e.b
  rw [if_pos rfl, blk_at hf l1, Option.map_some] at e1
  rw [e1, Option.getD_some]
  refine ⟨fun h => ?_, fun h => ?_, fun h => ⟨?_, fun hne => ?_⟩, fun b c hn => ?_⟩
  · rw [blkA_3 h, in_iff]; exact mem_with.2 (.inl rfl)
  · rw [blkA_4 h, notin_iff]; exact fun m => (mem_wto.1 m).2 rfl
  · rw [blkA_5 h, in_iff]; exact mem_with.2 (.inl rfl)
  · rw [blkA_5 h, notin_iff, mem_with, mem_wto]
    rintro (q | q)
    · exact hne q.symm
    · exact q.2 rfl
  · rw [blk_app hc (by omega) b]
    by_cases hb : b = e.b
    · subst hb
      rw [if_pos rfl, blk_at hf l1, Option.map_some, Option.getD_some, Option.getD_some]
      have hct : c ≠ e.to := fun q => hn ⟨rfl, .inl q⟩
      refine con_eq ?_
      rcases ho with h | h | h
      · rw [blkA_3 h, mem_with]
        exact ⟨.inr, fun q => q.resolve_left hct⟩
      · rw [blkA_4 h, mem_wto]
        exact ⟨fun q => ⟨q, hct⟩, fun q => q.1⟩
      · have hco : c ≠ e.ot := fun q => hn ⟨rfl, .inr ⟨h, q⟩⟩
        rw [blkA_5 h, mem_with, mem_wto]
        exact ⟨fun q => .inr ⟨q, hct⟩, fun q => (q.resolve_left hco).1⟩
    · rw [if_neg hb]
theorem at_some {p : List Fn} {f b n : Int} {x : In} : atV p f b n = some x ↔ 0 ≤ n ∧ ((blkV p f b).getD B0).code[n.toNat]? = some x := by
  rw [atV]
  constructor
  · intro h
    split at h
    · rename_i hc
      injection h with h
      refine ⟨hc.1, ?_⟩
      rw [List.getElem?_eq_getElem (by omega), ← h, List.getD_eq_getElem?_getD, List.getElem?_eq_getElem (by omega), Option.getD_some]
    · cases h
  · rintro ⟨h0, h⟩
    obtain ⟨hl, h2⟩ := List.getElem?_eq_some_iff.1 h
    rw [if_pos ⟨h0, by omega⟩, List.getD_eq_getElem?_getD, h, Option.getD_some]
theorem code_blk {p : List Fn} {e : Ed} (hc : cheV p e = 0) (h6 : e.op = 6 ∨ e.op = 7) : blkV p e.f e.b = some ((p.getD e.f.toNat F0).bs.getD e.b.toNat B0) ∧ blkV (applyV p e) e.f e.b = some (blkA p e ((p.getD e.f.toNat F0).bs.getD e.b.toNat B0)) := by
  have hf := (che_fun hc (by omega)).2
  have l1 : liveF (p.getD e.f.toNat F0) e.b = true := by
    rcases h6 with h | h
    · exact (ins_facts hc h).live
    · exact (del_facts hc h).1
  have e1 := blk_app hc (by omega) e.b
  rw [if_pos rfl, blk_at hf l1, Option.map_some] at e1
  exact ⟨blk_at hf l1, e1⟩
theorem ins_law {p : List Fn} {e : Ed} (hc : cheV p e = 0) (h6 : e.op = 6) : atV (applyV p e) e.f e.b e.pos = some { e.i with id := newIdV p } ∧
    ∀ (k : Int) (x : In), atV p e.f e.b k = some x → atV (applyV p e) e.f e.b (if k ≥ e.pos then k + 1 else k) = some x := by
  obtain ⟨q1, q2⟩ := code_blk hc (.inl h6)
  have q := (ins_facts hc h6).pos
  have hl : (((p.getD e.f.toNat F0).bs.getD e.b.toNat B0).code.take e.pos.toNat).length = e.pos.toNat := by rw [List.length_take]; omega
  constructor
  · rw [at_some, q2, Option.getD_some, blkA_6 h6]
    refine ⟨q.1, ?_⟩
    simp only
    rw [List.getElem?_append_right (by omega), hl, Nat.sub_self]; rfl
  · intro k x hk
    rw [at_some, q1, Option.getD_some] at hk
    rw [at_some, q2, Option.getD_some, blkA_6 h6]
    simp only
    by_cases hp : k ≥ e.pos
    · rw [if_pos hp]
      refine ⟨by omega, ?_⟩
      rw [List.getElem?_append_right (by omega), hl, show (k + 1).toNat - e.pos.toNat = (k.toNat - e.pos.toNat) + 1 by omega, List.getElem?_cons_succ, List.getElem?_drop, show e.pos.toNat + (k.toNat - e.pos.toNat) = k.toNat by omega]
      exact hk.2
    · rw [if_neg hp]
      refine ⟨hk.1, ?_⟩
      rw [List.getElem?_append_left (by omega), List.getElem?_take, if_pos (by omega)]
      exact hk.2
theorem del_law {p : List Fn} {e : Ed} (hc : cheV p e = 0) (h7 : e.op = 7) : (atV p e.f e.b e.pos).isSome = true ∧
    ∀ (k : Int) (x : In), k ≠ e.pos → atV p e.f e.b k = some x → atV (applyV p e) e.f e.b (if k ≥ e.pos then k - 1 else k) = some x := by
  obtain ⟨q1, q2⟩ := code_blk hc (.inr h7)
  obtain ⟨_, p0, p1⟩ := del_facts hc h7
  have hl : (((p.getD e.f.toNat F0).bs.getD e.b.toNat B0).code.take e.pos.toNat).length = e.pos.toNat := by rw [List.length_take]; omega
  constructor
  · rw [atV, q1, Option.getD_some, if_pos ⟨p0, by omega⟩]; rfl
  · intro k x hne hk
    rw [at_some, q1, Option.getD_some] at hk
    rw [at_some, q2, Option.getD_some, blkA_7 h7]
    simp only
    by_cases hp : k ≥ e.pos
    · rw [if_pos hp]
      refine ⟨by omega, ?_⟩
      rw [List.getElem?_append_right (by omega), hl, List.getElem?_drop, show e.pos.toNat + 1 + ((k - 1).toNat - e.pos.toNat) = k.toNat by omega]
      exact hk.2
    · rw [if_neg hp]
      refine ⟨hk.1, ?_⟩
      rw [List.getElem?_append_left (by omega), List.getElem?_take, if_pos (by omega)]
      exact hk.2
/-! ### Counts -/
theorem sum_set {α : Type} {c : α → Nat} {x : α} (d : α) : ∀ {l : List α} {k : Nat}, k < l.length → ((l.set k x).map c).sum + c (l.getD k d) = (l.map c).sum + c x
  | [], k, h => absurd h (by simp)
  | y :: l, 0, _ => by simp only [List.set_cons_zero, List.map_cons, List.sum_cons, List.getD_cons_zero]; omega
  | y :: l, k + 1, h => by
    have := sum_set d (l := l) (k := k) (c := c) (x := x) (by simpa using h)
    simp only [List.set_cons_succ, List.map_cons, List.sum_cons, List.getD_cons_succ]
    omega
def liN (b : Bk) : Nat := if b.live then 1 else 0
def liF (f : Fn) : Nat := (f.bs.map liN).sum
def coF (f : Fn) : Nat := (f.bs.map fun b => b.code.length).sum
def suF (f : Fn) : Nat := (f.bs.map fun b => b.succ.length).sum
def liP (p : List Fn) : Nat := (p.map liF).sum
def coP (p : List Fn) : Nat := (p.map coF).sum
def suP (p : List Fn) : Nat := (p.map suF).sum
theorem liP_eq (p : List Fn) : nlF p p.length = liP p := by
  unfold nlF liP
  rw [List.take_length]
  congr 1
  refine List.map_congr_left fun f _ => ?_
  rw [liF, countP_sum]; rfl
theorem coP_eq (p : List Fn) : (insP p).length = coP p := by
  unfold insP coP
  rw [List.length_flatMap]
  congr 1
  refine List.map_congr_left fun f _ => ?_
  rw [coF]
  unfold insF
  rw [List.length_flatMap]
theorem len_with (l : List Int) (n : Int) : (withV l n).length = l.length + 1 := by
  have : (l.takeWhile (fun x => decide (x < n)) ++ l.dropWhile (fun x => decide (x < n))).length = l.length := by rw [List.takeWhile_append_dropWhile]
  rw [List.length_append] at this
  rw [withV, List.length_append, List.length_cons]
  omega
theorem len_wto {l : List Int} {n : Int} (hu : Up l) (h : n ∈ l) : (wtoV l n).length + 1 = l.length := by
  have := len_with (wtoV l n) n
  rw [with_wto hu h] at this
  exact this.symm
theorem sum_le {α : Type} {a b : α → Nat} : ∀ {l : List α}, (∀ x ∈ l, a x ≤ b x) → (l.map a).sum ≤ (l.map b).sum
  | [], _ => Nat.le_refl _
  | x :: l, h => by
    have h1 := h x (by simp)
    have h2 := sum_le (a := a) (b := b) (l := l) fun y hy => h y (by simp [hy])
    simp only [List.map_cons, List.sum_cons]; omega
theorem sum_take {α : Type} {c : α → Nat} (l : List α) (n : Nat) : ((l.take n).map c).sum + ((l.drop n).map c).sum = (l.map c).sum := by
  conv => rhs; rw [← List.take_append_drop n l, List.map_append, List.sum_append]
structure Cnt (p q : List Fn) (e : Ed) : Prop where
  c0 : e.op = 0 → q.length = p.length + 1 ∧ liP q = liP p + 1 ∧ coP q = coP p ∧ suP q = suP p
  c1 : e.op = 1 → q.length = p.length ∧ liP q = liP p + 1 ∧ coP q = coP p ∧ suP q = suP p
  c2 : e.op = 2 → q.length = p.length ∧ liP q + 1 = liP p ∧ coP q ≤ coP p ∧ suP q ≤ suP p
  c3 : e.op = 3 → q.length = p.length ∧ liP q = liP p ∧ coP q = coP p ∧ suP q = suP p + 1
  c4 : e.op = 4 → q.length = p.length ∧ liP q = liP p ∧ coP q = coP p ∧ suP q + 1 = suP p
  c5 : e.op = 5 → q.length = p.length ∧ liP q = liP p ∧ coP q = coP p ∧ suP q = suP p
  c6 : e.op = 6 → q.length = p.length ∧ liP q = liP p ∧ coP q = coP p + 1 ∧ suP q = suP p
  c7 : e.op = 7 → q.length = p.length ∧ liP q = liP p ∧ coP q + 1 = coP p ∧ suP q = suP p
theorem cnt_blk {p : List Fn} {e : Ed} (hc : cheV p e = 0) (h3 : 3 ≤ e.op) : (applyV p e).length = p.length ∧ liP (applyV p e) = liP p ∧
    coP (applyV p e) + ((p.getD e.f.toNat F0).bs.getD e.b.toNat B0).code.length = coP p + (blkA p e ((p.getD e.f.toNat F0).bs.getD e.b.toNat B0)).code.length ∧
    suP (applyV p e) + ((p.getD e.f.toNat F0).bs.getD e.b.toNat B0).succ.length = suP p + (blkA p e ((p.getD e.f.toNat F0).bs.getD e.b.toNat B0)).succ.length := by
  obtain ⟨b1, b2, _⟩ := che_blk hc (by omega)
  have hk := (che_fun hc (by omega)).1
  have e1 := apply_at hc (show e.op ≠ 0 by omega)
  rw [funA_b h3] at e1
  have s1 := sum_set (c := liF) (x := { p.getD e.f.toNat F0 with bs := (p.getD e.f.toNat F0).bs.set e.b.toNat (blkA p e ((p.getD e.f.toNat F0).bs.getD e.b.toNat B0)) }) F0 hk
  have s2 := sum_set (c := coF) (x := { p.getD e.f.toNat F0 with bs := (p.getD e.f.toNat F0).bs.set e.b.toNat (blkA p e ((p.getD e.f.toNat F0).bs.getD e.b.toNat B0)) }) F0 hk
  have s3 := sum_set (c := suF) (x := { p.getD e.f.toNat F0 with bs := (p.getD e.f.toNat F0).bs.set e.b.toNat (blkA p e ((p.getD e.f.toNat F0).bs.getD e.b.toNat B0)) }) F0 hk
  have t1 := sum_set (c := liN) (x := blkA p e ((p.getD e.f.toNat F0).bs.getD e.b.toNat B0)) B0 b2
  have t2 := sum_set (c := fun b : Bk => b.code.length) (x := blkA p e ((p.getD e.f.toNat F0).bs.getD e.b.toNat B0)) B0 b2
  have t3 := sum_set (c := fun b : Bk => b.succ.length) (x := blkA p e ((p.getD e.f.toNat F0).bs.getD e.b.toNat B0)) B0 b2
  have hl : liN (blkA p e ((p.getD e.f.toNat F0).bs.getD e.b.toNat B0)) = liN ((p.getD e.f.toNat F0).bs.getD e.b.toNat B0) := by rw [liN, liN, blk_live]
  rw [e1]
  unfold liP coP suP
  unfold liF at s1 ⊢
  unfold coF at s2 ⊢
  unfold suF at s3 ⊢
  simp only at s1 s2 s3 t1 t2 t3
  refine ⟨List.length_set, by omega, by omega, by omega⟩
theorem cnt_fun {p : List Fn} {e : Ed} (hc : cheV p e = 0) (h0 : e.op ≠ 0) : (applyV p e).length = p.length ∧ liP (applyV p e) + liF (p.getD e.f.toNat F0) = liP p + liF (funA p e (p.getD e.f.toNat F0)) ∧
    coP (applyV p e) + coF (p.getD e.f.toNat F0) = coP p + coF (funA p e (p.getD e.f.toNat F0)) ∧ suP (applyV p e) + suF (p.getD e.f.toNat F0) = suP p + suF (funA p e (p.getD e.f.toNat F0)) := by
  have hk := (che_fun hc h0).1
  have e1 := apply_at hc h0
  rw [e1]
  exact ⟨List.length_set, sum_set F0 hk, sum_set F0 hk, sum_set F0 hk⟩
theorem trim_cnt (l : List Bk) : ((trimB l).map liN).sum = (l.map liN).sum ∧ ((trimB l).map fun b => b.code.length).sum ≤ (l.map fun b => b.code.length).sum ∧ ((trimB l).map fun b => b.succ.length).sum ≤ (l.map fun b => b.succ.length).sum := by
  obtain ⟨n, n1, n2, n3, _⟩ := trim_spec l
  rw [n2]
  have t1 := sum_take (c := liN) l n
  have t2 := sum_take (c := fun b : Bk => b.code.length) l n
  have t3 := sum_take (c := fun b : Bk => b.succ.length) l n
  have z : ((l.drop n).map liN).sum = 0 := by
    have : ∀ x ∈ l.drop n, liN x ≤ 0 := fun x hx => by
      obtain ⟨j, hj, rfl⟩ := List.mem_iff_getElem.1 hx
      have := n3 (n + j) (by omega)
      rw [List.length_drop] at hj
      rw [List.getD_eq_getElem?_getD, List.getElem?_eq_getElem (by omega), Option.getD_some] at this
      rw [liN, List.getElem_drop, this]; simp
    have := sum_le this
    have h0 : ((l.drop n).map fun _ => 0).sum = 0 := sum_zero _
    omega
  omega
theorem cnt_law {p : List Fn} {e : Ed} (hc : cheV p e = 0) : Cnt p (applyV p e) e := by
  refine ⟨fun h => ?_, fun h => ?_, fun h => ?_, fun h => ?_, fun h => ?_, fun h => ?_, fun h => ?_, fun h => ?_⟩
  · rw [applyV, if_neg (by simpa using hc), if_pos h]
    simp [liP, coP, suP, liF, coF, suF, liN]
  · obtain ⟨c1, c2, c3, c4⟩ := cnt_fun hc (by omega)
    obtain ⟨k, hk, h12, hle, hd⟩ := new_blk hc h
    rw [funA, if_pos h, hk] at c2 c3 c4
    generalize p.getD e.f.toNat F0 = g at *
    rw [addB] at c2 c3 c4
    by_cases hkl : k = g.bs.length
    · rw [if_pos (by omega)] at c2 c3 c4
      simp only [liF, coF, suF, List.map_append, List.sum_append, List.map_singleton, List.sum_singleton, List.length_nil, liN, if_true] at c2 c3 c4
      exact ⟨c1, by omega, by omega, by omega⟩
    · rw [if_neg (by omega), Int.toNat_natCast] at c2 c3 c4
      have hlt : k < g.bs.length := by omega
      have t1 := sum_set (c := liN) (x := ⟨true, (g.bs.getD k B0).code, (g.bs.getD k B0).succ⟩) B0 hlt
      have t2 := sum_set (c := fun b : Bk => b.code.length) (x := ⟨true, (g.bs.getD k B0).code, (g.bs.getD k B0).succ⟩) B0 hlt
      have t3 := sum_set (c := fun b : Bk => b.succ.length) (x := ⟨true, (g.bs.getD k B0).code, (g.bs.getD k B0).succ⟩) B0 hlt
      have z0 : liN (g.bs.getD k B0) = 0 := by rw [liN, hd]; simp
      have z1 : liN ⟨true, (g.bs.getD k B0).code, (g.bs.getD k B0).succ⟩ = 1 := rfl
      unfold liF at c2
      unfold coF at c3
      unfold suF at c4
      simp only at c2 c3 c4 t1 t2 t3
      exact ⟨c1, by omega, by omega, by omega⟩
  · obtain ⟨c1, c2, c3, c4⟩ := cnt_fun hc (by omega)
    obtain ⟨hf, hfv⟩ := che_fun hc (by omega)
    have hq := (che_oth hc (by omega)).2
    rw [othV, if_neg (by omega), if_pos h] at hq
    obtain ⟨o1, _⟩ := first_zero hq (by decide)
    have l1 := live_lt (noB_one o1 (b := e.b) (by simp) hfv)
    rw [funA, if_neg (by omega), if_pos h] at c2 c3 c4
    generalize p.getD e.f.toNat F0 = g at *
    obtain ⟨t1, t2, t3⟩ := trim_cnt ((g.bs.set e.b.toNat B0).map fun x => (⟨x.live, x.code, wtoV x.succ e.b⟩ : Bk))
    have u1 := sum_set (c := liN) (x := B0) B0 l1.2.1
    have u2 := sum_set (c := fun b : Bk => b.code.length) (x := B0) B0 l1.2.1
    have u3 := sum_set (c := fun b : Bk => b.succ.length) (x := B0) B0 l1.2.1
    have z0 : liN (g.bs.getD e.b.toNat B0) = 1 := by rw [liN, l1.2.2]; rfl
    have z1 : liN B0 = 0 := rfl
    have z2 : (B0).code.length = 0 := rfl
    have z3 : (B0).succ.length = 0 := rfl
    have m1 : (((g.bs.set e.b.toNat B0).map fun x => (⟨x.live, x.code, wtoV x.succ e.b⟩ : Bk)).map liN).sum = ((g.bs.set e.b.toNat B0).map liN).sum := by rw [List.map_map]; rfl
    have m2 : (((g.bs.set e.b.toNat B0).map fun x => (⟨x.live, x.code, wtoV x.succ e.b⟩ : Bk)).map fun b => b.code.length).sum = ((g.bs.set e.b.toNat B0).map fun b => b.code.length).sum := by rw [List.map_map]; rfl
    have m3 : (((g.bs.set e.b.toNat B0).map fun x => (⟨x.live, x.code, wtoV x.succ e.b⟩ : Bk)).map fun b => b.succ.length).sum ≤ ((g.bs.set e.b.toNat B0).map fun b => b.succ.length).sum := by
      rw [List.map_map]
      exact sum_le fun x _ => List.length_filter_le _ _
    unfold liF delB at c2
    unfold coF delB at c3
    unfold suF delB at c4
    simp only at c2 c3 c4 u1 u2 u3
    exact ⟨c1, by omega, by omega, by omega⟩
  · obtain ⟨c1, c2, c3, c4⟩ := cnt_blk hc (by omega)
    rw [blkA_3 h] at c3 c4
    simp only [len_with] at c3 c4
    exact ⟨c1, c2, by omega, by omega⟩
  · obtain ⟨c1, c2, c3, c4⟩ := cnt_blk hc (by omega)
    obtain ⟨_, _, _, l4, _⟩ := edge_facts hc (.inr (.inl h))
    obtain ⟨_, _, hu, _⟩ := che_blk hc (by omega)
    have := len_wto hu (by rw [← in_iff, l4, h]; rfl)
    rw [blkA_4 h] at c3 c4
    simp only at c3 c4
    exact ⟨c1, c2, by omega, by omega⟩
  · obtain ⟨c1, c2, c3, c4⟩ := cnt_blk hc (by omega)
    obtain ⟨_, _, _, l4, _⟩ := edge_facts hc (.inr (.inr h))
    obtain ⟨_, _, hu, _⟩ := che_blk hc (by omega)
    have := len_wto hu (by rw [← in_iff, l4, h]; rfl)
    rw [blkA_5 h] at c3 c4
    simp only [len_with] at c3 c4
    exact ⟨c1, c2, by omega, by omega⟩
  · obtain ⟨c1, c2, c3, c4⟩ := cnt_blk hc (by omega)
    rw [blkA_6 h] at c3 c4
    simp only [List.length_append, List.length_cons, List.length_take, List.length_drop] at c3 c4
    exact ⟨c1, c2, by omega, by omega⟩
  · obtain ⟨c1, c2, c3, c4⟩ := cnt_blk hc (by omega)
    obtain ⟨_, _, l3⟩ := del_facts hc h
    rw [blkA_7 h] at c3 c4
    simp only [List.length_append, List.length_take, List.length_drop] at c3 c4
    exact ⟨c1, c2, by omega, by omega⟩
theorem few_sane {p : List Fn} (h : sane p = true) : few p = true := by
  have hp := (sane_iff p).1 h
  simp only [few, Bool.and_eq_true, Bool.not_eq_true', decide_eq_false_iff_not, List.all_eq_true]
  refine ⟨by have := hp.len; omega, fun f hf => ?_⟩
  have hq := hp.fs f hf
  simp only [fewF, Bool.and_eq_true, Bool.not_eq_true', decide_eq_false_iff_not, List.all_eq_true]
  refine ⟨by have := hq.top; omega, fun x hx => ?_⟩
  have hb := hq.bs x hx
  simp only [fewB, Bool.not_eq_true', Bool.or_eq_false_iff, decide_eq_false_iff_not]
  refine ⟨by have := hb.len; omega, ?_⟩
  have : x.succ.length ≤ 12 := by
    have h1 : x.succ.length ≤ f.bs.length := by
      have hu := hb.up
      have hl : ∀ c ∈ x.succ, 0 ≤ c ∧ c < (f.bs.length : Nat) := fun c hc => by
        obtain ⟨q1, q2, _⟩ := live_lt (hb.to c hc)
        exact ⟨q1, by omega⟩
      have key : ∀ (l : List Int) (lo : Int) (n : Nat), Up l → (∀ c ∈ l, lo ≤ c ∧ c < lo + n) → l.length ≤ n := by
        intro l
        induction l with
        | nil => intro lo n _ _; exact Nat.zero_le _
        | cons a l ih =>
          intro lo n hu hl
          rw [Up, List.pairwise_cons] at hu
          obtain ⟨a1, a2⟩ := hl a (by simp)
          obtain ⟨m, rfl⟩ : ∃ m, n = m + 1 := ⟨n - 1, by omega⟩
          have := ih (lo + 1) m hu.2 fun c hc => by
            have := hu.1 c hc
            have := hl c (by simp [hc])
            omega
          simp only [List.length_cons]; omega
      exact key x.succ 0 f.bs.length hu fun c hc => by have := hl c hc; omega
    have := hq.top
    omega
  omega
theorem few_applyV {p : List Fn} (e : Ed) (h : few p = true) : few (applyV p e) = true := by
  by_cases hc : cheV p e = 0
  · exact few_sane (sane_apply hc)
  · rw [applyV, if_pos hc]; exact h
theorem undo_none {p : List Fn} {e : Ed} (hc : cheV p e = 0) (h1 : e.op ≠ 1) (h3 : e.op ≠ 3) (h4 : e.op ≠ 4) (h5 : e.op ≠ 5) (h6 : e.op ≠ 6) (h7 : e.op ≠ 7) : undoV p e = (E0, false) := by
  rw [undoV, if_neg (by simpa using hc), if_neg h1, if_neg h3, if_neg h4, if_neg h5, if_neg h6, if_neg h7]
section
variable {P : Program} {gl : Nat → Option PV} {n0 : Nat} {s : Env} {H : Hp} {Q : Ex → Env → Hp → Prop}
end
section
variable {H : Hp}
end
def eqVs {α : Type} (q : α → α → Bool) : List α → List α → Bool
  | [], [] => true
  | x :: l, y :: m => q x y && eqVs q l m
  | _, _ => false
theorem eqVs_len {α : Type} {q : α → α → Bool} : ∀ {l m : List α}, l.length ≠ m.length → eqVs q l m = false
  | [], [], h => absurd rfl h
  | [], _ :: _, _ => rfl
  | _ :: _, [], _ => rfl
  | x :: l, y :: m, h => by rw [eqVs, eqVs_len (by simpa using h), Bool.and_false]
theorem eqVs_no {α : Type} {q : α → α → Bool} (d : α) : ∀ {l m : List α} {k : Nat}, k < l.length → l.length = m.length → q (l.getD k d) (m.getD k d) = false → eqVs q l m = false
  | [], _, k, h, _, _ => absurd h (by simp)
  | x :: l, [], k, _, h, _ => absurd h (by simp)
  | x :: l, y :: m, 0, _, _, hq => by
    have : q x y = false := by simpa using hq
    rw [eqVs, this, Bool.false_and]
  | x :: l, y :: m, k + 1, h, hl, hq => by rw [eqVs, eqVs_no d (l := l) (m := m) (k := k) (by simpa using h) (by simpa using hl) (by simpa using hq), Bool.and_false]
theorem eqVs_yes {α : Type} {q : α → α → Bool} (d : α) : ∀ {l m : List α}, l.length = m.length → (∀ k, k < l.length → q (l.getD k d) (m.getD k d) = true) → eqVs q l m = true
  | [], [], _, _ => rfl
  | [], _ :: _, h, _ => absurd h (by simp)
  | _ :: _, [], h, _ => absurd h (by simp)
  | x :: l, y :: m, h, hq => by
    have h0 : q x y = true := by simpa using hq 0 (by simp)
    rw [eqVs, h0, Bool.true_and]
    exact eqVs_yes d (by simpa using h) fun k hk => by simpa using hq (k + 1) (by simpa using hk)
theorem eqVs_iff {α : Type} {q : α → α → Bool} (h : ∀ x y, q x y = true ↔ x = y) : ∀ {l m : List α}, eqVs q l m = true ↔ l = m
  | [], [] => by simp [eqVs]
  | [], _ :: _ => by simp [eqVs]
  | _ :: _, [] => by simp [eqVs]
  | x :: l, y :: m => by rw [eqVs, Bool.and_eq_true, h, eqVs_iff h, List.cons.injEq]
def sameI (x y : In) : Bool := decide (x = y)
def sameB (a b : Bk) : Bool := a.live == b.live && (eqVs sameI a.code b.code && eqVs (fun x y : Int => x == y) a.succ b.succ)
def sameF (f g : Fn) : Bool := f.ar == g.ar && (f.vs == g.vs && eqVs sameB f.bs g.bs)
def sameP (p q : List Fn) : Bool := eqVs sameF p q
theorem sameI_iff (x y : In) : sameI x y = true ↔ x = y := decide_eq_true_iff
theorem sameB_iff (a b : Bk) : sameB a b = true ↔ a = b := by
  obtain ⟨a1, a2, a3⟩ := a
  obtain ⟨b1, b2, b3⟩ := b
  simp only [sameB, Bool.and_eq_true, beq_iff_eq, eqVs_iff sameI_iff, eqVs_iff (q := fun x y : Int => x == y) (fun x y => beq_iff_eq), Bk.mk.injEq]
theorem sameF_iff (f g : Fn) : sameF f g = true ↔ f = g := by
  obtain ⟨a1, a2, a3⟩ := f
  obtain ⟨b1, b2, b3⟩ := g
  simp only [sameF, Bool.and_eq_true, beq_iff_eq, eqVs_iff sameB_iff, Fn.mk.injEq]
theorem sameP_iff (p q : List Fn) : sameP p q = true ↔ p = q := eqVs_iff sameF_iff
theorem sameP_refl (p : List Fn) : sameP p p = true := (sameP_iff p p).2 rfl
theorem sameP_ne {p q : List Fn} (h : p ≠ q) : sameP p q = false := by
  cases hs : sameP p q with
  | false => rfl
  | true => exact absurd ((sameP_iff p q).1 hs) h
theorem in_eq (x y : In) : (x.id == y.id && (x.kind == y.kind && (x.dst == y.dst && (x.a == y.a && (x.b == y.b && (x.c == y.c && (x.f == y.f && (x.n == y.n && (x.x == y.x && (x.y == y.y && (x.z == y.z && true))))))))))) = sameI x y := by
  rw [Bool.eq_iff_iff, sameI_iff]
  obtain ⟨a1, a2, a3, a4, a5, a6, a7, a8, a9, a10, a11⟩ := x
  obtain ⟨b1, b2, b3, b4, b5, b6, b7, b8, b9, b10, b11⟩ := y
  simp only [Bool.and_eq_true, beq_iff_eq, In.mk.injEq, and_true]
end Go.Vm
namespace Go.Vm
theorem fit_one {p : List Fn} {x : Fn} (h : Fit p) (hx : x ∈ p) : Fit [x] := by
  refine ⟨by simp, fun f hf => ?_, fun f hf => ?_, fun f hf => ?_⟩
  · rw [List.mem_singleton] at hf; subst hf; exact h.bs _ hx
  · rw [List.mem_singleton] at hf; subst hf; exact h.code _ hx
  · rw [List.mem_singleton] at hf; subst hf; exact h.succ _ hx
end Go.Vm
