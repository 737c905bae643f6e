/- append and copy: sound. -/
import Derived.Test.YtjegabeechopdaaVmK
import Derived.ArgAppend
import Derived.Room.Entries
set_option linter.unusedSimpArgs false
set_option linter.unusedVariables false
namespace Go.Vm
open Go Go.RowKit
section
variable {P : Program} {gl : Nat → Option PV} {A : Nat → Prop} {w0 : World} {F : Nat → Prop} {m : Nat → Slot} {w : World} {G H : Hp} {a : Act} {env : Env} {o : Oper} {p : PV} {own : Bool}

/-- The cells that a slice shows, in the world. -/
structure Shows (F : Nat → Prop) (m : Nat → Slot) (w : World) (v : Value) (ys : List PV) (news : List Value) : Prop where
  shape : ∃ A c, v = .slice A ys.length c ∧ (ys = [] ∨ ∃ ad, A = some ad ∧ ∀ j u, news[j]? = some u → w.cell? (ad.add j) = some u)
  rel : CsRel F m w news.toArray (flat ys)

theorem flat_one : ∀ {l : List PV}, (∀ e ∈ l, e.one = true) → flat l = l
  | [], _ => rfl
  | x :: l, h => by
    have hx := h x (by simp)
    have ih := flat_one (l := l) (fun e he => h e (by simp [he]))
    unfold flat at ih ⊢
    rw [List.flatMap_cons, ih]
    cases x <;> first | rfl | simp [PV.one] at hx

theorem one_get {z : PV} (h : z.one = true) (j : Nat) (hj : j < z.cells.length) : z.cells[j] = z := by
  have hc : z.cells = [z] := by cases z <;> first | rfl | (exact absurd h (by simp [PV.one]))
  simp only [hc]
  have : j = 0 := by rw [hc] at hj; simpa using hj
  subst this
  rfl

/-- Cells in one row, from an offset on. -/
theorem shows_row {ys : List PV} {s : Nat} (hs : ∀ y ∈ ys, y.cells.length = s) (f : Nat → Nat → Value) (hr : ∀ i (h1 : i < ys.length) j (h2 : j < (ys[i]).cells.length), VRel F w m (f i j) (ys[i]).cells[j]) :
    ∃ news : List Value, CsRel F m w news.toArray (flat ys) ∧ ∀ k u, news[k]? = some u → k < ys.length * s ∧ 0 < s ∧ u = f (k / s) (k % s) := by
  refine ⟨(List.range (ys.length * s)).map fun k => f (k / s) (k % s), .of_get ?_ ?_, ?_⟩
  · simp [flat_length hs]
  · intro k q hq
    obtain ⟨hk, _⟩ := List.getElem?_eq_some_iff.1 hq
    rw [flat_length hs] at hk
    have h0 : 0 < s := by rcases Nat.eq_zero_or_pos s with e | e; (subst e; simp at hk); exact e
    have hi : k / s < ys.length := Nat.div_lt_of_lt_mul (by rw [Nat.mul_comm]; exact hk)
    have hj : k % s < s := Nat.mod_lt _ h0
    have hg := flat_get hs (k / s) hi (k % s) hj
    rw [show k / s * s + k % s = k by rw [Nat.mul_comm]; exact Nat.div_add_mod k s, hq] at hg
    obtain ⟨h2, h3⟩ := List.getElem?_eq_some_iff.1 hg.symm
    refine ⟨f (k / s) (k % s), by simp [hk], ?_⟩
    rw [← h3]
    exact hr _ hi _ h2
  · intro k u hu
    obtain ⟨hk, rfl⟩ := List.getElem?_eq_some_iff.1 hu
    simp at hk
    refine ⟨hk, ?_, by simp⟩
    rcases Nat.eq_zero_or_pos s with e | e
    · subst e; simp at hk
    · exact e

theorem elems_shows (sim : Sim gl A w0 F m w G) (hG : ∀ b k, H.f b = some k → G.f b = some k) {v : Value} {x : PV} {ys : List PV} {s : Nat} (hv : VRel F w m v x) (he : elems H x = some ys) (hs : ∀ y ∈ ys, y.cells.length = s) :
    ∃ news, Shows F m w v ys news := by
  have of_frozen : ∀ (ad : Addr) (c s' : Nat) (cs : Nat → Nat → Value), v = .slice (some ad) ys.length c → (∀ e ∈ ys, e.cells.length = s') → (∀ i, i < ys.length → ∀ j, j < s' → w.cell? (ad.add (i * s' + j)) = some (cs i j)) →
      (∀ i (h1 : i < ys.length) j (h2 : j < (ys[i]).cells.length), VRel F w m (cs i j) (ys[i]).cells[j]) → ∃ news, Shows F m w v ys news := by
    intro ad c s' cs hv' hz hcell h
    obtain ⟨news, h1, h2⟩ := shows_row hz cs h
    refine ⟨news, ⟨some ad, c, hv', .inr ⟨ad, rfl, fun k u hu => ?_⟩⟩, h1⟩
    obtain ⟨hk, h0, rfl⟩ := h2 k u hu
    have := hcell (k / s') (Nat.div_lt_of_lt_mul (by rw [Nat.mul_comm]; exact hk)) (k % s') (Nat.mod_lt _ h0)
    rwa [show k / s' * s' + k % s' = k by rw [Nat.mul_comm]; exact Nat.div_add_mod k s'] at this
  unfold elems at he
  split at he
  · injection he with he
    subst he
    cases hv with
    | slnil As c hc => exact ⟨[], ⟨As, c, rfl, by cases As with | none => exact .inl rfl | some ad => exact .inr ⟨ad, rfl, fun k u hu => by simp at hu⟩⟩, by simp [flat], fun j h1 => absurd h1 (by simp)⟩
    | sl ad c s' _ cs hF hc hm hz hcell h => exact of_frozen ad c s' cs rfl hz hcell (fun i h1 j h2 => (h i h1 j h2).weak m)
  · injection he with he
    subst he
    cases hv with
    | litnil => exact ⟨[], ⟨none, 0, rfl, .inl rfl⟩, by simp [flat], fun j h1 => absurd h1 (by simp)⟩
    | lit ad s' _ cs hF hm hz hcell h => exact of_frozen ad _ s' cs rfl hz hcell h
  · rename_i b g off len
    simp only [Option.bind_eq_bind, Option.bind_eq_some_iff] at he
    obtain ⟨k, hk, he⟩ := he
    obtain ⟨hf, hg⟩ := Hp.blk_some hk
    split at he
    · rename_i hle
      injection he with he
      subst he
      cases hv with
      | ref Ad c _ _ _ _ h =>
        have hnu : m b ≠ .unborn := fun e => by rw [e] at h; exact h
        rcases sim.blk b k (hG _ _ hf) hnu with ⟨β, hm, ⟨cs, T, h1, h2, h3, h4⟩⟩ | ⟨hvi, hxs⟩
        case inr =>
          rw [hvi] at h
          obtain ⟨rfl, rfl⟩ := h.2 hg.symm
          refine ⟨[], ⟨Ad, 0, by simp, ?_⟩, by simp [flat], fun j h1 => absurd h1 (by simp)⟩
          cases Ad with
          | none => exact .inl rfl
          | some ad => exact .inr ⟨ad, rfl, fun k u hu => by simp at hu⟩
        rw [hm] at h
        obtain ⟨rfl, _⟩ := h.2 hg.symm
        have hlen : ((k.xs.drop off).take len).length = len := by simp; omega
        refine of_frozen ⟨β, off * k.sz, none⟩ c k.sz (fun i j => cs.getD ((off + i) * k.sz + j) undef) (by rw [hlen]) (fun e he => h3 e (List.mem_of_mem_drop (List.mem_of_mem_take he))) ?_ ?_
        · intro i hi j hj
          rw [hlen] at hi
          obtain ⟨u, hu, _⟩ := h4 (off + i) (by omega) j (by rw [h3 _ (List.getElem_mem _)]; exact hj)
          rw [add_plain', cell_row h1, show off * k.sz + (i * k.sz + j) = (off + i) * k.sz + j by rw [Nat.add_mul]; omega, hu, Array.getD_eq_getD_getElem?, hu]
          rfl
        · intro i hi j hj
          rw [hlen] at hi
          have e : ((k.xs.drop off).take len)[i]'(by rw [hlen]; exact hi) = k.xs[off + i]'(by omega) := by simp
          simp only [e] at hj ⊢
          obtain ⟨u, hu, hr⟩ := h4 (off + i) (by omega) j hj
          rw [Array.getD_eq_getD_getElem?, hu]
          exact hr
    · cases he
  · rename_i b g i off len
    simp only [Option.bind_eq_bind, Option.bind_eq_some_iff] at he
    obtain ⟨k, hk, e, hel, he⟩ := he
    obtain ⟨hf, hg⟩ := Hp.blk_some hk
    obtain ⟨hi, rfl⟩ := List.getElem?_eq_some_iff.1 hel
    split at he
    · rename_i hle
      injection he with he
      subst he
      cases hv with
      | cref Ad c _ _ _ _ _ h =>
        have hnu : m b ≠ .unborn := fun e => by rw [e] at h; exact h
        rcases sim.blk b k (hG _ _ hf) hnu with ⟨β, hm, ⟨cs, T, h1, h2, h3, h4⟩⟩ | ⟨hvi, hxs⟩
        case inr => rw [hvi] at h; exact h.elim
        rw [hm] at h
        obtain ⟨rfl, _⟩ := h.2 hg.symm
        have hlen : (((k.xs[i]).cells.drop off).take len).length = len := by simp; omega
        have hone : ∀ e ∈ ((k.xs[i]).cells.drop off).take len, e.one = true := fun e he => List.all_eq_true.1 hle.2 e he
        have hc1 : ∀ e ∈ ((k.xs[i]).cells.drop off).take len, e.cells = [e] := fun e he => by
          have := hone e he
          cases e <;> first | rfl | simp [PV.one] at this
        refine of_frozen ⟨β, i * k.sz + off, none⟩ c 1 (fun q j => cs.getD (i * k.sz + (off + q)) undef) (by rw [hlen]) (fun e he => by rw [hc1 e he]; rfl) ?_ ?_
        · intro q hq j hj
          rw [hlen] at hq
          obtain rfl : j = 0 := by omega
          obtain ⟨u, hu, _⟩ := h4 i hi (off + q) (by omega)
          rw [add_plain', cell_row h1, show i * k.sz + off + (q * 1 + 0) = i * k.sz + (off + q) by omega, hu, Array.getD_eq_getD_getElem?, hu]
          rfl
        · intro q hq j hj
          rw [hlen] at hq
          have e1 : (((k.xs[i]).cells.drop off).take len)[q]'(by rw [hlen]; exact hq) = (k.xs[i]).cells[off + q]'(by omega) := by simp
          obtain ⟨u, hu, hr⟩ := h4 i hi (off + q) (by omega)
          have hj0 : j < 1 := by rw [hc1 _ (List.getElem_mem _)] at hj; simpa using hj
          rw [one_get (hone _ (List.getElem_mem _)) j hj, e1, show i * k.sz + (off + q) = i * k.sz + (off + q) from rfl, Array.getD_eq_getD_getElem?, hu]
          exact hr
    · cases he
  · cases he
end
end Go.Vm
