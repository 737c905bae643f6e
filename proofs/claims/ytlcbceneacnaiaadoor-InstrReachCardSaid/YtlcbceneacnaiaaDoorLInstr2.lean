/- Laid. -/
import Derived.Test.YtlcbceneacnaiaaDoorLInstr
/- Rows of numbers; where one is; each once. -/
set_option linter.unusedSimpArgs false
set_option linter.unusedVariables false
namespace Go.Vm
open Go
abbrev pint (n : Int) : PV := .int .i64 n
section
variable {P : Program} {gl : Nat → Option PV} {e : Bool} {s : Env} {H : Hp} {l : Nodes} {Q : Env → Hp → Prop} {d : Option Nat} {bf : Nat} {α : Type} {f : α → PV}
theorem softs_vals {b g sz len : Nat} {xs : List α} {r r' : List PV} (hb : H.f b = some ⟨g, sz, xs.map f⟩) (hf : ∀ a, pureE (f a) = true) (hl : len = xs.length) (hr : softs H true r = some r') : softs H true (.ref b g 0 len :: r) = some (.sl (xs.map f) :: r') := by
  simp only [softs, soft, soft0, soft_vals hb hf hl, hr, Option.bind_eq_bind, Option.bind_some]
theorem fzP_eqp {k : Nat} {xs ys : List PV} (h : xs = ys) (hp : xs.all pureE = true) : fzP H k xs = some ys := by subst h; exact fzP_pure hp
end
/-- Where a number is, or -1. -/
def ixOf (l : List Int) (v : Int) : Int := if l.findIdx (· == v) < l.length then (l.findIdx (· == v) : Nat) else -1
theorem ixOf_at {l : List Int} {v : Int} {k : Nat} (hk : k < l.length) (h : l.getD k 0 = v) (hn : ∀ j, j < k → l.getD j 0 ≠ v) : ixOf l v = k := by
  have e : l.findIdx (· == v) = k := by
    rw [List.findIdx_eq hk]
    refine ⟨?_, fun j hj => ?_⟩
    · simp only [List.getD_eq_getElem?_getD, List.getElem?_eq_getElem hk, Option.getD_some] at h
      simpa using h
    · have := hn j hj
      simp only [List.getD_eq_getElem?_getD, List.getElem?_eq_getElem (show j < l.length by omega), Option.getD_some] at this
      simpa using this
  rw [ixOf, e, if_pos hk]
theorem ixOf_no {l : List Int} {v : Int} (hn : ∀ j, j < l.length → l.getD j 0 ≠ v) : ixOf l v = -1 := by
  rw [ixOf, if_neg]
  rw [List.findIdx_lt_length]
  rintro ⟨x, hx, he⟩
  obtain ⟨j, hj, rfl⟩ := List.mem_iff_getElem.1 hx
  have := hn j hj
  simp only [List.getD_eq_getElem?_getD, List.getElem?_eq_getElem hj, Option.getD_some] at this
  exact this (by simpa using he)
theorem ixOf_in (l : List Int) (v : Int) : decide (ixOf l v ≥ 0) = l.contains v := by
  unfold ixOf
  by_cases h : l.findIdx (· == v) < l.length
  · rw [if_pos h]
    rw [List.findIdx_lt_length] at h
    obtain ⟨x, hx, he⟩ := h
    have : x = v := by simpa using he
    subst this
    rw [List.contains_iff_mem.2 hx]
    simp
  · rw [if_neg h]
    rw [List.findIdx_lt_length] at h
    have : l.contains v = false := by
      rw [Bool.eq_false_iff]
      intro hc
      exact h ⟨v, List.contains_iff_mem.1 hc, by simp⟩
    rw [this]; rfl
def dd (o : List Int) (v : Int) : List Int := if o.contains v then o else o ++ [v]
theorem dedup_snoc (l : List Int) (v : Int) : dedup (l ++ [v]) = dd (dedup l) v := by simp [dedup, dd, List.foldl_append]
def gUse (k : Int) : Nat := (bif hA k then 1 else 0) + (bif hB k then 1 else 0) + 1
end Go.Vm
namespace Go.Vm
section
variable {P : Program} {gl : Nat → Option PV} {e : Bool} {s : Env} {H : Hp} {l : Nodes} {Q : Env → Hp → Prop} {d : Option Nat} {bf : Nat} {α : Type} {f : α → PV}
theorem n_append_valsL {sz b g k len' : Nat} {z : PV} {x v : RO} {q : PV} {xs : List α} (a : α) (hx : x.ev gl s = some (.ref b g 0 k)) (hv : v.ev gl s = some (.lit [q])) (hb : H.f b = some ⟨g, sz, xs.map f⟩) (hq : q = f a) (hz : cellsOk sz [q] = true) (hl : k = xs.length) (hm : k + 1 ≤ 1048576) (hl' : (xs ++ [a]).length = len')
    (kk : WN P gl e l (s.put d (some (.ref b (g + 1) 0 len'))) (H.set b ⟨g + 1, sz, (xs ++ [a]).map f⟩) Q) : WN P gl e (.op d (.append sz z x v) bf l) s H Q := by
  subst hl'
  exact n_append_vals a hx hv hb hq hz hl hm (by rw [hl]; simpa using kk)
end
end Go.Vm
