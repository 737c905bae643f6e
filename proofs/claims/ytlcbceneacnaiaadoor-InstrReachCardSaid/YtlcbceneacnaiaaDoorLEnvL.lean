/- Laid. -/
import Derived.Test.YtlcbceneacnaiaaDoorLEnvS
/- The lattice of what is known of variables: its laws, no program in sight. -/
set_option linter.unusedSimpArgs false
set_option linter.unusedVariables false
namespace Go.Vm
open Go
structure Lat {T : Type} (z : T) (j : T → T → T) (le : T → T → Bool) : Prop where
  comm : ∀ a b, j a b = j b a
  assoc : ∀ a b c, j (j a b) c = j a (j b c)
  idem : ∀ a, j a a = a
  bot : ∀ a, j z a = a
  refl : ∀ a, le a a = true
  trans : ∀ a b c, le a b = true → le b c = true → le a c = true
  up : ∀ a b, le a (j a b) = true
  two : ∀ a b c, (le a c && le b c) = le (j a b) c
  least : ∀ a, le z a = true
section
variable {T : Type} {z : T} {j : T → T → T} {le : T → T → Bool}
theorem getD_ge {l : List T} {k : Nat} (h : l.length ≤ k) : l.getD k z = z := by
  rw [List.getD_eq_getElem?_getD, List.getElem?_eq_none h]; rfl
theorem Lat.getJ (h : Lat z j le) (a b : List T) (k : Nat) : (tab (max a.length b.length) fun k => j (a.getD k z) (b.getD k z)).getD k z = j (a.getD k z) (b.getD k z) := by
  rw [tab_getD']
  split
  · rfl
  · rename_i hk
    rw [getD_ge (by omega), getD_ge (by omega), h.bot]
theorem Lat.leq_iff (h : Lat z j le) (a b : List T) : eLeq z le (some a) (some b) = true ↔ ∀ k, le (a.getD k z) (b.getD k z) = true := by
  simp only [eLeq, List.all_eq_true, List.mem_range]
  constructor
  · intro hh k
    by_cases hk : k < max a.length b.length
    · exact hh k hk
    · rw [getD_ge (by omega), getD_ge (by omega)]
      exact h.refl z
  · exact fun hh k _ => hh k
theorem Lat.e_refl (h : Lat z j le) (a : Option (List T)) : eLeq z le a a = true := by
  cases a with
  | none => rfl
  | some a => exact (h.leq_iff a a).2 fun k => h.refl _
theorem Lat.e_none (h : Lat z j le) (a : Option (List T)) : eLeq z le none a = true := rfl
theorem Lat.e_trans (h : Lat z j le) {a b c : Option (List T)} (h1 : eLeq z le a b = true) (h2 : eLeq z le b c = true) : eLeq z le a c = true := by
  cases a with
  | none => rfl
  | some a =>
    cases b with
    | none => cases h1
    | some b =>
      cases c with
      | none => cases h2
      | some c =>
        rw [h.leq_iff] at *
        exact fun k => h.trans _ _ _ (h1 k) (h2 k)
theorem Lat.e_comm (h : Lat z j le) (a b : Option (List T)) : eJoin z j a b = eJoin z j b a := by
  cases a <;> cases b <;> simp only [eJoin]
  rw [Nat.max_comm]
  exact congrArg some (tab_congr fun k _ => h.comm _ _)
theorem Lat.e_up (h : Lat z j le) (a b : Option (List T)) : eLeq z le a (eJoin z j a b) = true := by
  cases a with
  | none => rfl
  | some a =>
    cases b with
    | none => exact h.e_refl (some a)
    | some b =>
      simp only [eJoin]
      rw [h.leq_iff]
      intro k
      rw [h.getJ]
      exact h.up _ _
theorem Lat.e_up' (h : Lat z j le) (a b : Option (List T)) : eLeq z le b (eJoin z j a b) = true := by rw [h.e_comm]; exact h.e_up b a
theorem Lat.e_two (h : Lat z j le) (a b c : Option (List T)) : (eLeq z le a c && eLeq z le b c) = eLeq z le (eJoin z j a b) c := by
  cases a with
  | none => simp [eLeq, eJoin]
  | some a =>
    cases b with
    | none => simp [eLeq, eJoin]
    | some b =>
      cases c with
      | none => rfl
      | some c =>
        rw [Bool.eq_iff_iff, Bool.and_eq_true]
        simp only [eJoin]
        rw [h.leq_iff, h.leq_iff, h.leq_iff]
        constructor
        · rintro ⟨h1, h2⟩ k
          rw [h.getJ, ← h.two, h1 k, h2 k]; rfl
        · intro hh
          have : ∀ k, le (a.getD k z) (c.getD k z) = true ∧ le (b.getD k z) (c.getD k z) = true := fun k => by
            have := hh k
            rw [h.getJ, ← h.two, Bool.and_eq_true] at this
            exact this
          exact ⟨fun k => (this k).1, fun k => (this k).2⟩
theorem Lat.e_assoc (h : Lat z j le) (a b c : Option (List T)) : eJoin z j (eJoin z j a b) c = eJoin z j a (eJoin z j b c) := by
  cases a with
  | none => rfl
  | some a =>
    cases b with
    | none => simp only [eJoin]
    | some b =>
      cases c with
      | none => simp only [eJoin]
      | some c =>
        simp only [eJoin, tab_length]
        rw [Nat.max_assoc]
        refine congrArg some (tab_congr fun k _ => ?_)
        rw [h.getJ, h.getJ, h.assoc]
theorem eGet_some (l : List T) (i : Int) : eGet z (some l) i = if 0 ≤ i then l.getD i.toNat z else z := rfl
theorem Lat.get_join (h : Lat z j le) (a b : Option (List T)) (i : Int) : eGet z (eJoin z j a b) i = j (eGet z a i) (eGet z b i) := by
  cases a with
  | none =>
    have : eGet z (none : Option (List T)) i = z := by simp [eGet, eV]
    rw [this, h.bot]; rfl
  | some a =>
    cases b with
    | none =>
      have : eGet z (none : Option (List T)) i = z := by simp [eGet, eV]
      rw [this, h.comm, h.bot]; rfl
    | some b =>
      simp only [eJoin, eGet_some]
      split
      · exact h.getJ a b _
      · rw [h.bot]
/-- Is a variable one of these? -/
def eInn (e : Option (List T)) (i : Int) : Bool := eOn e && decide (0 ≤ i) && decide (i < ((eV e).length : Nat))
theorem eInn_some (l : List T) (i : Int) : eInn (some l) i = true ↔ 0 ≤ i ∧ i < (l.length : Nat) := by
  show (true && decide (0 ≤ i) && decide (i < (l.length : Nat))) = true ↔ _
  simp
theorem get_set (e : Option (List T)) (i k : Int) (x : T) : eGet z (eSet e i x) k = if k = i ∧ eInn e i = true then x else eGet z e k := by
  cases e with
  | none => simp [eSet, eInn, eOn]
  | some l =>
    simp only [eInn_some]
    simp only [eSet, Option.map_some, eGet_some]
    by_cases h0 : 0 ≤ i
    · rw [if_pos h0]
      by_cases hk : k = i
      · subst hk
        rw [if_pos h0]
        by_cases h1 : k < (l.length : Nat)
        · rw [if_pos ⟨rfl, h0, h1⟩, List.getD_eq_getElem?_getD, List.getElem?_set_self (by omega)]; rfl
        · rw [if_neg (fun h => h1 h.2.2), List.set_eq_of_length_le (by omega), if_pos h0]
      · have e : (if k = i ∧ 0 ≤ i ∧ i < (l.length : Nat) then x else if 0 ≤ k then l.getD k.toNat z else z) = if 0 ≤ k then l.getD k.toNat z else z := if_neg (fun h => hk h.1)
        rw [e]
        by_cases hk0 : 0 ≤ k
        · rw [if_pos hk0, if_pos hk0, List.getD_eq_getElem?_getD, List.getElem?_set_ne (by omega), ← List.getD_eq_getElem?_getD]
        · rw [if_neg hk0, if_neg hk0]
    · have e : (if k = i ∧ 0 ≤ i ∧ i < (l.length : Nat) then x else if 0 ≤ k then l.getD k.toNat z else z) = if 0 ≤ k then l.getD k.toNat z else z := if_neg (fun h => h0 h.2.1)
      rw [e, if_neg h0]
theorem eOn_set (e : Option (List T)) (i : Int) (x : T) : eOn (eSet e i x) = eOn e := by cases e <;> rfl
theorem len_set (e : Option (List T)) (i : Int) (x : T) : (eV (eSet e i x)).length = (eV e).length := by
  cases e with
  | none => rfl
  | some l =>
    simp only [eSet, Option.map_some, eV]
    split <;> simp
theorem Lat.set_mono (h : Lat z j le) (e : Option (List T)) (i : Int) {x y : T} (hxy : le x y = true) : eLeq z le (eSet e i x) (eSet e i y) = true := by
  cases e with
  | none => rfl
  | some l =>
    simp only [eSet, Option.map_some]
    split
    · rw [h.leq_iff]
      intro k
      by_cases hk : k = i.toNat
      · subst hk
        by_cases hl : i.toNat < l.length
        · rw [List.getD_eq_getElem?_getD, List.getElem?_set_self hl, List.getD_eq_getElem?_getD, List.getElem?_set_self hl]
          exact hxy
        · rw [List.set_eq_of_length_le (by omega), List.set_eq_of_length_le (by omega)]
          exact h.refl _
      · rw [List.getD_eq_getElem?_getD, List.getElem?_set_ne (by omega), List.getD_eq_getElem?_getD, List.getElem?_set_ne (by omega)]
        exact h.refl _
    · exact h.e_refl (some l)
end
theorem latF : Lat V3.bot V3.join V3.leq where
  comm := V3.join_comm
  assoc := V3.join_assoc
  idem := fun a => by cases a <;> simp [V3.join]
  bot := fun a => rfl
  refl := V3.leq_refl
  trans := fun a b c h k => by
    rw [V3.leq_iff] at *
    cases a <;> cases b <;> cases c <;> simp_all
  up := V3.leq_join
  two := fun a b c => by
    rw [Bool.eq_iff_iff, Bool.and_eq_true, V3.leq_iff, V3.leq_iff, V3.leq_iff]
    rcases a with _ | x | _ <;> rcases b with _ | y | _ <;> rcases c with _ | w | _ <;> simp [V3.join] <;> (by_cases h : x = y <;> simp_all)
    exact fun e k => h (e.trans k.symm)
  least := fun a => by rw [V3.leq_iff]; left; rfl
theorem S8.all1 {p : S8 → Bool} (h : (List.range 8).all (fun n => if h : n < 8 then p ⟨n, by omega⟩ else true) = true) (a : S8) : p a = true := by
  obtain ⟨x, h0, h1⟩ := a
  obtain ⟨n, rfl⟩ := Int.eq_ofNat_of_zero_le h0
  have := List.all_eq_true.1 h n (List.mem_range.2 (by omega))
  rw [dif_pos (by omega)] at this
  exact this
theorem S8.all2 {p : S8 → S8 → Bool} (h : (List.range 8).all (fun n => if h : n < 8 then (List.range 8).all (fun m => if k : m < 8 then p ⟨n, by omega⟩ ⟨m, by omega⟩ else true) else true) = true) (a b : S8) : p a b = true :=
  S8.all1 (p := fun b => p a b) (S8.all1 (p := fun a => (List.range 8).all (fun m => if k : m < 8 then p a ⟨m, by omega⟩ else true)) h a) b
theorem S8.all3 {p : S8 → S8 → S8 → Bool} (h : (List.range 8).all (fun n => if h : n < 8 then (List.range 8).all (fun m => if k : m < 8 then (List.range 8).all (fun o => if l : o < 8 then p ⟨n, by omega⟩ ⟨m, by omega⟩ ⟨o, by omega⟩ else true) else true) else true) = true) (a b c : S8) : p a b c = true :=
  S8.all1 (p := fun c => p a b c) (S8.all2 (p := fun a b => (List.range 8).all (fun o => if l : o < 8 then p a b ⟨o, by omega⟩ else true)) h a b) c
theorem latS : Lat z8 S8.join S8.leq where
  comm := fun a b => by simpa using S8.all2 (p := fun a b => decide (a.join b = b.join a)) (by decide +kernel) a b
  assoc := fun a b c => by simpa using S8.all3 (p := fun a b c => decide ((a.join b).join c = a.join (b.join c))) (by decide +kernel) a b c
  idem := fun a => by simpa using S8.all1 (p := fun a => decide (a.join a = a)) (by decide +kernel) a
  bot := fun a => by simpa using S8.all1 (p := fun a => decide (z8.join a = a)) (by decide +kernel) a
  refl := fun a => by simpa using S8.all1 (p := fun a => a.leq a) (by decide +kernel) a
  trans := fun a b c h k => by
    have := S8.all3 (p := fun a b c => !(a.leq b && b.leq c) || a.leq c) (by decide +kernel) a b c
    simpa [h, k] using this
  up := fun a b => by simpa using S8.all2 (p := fun a b => a.leq (a.join b)) (by decide +kernel) a b
  two := fun a b c => by simpa using S8.all3 (p := fun a b c => decide ((a.leq c && b.leq c) = (a.join b).leq c)) (by decide +kernel) a b c
  least := fun a => by simpa using S8.all1 (p := fun a => z8.leq a) (by decide +kernel) a
end Go.Vm
namespace Go.Vm
section
variable {α T : Type} {z : T}
theorem inn_abs (f : α → PV) (g : α → T) (on : Bool) (l : List α) (i : Int) : (on && decide (i ≥ 0) && decide (i < ((l.map f).length : Nat))) = eInn (eAbs g on l) i := by
  cases on with
  | false => rfl
  | true =>
    rw [Bool.eq_iff_iff, eAbs_on, eInn_some]
    simp
theorem eOn_abs (g : α → T) (on : Bool) (l : List α) : eOn (eAbs g on l) = on := by cases on <;> rfl
theorem len_abs (f : α → PV) (g : α → T) (h : T → PV) (on : Bool) (l : List α) : (!on || (((eV (eAbs g on l)).map h).length : Int) == ((l.map f).length : Int)) = true := by
  cases on with
  | false => rfl
  | true => simp [eAbs, eV]
end
theorem V3.leq_top (a : V3) : a.leq .top = true := by rw [V3.leq_iff]; right; right; rfl
end Go.Vm
