/- Laid. -/
import Derived.Test.YtlcbceneacnaiaaDoorVnG
import Derived.Test.YtlcbceneacnaiaaDoorLFlatN
import Derived.Test.YtlcbceneacnaiaaDoorLSign
/- What is known of variables: a value for each, or nothing. -/
set_option linter.unusedSimpArgs false
set_option linter.unusedVariables false
namespace Go.Vm
open Go
abbrev pq (q : Int × Int) : PV := .agg [.int .i64 q.1, .int .i64 q.2]
def fq (q : Int × Int) : V3 := toV q.1 q.2
section
variable {α T : Type}
/-- Handed in, as it is. -/
abbrev eIn (f : α → PV) (on : Bool) (l : List α) : PV := .agg [.bool on, .sl (l.map f)]
def eAbs (g : α → T) (on : Bool) (l : List α) : Option (List T) := if on then some (l.map g) else none
def eOn : Option (List T) → Bool
  | none => false
  | some _ => true
def eV : Option (List T) → List T
  | none => []
  | some l => l
/-- Handed back. -/
abbrev eOut (f : T → PV) (e : Option (List T)) : PV := .agg [.bool (eOn e), .sl ((eV e).map f)]
def eGet (z : T) (e : Option (List T)) (i : Int) : T := if 0 ≤ i then (eV e).getD i.toNat z else z
def eOwn (z : T) (e : Option (List T)) (n : Nat) : Option (List T) := e.map fun l => tab (max n l.length) fun k => l.getD k z
def eSet (e : Option (List T)) (i : Int) (x : T) : Option (List T) := e.map fun l => if 0 ≤ i then l.set i.toNat x else l
def eJoin (z : T) (j : T → T → T) (a b : Option (List T)) : Option (List T) :=
  match a, b with
  | none, b => b
  | some a, none => some a
  | some a, some b => some (tab (max a.length b.length) fun k => j (a.getD k z) (b.getD k z))
def eLeq (z : T) (le : T → T → Bool) (a b : Option (List T)) : Bool :=
  match a, b with
  | none, _ => true
  | some _, none => false
  | some a, some b => (List.range (max a.length b.length)).all fun k => le (a.getD k z) (b.getD k z)
theorem eAbs_on (g : α → T) (l : List α) : eAbs g true l = some (l.map g) := rfl
theorem eAbs_off (g : α → T) (l : List α) : eAbs g false l = none := rfl
theorem eAbs_get {g : α → T} {on : Bool} {l : List α} {i : Int} {a : α} {z : T} (h : g a = z) : eGet z (eAbs g on l) i = if on = true ∧ 0 ≤ i ∧ i < (l.length : Nat) then g (l.getD i.toNat a) else z := by
  unfold eGet eAbs
  cases on with
  | false => simp [eV]
  | true =>
    simp only [if_true, eV, true_and]
    by_cases h0 : 0 ≤ i
    · rw [if_pos h0]
      by_cases h1 : i < (l.length : Nat)
      · rw [if_pos ⟨h0, h1⟩, map_getD h]
      · rw [if_neg (fun h => h1 h.2), List.getD_eq_getElem?_getD, List.getElem?_eq_none (by simp; omega)]
        rfl
    · rw [if_neg h0, if_neg (fun h => h0 h.1)]
theorem eOwn_zero (z : T) (e : Option (List T)) : eOwn z e 0 = e := by
  cases e with
  | none => rfl
  | some l =>
    show some (tab (max 0 l.length) fun k => l.getD k z) = some l
    rw [Nat.zero_max, tab_of]
end
theorem eAbs_out (e : Option (List V3)) : eAbs fq (eOn e) ((eV e).map fun v => (v.k, v.c)) = e := by
  cases e with
  | none => rfl
  | some l =>
    simp only [eOn, eV, eAbs_on, List.map_map]
    congr 1
    conv => rhs; rw [← List.map_id l]
    refine List.map_congr_left fun v _ => ?_
    show toV v.k v.c = v
    exact toV_kc v
theorem eOut_in (e : Option (List V3)) : eOut pv e = eIn pq (eOn e) ((eV e).map fun v => (v.k, v.c)) := by
  simp [eOut, eIn]
end Go.Vm
namespace Go.Vm
section
variable {α T : Type}
def eAll (n : Int) (x : T) : Option (List T) := some (List.replicate (max 0 (min n 64)).toNat x)
/-- A value that stands for what is known. -/
def RepE (f : α → PV) (g : α → T) (p : PV) (e : Option (List T)) : Prop := ∃ on l, p = eIn f on l ∧ eAbs g on l = e ∧ l.length ≤ 500
def Few (e : Option (List T)) : Prop := (eV e).length ≤ 500
theorem RepE.few {f : α → PV} {g : α → T} {p : PV} {e : Option (List T)} (h : RepE f g p e) : Few e := by
  obtain ⟨on, l, _, rfl, hl⟩ := h
  unfold Few eAbs
  cases on with
  | false => simp [eV]
  | true => simpa [eV] using hl
theorem few_join {z : T} {j : T → T → T} {a b : Option (List T)} (ha : Few a) (hb : Few b) : Few (eJoin z j a b) := by
  cases a with
  | none => exact hb
  | some a =>
    cases b with
    | none => exact ha
    | some b =>
      unfold Few at *
      simp only [eJoin, eV, tab_length] at *
      omega
theorem few_set {e : Option (List T)} {i : Int} {x : T} (h : Few e) : Few (eSet e i x) := by
  cases e with
  | none => exact h
  | some l =>
    unfold Few at *
    simp only [eSet, Option.map_some, eV] at *
    split
    · simpa using h
    · exact h
theorem few_all {n : Int} {x : T} : Few (eAll n x) := by
  unfold Few
  simp only [eAll, eV, List.length_replicate]
  omega
theorem few_none : Few (none : Option (List T)) := by simp [Few, eV]
end
theorem rep_outF {e : Option (List V3)} (h : Few e) : RepE pq fq (eOut pv e) e := ⟨eOn e, (eV e).map fun v => (v.k, v.c), eOut_in e, eAbs_out e, by unfold Few at h; simpa using h⟩
theorem rep_inF (on : Bool) (l : List (Int × Int)) (h : l.length ≤ 500) : RepE pq fq (eIn pq on l) (eAbs fq on l) := ⟨on, l, rfl, rfl, h⟩
end Go.Vm
