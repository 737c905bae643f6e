/- Laid. -/
import Derived.Test.YtlcbceneacnaiaaDoorLEnv
/- What is known of variables' signs. -/
set_option linter.unusedSimpArgs false
set_option linter.unusedVariables false
namespace Go.Vm
open Go
abbrev I64 := {x : Int // i64r x}
abbrev S8 := {x : Int // 0 ≤ x ∧ x ≤ 7}
abbrev pi (x : I64) : PV := .int .i64 x.1
abbrev ps (x : S8) : PV := .int .i64 x.1
theorem sn_07 (x : Int) : 0 ≤ sn x ∧ sn x ≤ 7 := by unfold sn; split <;> omega
def s8 (x : I64) : S8 := ⟨sn x.1, sn_07 _⟩
def z8 : S8 := ⟨0, by omega⟩
def zi : I64 := ⟨0, by unfold i64r; omega⟩
def S8.i (x : S8) : I64 := ⟨x.1, by have := x.2; unfold i64r; omega⟩
theorem s8_i (v : S8) : s8 v.i = v := Subtype.ext (by show sn v.1 = v.1; unfold sn; rw [if_pos v.2])
theorem sOr_07 : ∀ a b : Fin 8, 0 ≤ sOr (a.1 : Int) (b.1 : Int) ∧ sOr (a.1 : Int) (b.1 : Int) ≤ 7 := by decide +kernel
theorem sOr_r {a b : Int} (ha : 0 ≤ a ∧ a ≤ 7) (hb : 0 ≤ b ∧ b ≤ 7) : 0 ≤ sOr a b ∧ sOr a b ≤ 7 := by
  have := sOr_07 ⟨a.toNat, by omega⟩ ⟨b.toNat, by omega⟩
  simp only [Int.toNat_of_nonneg ha.1, Int.toNat_of_nonneg hb.1] at this
  exact this
def S8.join (a b : S8) : S8 := ⟨sJoin a.1 b.1, sOr_r (sn_07 _) (sn_07 _)⟩
def S8.leq (a b : S8) : Bool := sLeq a.1 b.1
theorem S8.i64 (a : S8) : i64r a.1 := by have := a.2; unfold i64r; omega
theorem s8_zero : s8 zi = z8 := rfl
theorem eAbs_outS (e : Option (List S8)) : eAbs s8 (eOn e) ((eV e).map S8.i) = e := by
  cases e with
  | none => rfl
  | some l =>
    simp only [eOn, eV, eAbs_on, List.map_map]
    congr 1
    conv => rhs; rw [← List.map_id l]
    exact List.map_congr_left fun v _ => s8_i v
theorem eOutS_in (e : Option (List S8)) : eOut ps e = eIn pi (eOn e) ((eV e).map S8.i) := by
  simp only [eOut, eIn, List.map_map]
  rfl
theorem rep_outS {e : Option (List S8)} (h : Few e) : RepE pi s8 (eOut ps e) e := ⟨eOn e, (eV e).map S8.i, eOutS_in e, eAbs_outS e, by unfold Few at h; simpa using h⟩
theorem rep_inS (on : Bool) (l : List I64) (h : l.length ≤ 500) : RepE pi s8 (eIn pi on l) (eAbs s8 on l) := ⟨on, l, rfl, rfl, h⟩
end Go.Vm
namespace Go.Vm
theorem b_or8 (a b : S8) : binP .or (ps a) (ps b) = some (ps (a.join b)) := by
  show some (PV.int .i64 (sOr a.1 b.1)) = some (PV.int .i64 (sOr (sn a.1) (sn b.1)))
  have h1 : sn a.1 = a.1 := if_pos a.2
  have h2 : sn b.1 = b.1 := if_pos b.2
  rw [h1, h2]
end Go.Vm
