/- The link from arguments to a call. -/
import Derived.Test.YtjegabeechopdaaVmV
import Derived.Test.YtjegabeechopdaaVmW
namespace Go.Vm
open Go

def RelL (w : World) : List Value → List PV → Prop
  | [], [] => True
  | v :: vs, p :: ps => VRel (Old w) w noM v p ∧ RelL w vs ps
  | _, _ => False

theorem RelL.get {w : World} : ∀ {vs : List Value} {ps : List PV}, RelL w vs ps → vs.length = ps.length ∧ ∀ j (h1 : j < vs.length) (h2 : j < ps.length), VRel (Old w) w noM vs[j] ps[j]
  | [], [], _ => ⟨rfl, fun j h => by simp at h⟩
  | v :: vs, p :: ps, h => by
    obtain ⟨e, ih⟩ := RelL.get h.2
    refine ⟨by simp [e], fun j h1 h2 => ?_⟩
    cases j with
    | zero => exact h.1
    | succ j => exact ih j (by simpa using h1) (by simpa using h2)
  | [], p :: ps, h => h.elim
  | v :: vs, [], h => h.elim

theorem CsRel_list {w : World} (vs : List Value) (ps : List PV) (h : RelL w vs ps) : CsRel (Old w) noM w vs.toArray ps := by
  obtain ⟨e, h⟩ := h.get
  exact ⟨by simpa using e, fun j h1 h2 => by simpa using h j (by simpa using h1) h2⟩
end Go.Vm
