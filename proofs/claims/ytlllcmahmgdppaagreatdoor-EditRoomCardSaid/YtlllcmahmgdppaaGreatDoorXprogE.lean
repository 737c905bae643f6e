/- Laid. -/
import Derived.Test.YtlllcmahmgdppaaGreatDoorVmThree
import Derived.KernelRfl
import Derived.Test.YtlllcmahmgdppaaGreatDoorProg
import Derived.Test.YtlllcmahmgdppaaGreatDoorXprogD
section
/- Code. -/
set_option maxRecDepth 100000
set_option linter.unusedSimpArgs false
set_option linter.unusedVariables false
namespace Go.Vm
open Go
end Go.Vm
end
section
/- Walks. -/
set_option maxRecDepth 100000
set_option linter.unusedSimpArgs false
set_option linter.unusedVariables false
namespace Go.Vm
open Go
set_option maxHeartbeats 4000000
def fAw : Fn := ⟨0, 0, [⟨true, [], []⟩]⟩
def pAw : List Fn := [fAw]
theorem sane_ok {p : List Fn} (h : sane p = true) {g : Fn} (hg : g ∈ p) : okF p g = true := by
  simp only [sane, Bool.and_eq_true] at h
  exact List.all_eq_true.mp h.1.2 g hg
theorem okF_blk {p : List Fn} {g : Fn} (h : okF p g = true) {x : Bk} (hx : x ∈ g.bs) : okB p g x = true := by
  simp only [okF, Bool.and_eq_true] at h
  exact List.all_eq_true.mp h.2 x hx
theorem live_F0 (b : Int) : liveF F0 b = false := by
  unfold liveF
  by_cases h : b ≥ 0
  · rw [decide_eq_false (show ¬ b < ((F0.bs.length : Nat) : Int) from fun c => by change b < 0 at c; omega)]; simp
  · rw [decide_eq_false h]; rfl
end Go.Vm
end
