/- Laid. -/
import Derived.Test.YtlllcmahmgdppaaGreatDoorVmThree
import Derived.KernelRfl
import Derived.Test.YtlllcmahmgdppaaGreatDoorProg
import Derived.Test.YtlllcmahmgdppaaGreatDoorXinstrB
import Derived.Lib.Strings
import Derived.Lib.Slices
import Derived.Lib.Walk
import Derived.Lib.Bytealg
section
/- Code. -/
set_option maxRecDepth 100000
set_option linter.unusedSimpArgs false
set_option linter.unusedVariables false
namespace Go.Vm
open Go
end Go.Vm
end
section
/- Walks. -/
set_option maxRecDepth 100000
set_option linter.unusedSimpArgs false
set_option linter.unusedVariables false
namespace Go.Vm
open Go
set_option maxHeartbeats 4000000
theorem c_IndexByte (s : ByteArray) (c : Int) (w : World) :
    Calls Go.Proofs.Tryz.prog 160 #[.string s, .int .u8 c] w fun e w' => e = .returned (.int .i64 (Lib.indexByte s.data.toList c.toNat.toUInt8)) ∧ w' = w := by
  go_enter Go.Proofs.Tryz.func160, Go.Proofs.Tryz.ntmps160
  go_wp2
  rw [run_callFunc_extern Go.Proofs.Tryz.func164 (by kernel_rfl) (by kernel_rfl) (by kernel_rfl) (e := Extern.BytealgIndexByte.indexByte) (by kernel_rfl), Lib.run_indexByteString]
  simp only [Result.andThen]
  rw [Oper.upon_value]
  go_wp2
  go_ret
  exact ⟨rfl, rfl⟩
theorem p_IndexByte {gl : Nat → Option PV} (s : ByteArray) (c : Int) : Pure Go.Proofs.Tryz.prog gl 160 [.str s, .int .u8 c] (.int .i64 (Lib.indexByte s.data.toList c.toNat.toUInt8)) := by
  refine ⟨by kernel_rfl, fun A w vs hA hg hvs => ?_⟩
  obtain ⟨hs, hv⟩ := hvs
  have h2 : vs.size = 2 := hs
  have e0 := hv 0 (by omega) (by simp)
  have e1 := hv 1 (by omega) (by simp)
  obtain ⟨v0, v1, rfl⟩ : ∃ v0 v1, vs = #[v0, v1] := ⟨vs[0], vs[1], by
    refine Array.ext (by simpa using h2) fun i h3 h4 => ?_
    simp at h4
    rcases (by omega : i = 0 ∨ i = 1) with rfl | rfl <;> rfl⟩
  simp only [List.getElem_cons_zero, List.getElem_cons_succ] at e0 e1
  cases e0
  cases e1
  refine (c_IndexByte s c w).mono ?_
  rintro e w' ⟨rfl, rfl⟩
  exact ⟨_, rfl, .refl _ _, .int _ _⟩
end Go.Vm
end
