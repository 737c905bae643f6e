/- What the condition on the laid variables gives a walk: the table of trailing zeros. -/
import Derived.Test.YtheihgmjjpjlmaaDoorRows
import Derived.Test.YtheihgmjjpjlmaaDoorXbitsL
import Derived.Lib.LaidTab
import Derived.MakeChecks
import Derived.LaidMore
import Derived.Stop.Joined
namespace Go.Proofs.YtheihgmjjpjlmaaDoor
open Go Go.Vm
theorem laidList : (Rows.bitsListRow.laid) = [("math/bits.deBruijn64tab", Rows.laid_math_bits_deBruijn64tab)] := rfl
abbrev laid2 : List (String × DataW Unit) := [("math/bits.deBruijn64tab", Rows.laid_math_bits_deBruijn64tab)]
def spaces : List Int := tzT.map fun n : Nat => (n : Int)
set_option maxRecDepth 100000 in
theorem spaces_data : (Rows.laid_math_bits_deBruijn64tab : DataW Unit) = Lib.tabData .u8 spaces := by kernel_rfl
def asciiL : List PV := tzT.map fun n : Nat => PV.int .u8 n
theorem asciiL_eq : asciiL = spaces.map (.int .u8) := by kernel_rfl
theorem gSpace : Tryd.prog.globalNamed "math/bits.deBruijn64tab" = some 0 := by kernel_rfl
set_option maxRecDepth 100000 in
theorem gl_of_laid {W : World} (h : laidMetH Tryd.prog laid2 W) : ∀ g p, glT g = some p → VRel (Old W) W noM (.pointer (some ⟨g, 0, none⟩)) p := by
  rw [MakeChecks.laidMetH_plain _ _ _ (by kernel_rfl)] at h
  have ht : Lib.TabIs Tryd.prog W "math/bits.deBruijn64tab" .u8 spaces := by
    obtain ⟨ps, hr0, hn, hc⟩ := h
    refine Lib.tabIs_of_head (g := 0) (t := 61) (e := 5) (n := 64) (rest := []) gSpace (by kernel_rfl) (by kernel_rfl) (by kernel_rfl) (by kernel_rfl) (by kernel_rfl) ⟨ps, by rw [← spaces_data]; exact hr0, hn, hc⟩
  intro g p hgp
  unfold glT at hgp
  cases hg : g == 0 with
  | false => rw [hg] at hgp; cases hgp
  | true =>
    rw [hg] at hgp
    obtain rfl := Option.some.inj hgp
    obtain rfl : g = 0 := by simpa using hg
    have hlen : asciiL.length = 64 := rfl
    have hcell := fun i hi => ht.cell gSpace i hi
    have hs : spaces.length = 64 := rfl
    refine .fptr ⟨0, 0, none⟩ asciiL (fun j => .int .u8 (spaces.getD j 0)) ?_ (fun j hj => ?_) (fun j hj => ?_)
    · have := hcell 0 (by omega)
      exact World.block_lt_of_cell? W _ this
    · have := hcell j (by omega)
      cases j with
      | zero => simpa [Addr.add] using this
      | succ j => simpa [Addr.add] using this
    · have : asciiL[j] = .int .u8 (spaces.getD j 0) := by
        have hq : asciiL[j]? = some (.int .u8 (spaces.getD j 0)) := by
          rw [asciiL_eq, List.getElem?_map, List.getD_eq_getElem?_getD, List.getElem?_eq_getElem (by omega)]; rfl
        rw [List.getElem?_eq_getElem hj] at hq
        exact Option.some.inj hq
      rw [this]
      exact .int _ _
theorem own : ownKnob Tryd.prog.godebug = none := by kernel_rfl
noncomputable abbrev doorWorld (os : Os) : World := World.doorLaid Tryd.prog 14 os
theorem door_met (os : Os) (args : Array Value) : laidMetH Tryd.prog laid2 ((doorWorld os).forCall (fun _ _ => 0) ⟨#[], args, []⟩).memory :=
  laidMetH_of_parts3 (fuel := 8) (laidMet_of_run' 8 (by kernel_rfl) (by kernel_rfl)) (by kernel_rfl) (by kernel_rfl)
theorem door_shaped (os : Os) (args : Array Value) : ((doorWorld os).forCall (fun _ _ => 0) ⟨#[], args, []⟩).Shaped Tryd.prog :=
  World.shaped_of_RefB (by kernel_rfl) (by kernel_rfl)
end Go.Proofs.YtheihgmjjpjlmaaDoor
