/- What the condition on the laid variables gives a walk: the table of spaces. -/
import Derived.Test.YtkdhindpjllpkaaGreatDoorRows
import Derived.Test.YtkdhindpjllpkaaGreatDoorXinstr
import Derived.Lib.LaidTab
import Derived.MakeChecks
import Derived.LaidMore
import Derived.Stop.Joined
namespace Go.Proofs.YtkdhindpjllpkaaGreatDoor
open Go Go.Vm
abbrev laid2 : List (String × DataW Unit) := [("errors.errorType", Rows.laid_errors_errorType), ("unicode.White_Space", Rows.laid_unicode_White_Space), ("strings.asciiSpace", Rows.laid_strings_asciiSpace)]
theorem laidList : (Rows.applyIsRow.laid) = laid2 := rfl
def spaces : List Int := (List.range 256).map fun i => if i = 9 ∨ i = 10 ∨ i = 11 ∨ i = 12 ∨ i = 13 ∨ i = 32 then 1 else 0
set_option maxRecDepth 100000 in
theorem spaces_data : (Rows.laid_strings_asciiSpace : DataW Unit) = Lib.tabData .u8 spaces := by kernel_rfl
theorem asciiL_eq : asciiL = spaces.map (.int .u8) := by
  unfold asciiL spaces
  rw [List.map_map]
  refine List.map_congr_left fun i _ => ?_
  simp only [Function.comp]
theorem gSpace : Tryz.prog.globalNamed "strings.asciiSpace" = some 1 := by kernel_rfl
theorem et : Tryz.prog.globalNamed "errors.errorType" = some 0 := by kernel_rfl
theorem rt : (Tryz.prog.cutTypes.find? (·.1 == "internal/reflectlite.rtype")).map (·.2) = some 185 := by kernel_rfl
theorem oneRow : ((List.range Tryz.prog.types.size).filter fun t => Tryz.prog.rowNamed t [101, 114, 114, 111, 114]) = [87] := by kernel_rfl
theorem handle_of_laid {W : World} (h : laidMetH Tryz.prog laid2 W) : W.cell? ⟨0, 0, none⟩ = some errH := by
  have h' : handlesMet Tryz.prog [("errors.errorType", Rows.laid_errors_errorType)] W := h.2
  obtain ⟨name, u, ty, e1, e2, e3, e4, e5⟩ := h' _ (List.mem_singleton.2 rfl)
  have en : name = [101, 114, 114, 111, 114] := (Option.some.inj e1).symm
  subst en
  obtain rfl := Option.some.inj (rt.symm.trans e2)
  have hm : ty ∈ (List.range Tryz.prog.types.size).filter fun t => Tryz.prog.rowNamed t [101, 114, 114, 111, 114] := List.mem_filter.2 ⟨List.mem_range.2 e3, e4⟩
  rw [oneRow] at hm
  obtain rfl := List.mem_singleton.1 hm
  have hh : typeHandle Tryz.prog 87 = .pointer (some ⟨5, 87, none⟩) := by kernel_rfl
  rw [hh] at e5
  simpa [errH] using World.var?_cell et e5 0
set_option maxRecDepth 100000 in
theorem gl_of_laid {W : World} (h0 : laidMetH Tryz.prog laid2 W) : ∀ g p, glD g = some p → VRel (Old W) W noM (.pointer (some ⟨g, 0, none⟩)) p := by
  have h : laidMet Tryz.prog [("unicode.White_Space", Rows.laid_unicode_White_Space), ("strings.asciiSpace", Rows.laid_strings_asciiSpace)] W := h0.1
  have hc := handle_of_laid h0
  have ht : Lib.TabIs Tryz.prog W "strings.asciiSpace" .u8 spaces := by
    obtain ⟨ps, ⟨g0, t0, cs0, f0, p0, q0, hg0, ht0, hv0, hd0, hr, e⟩, hn, hc⟩ := h
    subst e
    refine Lib.tabIs_of_head (g := 1) (t := 205) (e := 5) (n := 256) (rest := []) gSpace (by kernel_rfl) (by kernel_rfl) (by kernel_rfl) (by kernel_rfl) (by kernel_rfl) ⟨q0, by rw [← spaces_data]; exact hr, (List.nodup_append.1 hn).2.1, fun b off hm => hc b off (List.mem_append_right _ hm)⟩
  intro g p hgp
  unfold glD at hgp
  cases hg : g == 1 with
  | false =>
    rw [hg] at hgp
    cases hg0 : g == 0 with
    | false => rw [hg0] at hgp; cases hgp
    | true =>
      rw [hg0] at hgp
      obtain rfl := Option.some.inj hgp
      obtain rfl : g = 0 := by simpa using hg0
      refine .fptr ⟨0, 0, none⟩ [.raw errH] (fun _ => errH) (World.block_lt_of_cell? W _ hc) (fun j hj => ?_) (fun j hj => ?_)
      · obtain rfl : j = 0 := by simpa using hj
        simpa [Addr.add] using hc
      · obtain rfl : j = 0 := by simpa using hj
        change VRel _ _ _ errH (.raw errH)
        unfold errH
        exact .raw _ _
  | true =>
    rw [hg] at hgp
    obtain rfl := Option.some.inj hgp
    obtain rfl : g = 1 := by simpa using hg
    have hlen : asciiL.length = 256 := by rw [asciiL_eq]; simp [spaces]
    have hcell := fun i hi => ht.cell gSpace i hi
    have hs : spaces.length = 256 := by simp [spaces]
    refine .fptr ⟨1, 0, none⟩ asciiL (fun j => .int .u8 (spaces.getD j 0)) ?_ (fun j hj => ?_) (fun j hj => ?_)
    · have := hcell 0 (by omega)
      exact World.block_lt_of_cell? W _ this
    · have := hcell j (by omega)
      cases j with
      | zero => simpa [Addr.add] using this
      | succ j => simpa [Addr.add] using this
    · have : asciiL[j] = .int .u8 (spaces.getD j 0) := by
        simp only [asciiL_eq, List.getElem_map]
        rw [List.getD_eq_getElem?_getD, List.getElem?_eq_getElem (by omega), Option.getD_some]
      rw [this]
      exact .int _ _
theorem own : ownKnob Tryz.prog.godebug = none := by kernel_rfl
noncomputable abbrev doorWorld (os : Os) : World := World.doorLaid Tryz.prog 40 os
theorem door_met (os : Os) (args : Array Value) : laidMetH Tryz.prog laid2 ((doorWorld os).forCall (fun _ _ => 0) ⟨#[], args, []⟩).memory :=
  laidMetH_of_parts3 (fuel := 8) (laidMet_of_run' 8 (by kernel_rfl) (by kernel_rfl)) (by kernel_rfl) (by kernel_rfl)
theorem door_shaped (os : Os) (args : Array Value) : ((doorWorld os).forCall (fun _ _ => 0) ⟨#[], args, []⟩).Shaped Tryz.prog :=
  World.shaped_of_RefB (by kernel_rfl) (by kernel_rfl)
end Go.Proofs.YtkdhindpjllpkaaGreatDoor
