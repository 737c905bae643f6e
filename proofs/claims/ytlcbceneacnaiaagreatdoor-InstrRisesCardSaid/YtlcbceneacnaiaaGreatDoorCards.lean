/-
  DERIVED. GIVEN WITH THE SEED: THE CARDS: each row of YtlcbceneacnaiaaGreatDoorRows.lean that lists a variable, with what it lists TIED to the program's text (the seventh form; the later family's looks); each row that meets fmt, with fmt's text TOLD by the authors' own Lean function (tested against real Go, not proved from fmt's source: count such statements apart). THE CARD IS WHAT COUNTS. Prove the row's statement (the work); the ties are given (YtlcbceneacnaiaaGreatDoorTie.lean); close each card by the builder's one call (the guide's Derived/Test/ToyasCard.lean, 'card_holds'). Laid BY PROGRAM, IN A SANDBOX (cutbox-door.mjs). By AI agents, Wed Nov 11 2026. No macro, syntax, notation, axiom, sorry.
-/
import Derived.Test.YtlcbceneacnaiaaGreatDoorRows
import GoSem.ClaimSeven
namespace Go.Proofs.YtlcbceneacnaiaaGreatDoor
namespace Rows

/-- THE TIED CARD OF 'bywashlaw05.InstrEnvs'. -/
def instrEnvsCard : Claim7 := { stood := { row := instrEnvsRow, standIns := [], harness := (true, "3e4d819fbb207f12b2728dbc96f9117b7bbe73e91ab6c6dac1b6368e1f154bbf"), looks := false }, kinds := [], alts := [], laidByText := true, laidKinds := [.listed, .data], laidTests := true, laidLooks := .later }
def InstrEnvsCardSaid : Prop := Claim7.holds Tryz.pinned (.plain (OpenSpec.ofChange instrEnvsSpec)) instrEnvsCard

/-- THE TIED CARD OF 'bywashlaw05.InstrRises'. -/
def instrRisesCard : Claim7 := { stood := { row := instrRisesRow, standIns := [], harness := (true, "3e4d819fbb207f12b2728dbc96f9117b7bbe73e91ab6c6dac1b6368e1f154bbf"), looks := false }, kinds := [], alts := [], laidByText := true, laidKinds := [.listed, .data], laidTests := true, laidLooks := .later }
def InstrRisesCardSaid : Prop := Claim7.holds Tryz.pinned (.plain (OpenSpec.ofChange instrRisesSpec)) instrRisesCard

/-- THE SECOND FORM's CARD OF 'bywashlaw05.InstrEnvs'. -/
def instrEnvsUptoCard : Claim7 := { stood := { row := instrEnvsUptoRow, standIns := [], harness := (true, "3e4d819fbb207f12b2728dbc96f9117b7bbe73e91ab6c6dac1b6368e1f154bbf"), looks := false }, kinds := [], alts := [], laidByText := true, laidKinds := [.listed, .data], laidTests := true, laidLooks := .later }
def InstrEnvsUptoCardSaid : Prop := Claim7.holds Tryz.pinned (.plain (OpenSpec.upto instrEnvsSpec)) instrEnvsUptoCard

/-- THE SECOND FORM's CARD OF 'bywashlaw05.InstrRises'. -/
def instrRisesUptoCard : Claim7 := { stood := { row := instrRisesUptoRow, standIns := [], harness := (true, "3e4d819fbb207f12b2728dbc96f9117b7bbe73e91ab6c6dac1b6368e1f154bbf"), looks := false }, kinds := [], alts := [], laidByText := true, laidKinds := [.listed, .data], laidTests := true, laidLooks := .later }
def InstrRisesUptoCardSaid : Prop := Claim7.holds Tryz.pinned (.plain (OpenSpec.upto instrRisesSpec)) instrRisesUptoCard
end Rows
end Go.Proofs.YtlcbceneacnaiaaGreatDoor
