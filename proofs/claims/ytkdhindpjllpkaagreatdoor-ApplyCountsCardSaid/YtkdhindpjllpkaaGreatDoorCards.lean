/-
  DERIVED. GIVEN WITH THE SEED: THE CARDS: each row of YtkdhindpjllpkaaGreatDoorRows.lean that lists a variable, with what it lists TIED to the program's text (the seventh form; the later family's looks); each row that meets fmt, with fmt's text TOLD by the authors' own Lean function (tested against real Go, not proved from fmt's source: count such statements apart). THE CARD IS WHAT COUNTS. Prove the row's statement (the work); the ties are given (YtkdhindpjllpkaaGreatDoorTie.lean); close each card by the builder's one call (the guide's Derived/Test/ToyasCard.lean, 'card_holds'). Laid BY PROGRAM, IN A SANDBOX (cutbox-door.mjs). By AI agents, Wed Nov 11 2026. No macro, syntax, notation, axiom, sorry.
-/
import Derived.Test.YtkdhindpjllpkaaGreatDoorRows
import GoSem.ClaimSeven
namespace Go.Proofs.YtkdhindpjllpkaaGreatDoor
namespace Rows

/-- THE TIED CARD OF 'bywashlaw09.WireShort'. -/
def wireShortCard : Claim7 := { stood := { row := wireShortRow, standIns := [], harness := (true, "85ddab5cf7a6ff076f4b58d31f7380144526297ddb1c7c73f552cae6a89e2155"), looks := true }, kinds := [], alts := [], laidByText := true, laidKinds := [.handle, .listed, .data], laidTests := true, laidLooks := .later }
def WireShortCardSaid : Prop := Claim7.holds Tryz.pinned (.plain (OpenSpec.ofChange wireShortSpec)) wireShortCard

/-- THE TIED CARD OF 'bywashlaw09.WireGood'. -/
def wireGoodCard : Claim7 := { stood := { row := wireGoodRow, standIns := [], harness := (true, "85ddab5cf7a6ff076f4b58d31f7380144526297ddb1c7c73f552cae6a89e2155"), looks := true }, kinds := [], alts := [], laidByText := true, laidKinds := [.handle, .listed, .data], laidTests := true, laidLooks := .later }
def WireGoodCardSaid : Prop := Claim7.holds Tryz.pinned (.plain (OpenSpec.ofChange wireGoodSpec)) wireGoodCard

/-- THE TIED CARD OF 'bywashlaw09.WireRows'. -/
def wireRowsCard : Claim7 := { stood := { row := wireRowsRow, standIns := [], harness := (true, "85ddab5cf7a6ff076f4b58d31f7380144526297ddb1c7c73f552cae6a89e2155"), looks := true }, kinds := [], alts := [], laidByText := true, laidKinds := [.handle, .listed, .data], laidTests := true, laidLooks := .later }
def WireRowsCardSaid : Prop := Claim7.holds Tryz.pinned (.plain (OpenSpec.ofChange wireRowsSpec)) wireRowsCard

/-- THE TIED CARD OF 'bywashlaw09.WireIs'. -/
def wireIsCard : Claim7 := { stood := { row := wireIsRow, standIns := [], harness := (true, "85ddab5cf7a6ff076f4b58d31f7380144526297ddb1c7c73f552cae6a89e2155"), looks := true }, kinds := [], alts := [], laidByText := true, laidKinds := [.handle, .listed, .data], laidTests := true, laidLooks := .later }
def WireIsCardSaid : Prop := Claim7.holds Tryz.pinned (.plain (OpenSpec.ofChange wireIsSpec)) wireIsCard

/-- THE TIED CARD OF 'bywashlaw09.WireBack'. -/
def wireBackCard : Claim7 := { stood := { row := wireBackRow, standIns := [], harness := (true, "85ddab5cf7a6ff076f4b58d31f7380144526297ddb1c7c73f552cae6a89e2155"), looks := true }, kinds := [], alts := [], laidByText := true, laidKinds := [.handle, .listed, .data], laidTests := true, laidLooks := .later }
def WireBackCardSaid : Prop := Claim7.holds Tryz.pinned (.plain (OpenSpec.ofChange wireBackSpec)) wireBackCard

/-- THE TIED CARD OF 'bywashlaw08.ApplyAll'. -/
def applyAllCard : Claim7 := { stood := { row := applyAllRow, standIns := [], harness := (true, "85ddab5cf7a6ff076f4b58d31f7380144526297ddb1c7c73f552cae6a89e2155"), looks := true }, kinds := [], alts := [], laidByText := true, laidKinds := [.handle, .listed, .data], laidTests := true, laidLooks := .later }
def ApplyAllCardSaid : Prop := Claim7.holds Tryz.pinned (.plain (OpenSpec.ofChange applyAllSpec)) applyAllCard

/-- THE TIED CARD OF 'bywashlaw08.ApplyCounts'. -/
def applyCountsCard : Claim7 := { stood := { row := applyCountsRow, standIns := [], harness := (true, "85ddab5cf7a6ff076f4b58d31f7380144526297ddb1c7c73f552cae6a89e2155"), looks := true }, kinds := [], alts := [], laidByText := true, laidKinds := [.handle, .listed, .data], laidTests := true, laidLooks := .later }
def ApplyCountsCardSaid : Prop := Claim7.holds Tryz.pinned (.plain (OpenSpec.ofChange applyCountsSpec)) applyCountsCard

/-- THE TIED CARD OF 'bywashlaw08.ApplyEdges'. -/
def applyEdgesCard : Claim7 := { stood := { row := applyEdgesRow, standIns := [], harness := (true, "85ddab5cf7a6ff076f4b58d31f7380144526297ddb1c7c73f552cae6a89e2155"), looks := true }, kinds := [], alts := [], laidByText := true, laidKinds := [.handle, .listed, .data], laidTests := true, laidLooks := .later }
def ApplyEdgesCardSaid : Prop := Claim7.holds Tryz.pinned (.plain (OpenSpec.ofChange applyEdgesSpec)) applyEdgesCard

/-- THE TIED CARD OF 'bywashlaw08.ApplyCode'. -/
def applyCodeCard : Claim7 := { stood := { row := applyCodeRow, standIns := [], harness := (true, "85ddab5cf7a6ff076f4b58d31f7380144526297ddb1c7c73f552cae6a89e2155"), looks := true }, kinds := [], alts := [], laidByText := true, laidKinds := [.handle, .listed, .data], laidTests := true, laidLooks := .later }
def ApplyCodeCardSaid : Prop := Claim7.holds Tryz.pinned (.plain (OpenSpec.ofChange applyCodeSpec)) applyCodeCard

/-- THE TIED CARD OF 'bywashlaw08.ApplyOne'. -/
def applyOneCard : Claim7 := { stood := { row := applyOneRow, standIns := [], harness := (true, "85ddab5cf7a6ff076f4b58d31f7380144526297ddb1c7c73f552cae6a89e2155"), looks := true }, kinds := [], alts := [], laidByText := true, laidKinds := [.handle, .listed, .data], laidTests := true, laidLooks := .later }
def ApplyOneCardSaid : Prop := Claim7.holds Tryz.pinned (.plain (OpenSpec.ofChange applyOneSpec)) applyOneCard

/-- THE TIED CARD OF 'bywashlaw08.ApplyIs'. -/
def applyIsCard : Claim7 := { stood := { row := applyIsRow, standIns := [], harness := (true, "85ddab5cf7a6ff076f4b58d31f7380144526297ddb1c7c73f552cae6a89e2155"), looks := true }, kinds := [], alts := [], laidByText := true, laidKinds := [.handle, .listed, .data], laidTests := true, laidLooks := .later }
def ApplyIsCardSaid : Prop := Claim7.holds Tryz.pinned (.plain (OpenSpec.ofChange applyIsSpec)) applyIsCard

/-- THE TIED CARD OF 'bywashlaw08.ApplyUndone'. -/
def applyUndoneCard : Claim7 := { stood := { row := applyUndoneRow, standIns := [], harness := (true, "85ddab5cf7a6ff076f4b58d31f7380144526297ddb1c7c73f552cae6a89e2155"), looks := true }, kinds := [], alts := [], laidByText := true, laidKinds := [.handle, .listed, .data], laidTests := true, laidLooks := .later }
def ApplyUndoneCardSaid : Prop := Claim7.holds Tryz.pinned (.plain (OpenSpec.ofChange applyUndoneSpec)) applyUndoneCard

/-- THE SECOND FORM's CARD OF 'bywashlaw09.WireShort'. -/
def wireShortUptoCard : Claim7 := { stood := { row := wireShortUptoRow, standIns := [], harness := (true, "85ddab5cf7a6ff076f4b58d31f7380144526297ddb1c7c73f552cae6a89e2155"), looks := true }, kinds := [], alts := [], laidByText := true, laidKinds := [.handle, .listed, .data], laidTests := true, laidLooks := .later }
def WireShortUptoCardSaid : Prop := Claim7.holds Tryz.pinned (.plain (OpenSpec.upto wireShortSpec)) wireShortUptoCard

/-- THE SECOND FORM's CARD OF 'bywashlaw09.WireGood'. -/
def wireGoodUptoCard : Claim7 := { stood := { row := wireGoodUptoRow, standIns := [], harness := (true, "85ddab5cf7a6ff076f4b58d31f7380144526297ddb1c7c73f552cae6a89e2155"), looks := true }, kinds := [], alts := [], laidByText := true, laidKinds := [.handle, .listed, .data], laidTests := true, laidLooks := .later }
def WireGoodUptoCardSaid : Prop := Claim7.holds Tryz.pinned (.plain (OpenSpec.upto wireGoodSpec)) wireGoodUptoCard

/-- THE SECOND FORM's CARD OF 'bywashlaw09.WireRows'. -/
def wireRowsUptoCard : Claim7 := { stood := { row := wireRowsUptoRow, standIns := [], harness := (true, "85ddab5cf7a6ff076f4b58d31f7380144526297ddb1c7c73f552cae6a89e2155"), looks := true }, kinds := [], alts := [], laidByText := true, laidKinds := [.handle, .listed, .data], laidTests := true, laidLooks := .later }
def WireRowsUptoCardSaid : Prop := Claim7.holds Tryz.pinned (.plain (OpenSpec.upto wireRowsSpec)) wireRowsUptoCard

/-- THE SECOND FORM's CARD OF 'bywashlaw09.WireIs'. -/
def wireIsUptoCard : Claim7 := { stood := { row := wireIsUptoRow, standIns := [], harness := (true, "85ddab5cf7a6ff076f4b58d31f7380144526297ddb1c7c73f552cae6a89e2155"), looks := true }, kinds := [], alts := [], laidByText := true, laidKinds := [.handle, .listed, .data], laidTests := true, laidLooks := .later }
def WireIsUptoCardSaid : Prop := Claim7.holds Tryz.pinned (.plain (OpenSpec.upto wireIsSpec)) wireIsUptoCard

/-- THE SECOND FORM's CARD OF 'bywashlaw09.WireBack'. -/
def wireBackUptoCard : Claim7 := { stood := { row := wireBackUptoRow, standIns := [], harness := (true, "85ddab5cf7a6ff076f4b58d31f7380144526297ddb1c7c73f552cae6a89e2155"), looks := true }, kinds := [], alts := [], laidByText := true, laidKinds := [.handle, .listed, .data], laidTests := true, laidLooks := .later }
def WireBackUptoCardSaid : Prop := Claim7.holds Tryz.pinned (.plain (OpenSpec.upto wireBackSpec)) wireBackUptoCard

/-- THE SECOND FORM's CARD OF 'bywashlaw08.ApplyAll'. -/
def applyAllUptoCard : Claim7 := { stood := { row := applyAllUptoRow, standIns := [], harness := (true, "85ddab5cf7a6ff076f4b58d31f7380144526297ddb1c7c73f552cae6a89e2155"), looks := true }, kinds := [], alts := [], laidByText := true, laidKinds := [.handle, .listed, .data], laidTests := true, laidLooks := .later }
def ApplyAllUptoCardSaid : Prop := Claim7.holds Tryz.pinned (.plain (OpenSpec.upto applyAllSpec)) applyAllUptoCard

/-- THE SECOND FORM's CARD OF 'bywashlaw08.ApplyCounts'. -/
def applyCountsUptoCard : Claim7 := { stood := { row := applyCountsUptoRow, standIns := [], harness := (true, "85ddab5cf7a6ff076f4b58d31f7380144526297ddb1c7c73f552cae6a89e2155"), looks := true }, kinds := [], alts := [], laidByText := true, laidKinds := [.handle, .listed, .data], laidTests := true, laidLooks := .later }
def ApplyCountsUptoCardSaid : Prop := Claim7.holds Tryz.pinned (.plain (OpenSpec.upto applyCountsSpec)) applyCountsUptoCard

/-- THE SECOND FORM's CARD OF 'bywashlaw08.ApplyEdges'. -/
def applyEdgesUptoCard : Claim7 := { stood := { row := applyEdgesUptoRow, standIns := [], harness := (true, "85ddab5cf7a6ff076f4b58d31f7380144526297ddb1c7c73f552cae6a89e2155"), looks := true }, kinds := [], alts := [], laidByText := true, laidKinds := [.handle, .listed, .data], laidTests := true, laidLooks := .later }
def ApplyEdgesUptoCardSaid : Prop := Claim7.holds Tryz.pinned (.plain (OpenSpec.upto applyEdgesSpec)) applyEdgesUptoCard

/-- THE SECOND FORM's CARD OF 'bywashlaw08.ApplyCode'. -/
def applyCodeUptoCard : Claim7 := { stood := { row := applyCodeUptoRow, standIns := [], harness := (true, "85ddab5cf7a6ff076f4b58d31f7380144526297ddb1c7c73f552cae6a89e2155"), looks := true }, kinds := [], alts := [], laidByText := true, laidKinds := [.handle, .listed, .data], laidTests := true, laidLooks := .later }
def ApplyCodeUptoCardSaid : Prop := Claim7.holds Tryz.pinned (.plain (OpenSpec.upto applyCodeSpec)) applyCodeUptoCard

/-- THE SECOND FORM's CARD OF 'bywashlaw08.ApplyOne'. -/
def applyOneUptoCard : Claim7 := { stood := { row := applyOneUptoRow, standIns := [], harness := (true, "85ddab5cf7a6ff076f4b58d31f7380144526297ddb1c7c73f552cae6a89e2155"), looks := true }, kinds := [], alts := [], laidByText := true, laidKinds := [.handle, .listed, .data], laidTests := true, laidLooks := .later }
def ApplyOneUptoCardSaid : Prop := Claim7.holds Tryz.pinned (.plain (OpenSpec.upto applyOneSpec)) applyOneUptoCard

/-- THE SECOND FORM's CARD OF 'bywashlaw08.ApplyIs'. -/
def applyIsUptoCard : Claim7 := { stood := { row := applyIsUptoRow, standIns := [], harness := (true, "85ddab5cf7a6ff076f4b58d31f7380144526297ddb1c7c73f552cae6a89e2155"), looks := true }, kinds := [], alts := [], laidByText := true, laidKinds := [.handle, .listed, .data], laidTests := true, laidLooks := .later }
def ApplyIsUptoCardSaid : Prop := Claim7.holds Tryz.pinned (.plain (OpenSpec.upto applyIsSpec)) applyIsUptoCard

/-- THE SECOND FORM's CARD OF 'bywashlaw08.ApplyUndone'. -/
def applyUndoneUptoCard : Claim7 := { stood := { row := applyUndoneUptoRow, standIns := [], harness := (true, "85ddab5cf7a6ff076f4b58d31f7380144526297ddb1c7c73f552cae6a89e2155"), looks := true }, kinds := [], alts := [], laidByText := true, laidKinds := [.handle, .listed, .data], laidTests := true, laidLooks := .later }
def ApplyUndoneUptoCardSaid : Prop := Claim7.holds Tryz.pinned (.plain (OpenSpec.upto applyUndoneSpec)) applyUndoneUptoCard
end Rows
end Go.Proofs.YtkdhindpjllpkaaGreatDoor
