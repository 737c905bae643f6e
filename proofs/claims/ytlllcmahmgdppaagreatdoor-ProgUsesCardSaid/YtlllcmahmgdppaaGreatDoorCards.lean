/-
  DERIVED. GIVEN WITH THE SEED: THE CARDS: each row of YtlllcmahmgdppaaGreatDoorRows.lean that lists a variable, with what it lists TIED to the program's text (the seventh form; the later family's looks); each row that meets fmt, with fmt's text TOLD by the authors' own Lean function (tested against real Go, not proved from fmt's source: count such statements apart). THE CARD IS WHAT COUNTS. Prove the row's statement (the work); the ties are given (YtlllcmahmgdppaaGreatDoorTie.lean); close each card by the builder's one call (the guide's Derived/Test/ToyasCard.lean, 'card_holds'). Laid BY PROGRAM, IN A SANDBOX (cutbox-door.mjs). By AI agents, Wed Nov 11 2026. No macro, syntax, notation, axiom, sorry.
-/
import Derived.Test.YtlllcmahmgdppaaGreatDoorRows
import GoSem.ClaimSeven
namespace Go.Proofs.YtlllcmahmgdppaaGreatDoor
namespace Rows

/-- THE TIED CARD OF 'bywashlaw06.ProgUses'. -/
def progUsesCard : Claim7 := { stood := { row := progUsesRow, standIns := [], harness := (true, "acd7cf762fbff1fc502d180259ae32e7625c3799958f10bfacbb020bd38ff0eb"), looks := true }, kinds := [], alts := [], laidByText := true, laidKinds := [.handle, .listed, .data], laidTests := true, laidLooks := .later }
def ProgUsesCardSaid : Prop := Claim7.holds Tryz.pinned (.plain (OpenSpec.ofChange progUsesSpec)) progUsesCard

/-- THE TIED CARD OF 'bywashlaw06.ProgIs'. -/
def progIsCard : Claim7 := { stood := { row := progIsRow, standIns := [], harness := (true, "acd7cf762fbff1fc502d180259ae32e7625c3799958f10bfacbb020bd38ff0eb"), looks := true }, kinds := [], alts := [], laidByText := true, laidKinds := [.handle, .listed, .data], laidTests := true, laidLooks := .later }
def ProgIsCardSaid : Prop := Claim7.holds Tryz.pinned (.plain (OpenSpec.ofChange progIsSpec)) progIsCard

/-- THE TIED CARD OF 'bywashlaw07.EditEdges'. -/
def editEdgesCard : Claim7 := { stood := { row := editEdgesRow, standIns := [], harness := (true, "acd7cf762fbff1fc502d180259ae32e7625c3799958f10bfacbb020bd38ff0eb"), looks := true }, kinds := [], alts := [], laidByText := true, laidKinds := [.handle, .listed, .data], laidTests := true, laidLooks := .later }
def EditEdgesCardSaid : Prop := Claim7.holds Tryz.pinned (.plain (OpenSpec.ofChange editEdgesSpec)) editEdgesCard

/-- THE TIED CARD OF 'bywashlaw07.EditUnread'. -/
def editUnreadCard : Claim7 := { stood := { row := editUnreadRow, standIns := [], harness := (true, "acd7cf762fbff1fc502d180259ae32e7625c3799958f10bfacbb020bd38ff0eb"), looks := true }, kinds := [], alts := [], laidByText := true, laidKinds := [.handle, .listed, .data], laidTests := true, laidLooks := .later }
def EditUnreadCardSaid : Prop := Claim7.holds Tryz.pinned (.plain (OpenSpec.ofChange editUnreadSpec)) editUnreadCard

/-- THE TIED CARD OF 'bywashlaw07.EditInsert'. -/
def editInsertCard : Claim7 := { stood := { row := editInsertRow, standIns := [], harness := (true, "acd7cf762fbff1fc502d180259ae32e7625c3799958f10bfacbb020bd38ff0eb"), looks := true }, kinds := [], alts := [], laidByText := true, laidKinds := [.handle, .listed, .data], laidTests := true, laidLooks := .later }
def EditInsertCardSaid : Prop := Claim7.holds Tryz.pinned (.plain (OpenSpec.ofChange editInsertSpec)) editInsertCard

/-- THE TIED CARD OF 'bywashlaw07.EditIs'. -/
def editIsCard : Claim7 := { stood := { row := editIsRow, standIns := [], harness := (true, "acd7cf762fbff1fc502d180259ae32e7625c3799958f10bfacbb020bd38ff0eb"), looks := true }, kinds := [], alts := [], laidByText := true, laidKinds := [.handle, .listed, .data], laidTests := true, laidLooks := .later }
def EditIsCardSaid : Prop := Claim7.holds Tryz.pinned (.plain (OpenSpec.ofChange editIsSpec)) editIsCard

/-- THE TIED CARD OF 'bywashlaw07.EditBad'. -/
def editBadCard : Claim7 := { stood := { row := editBadRow, standIns := [], harness := (true, "acd7cf762fbff1fc502d180259ae32e7625c3799958f10bfacbb020bd38ff0eb"), looks := true }, kinds := [], alts := [], laidByText := true, laidKinds := [.handle, .listed, .data], laidTests := true, laidLooks := .later }
def EditBadCardSaid : Prop := Claim7.holds Tryz.pinned (.plain (OpenSpec.ofChange editBadSpec)) editBadCard

/-- THE TIED CARD OF 'bywashlaw07.EditRoom'. -/
def editRoomCard : Claim7 := { stood := { row := editRoomRow, standIns := [], harness := (true, "acd7cf762fbff1fc502d180259ae32e7625c3799958f10bfacbb020bd38ff0eb"), looks := true }, kinds := [], alts := [], laidByText := true, laidKinds := [.handle, .listed, .data], laidTests := true, laidLooks := .later }
def EditRoomCardSaid : Prop := Claim7.holds Tryz.pinned (.plain (OpenSpec.ofChange editRoomSpec)) editRoomCard

/-- THE SECOND FORM's CARD OF 'bywashlaw06.ProgUses'. -/
def progUsesUptoCard : Claim7 := { stood := { row := progUsesUptoRow, standIns := [], harness := (true, "acd7cf762fbff1fc502d180259ae32e7625c3799958f10bfacbb020bd38ff0eb"), looks := true }, kinds := [], alts := [], laidByText := true, laidKinds := [.handle, .listed, .data], laidTests := true, laidLooks := .later }
def ProgUsesUptoCardSaid : Prop := Claim7.holds Tryz.pinned (.plain (OpenSpec.upto progUsesSpec)) progUsesUptoCard

/-- THE SECOND FORM's CARD OF 'bywashlaw06.ProgIs'. -/
def progIsUptoCard : Claim7 := { stood := { row := progIsUptoRow, standIns := [], harness := (true, "acd7cf762fbff1fc502d180259ae32e7625c3799958f10bfacbb020bd38ff0eb"), looks := true }, kinds := [], alts := [], laidByText := true, laidKinds := [.handle, .listed, .data], laidTests := true, laidLooks := .later }
def ProgIsUptoCardSaid : Prop := Claim7.holds Tryz.pinned (.plain (OpenSpec.upto progIsSpec)) progIsUptoCard

/-- THE SECOND FORM's CARD OF 'bywashlaw07.EditEdges'. -/
def editEdgesUptoCard : Claim7 := { stood := { row := editEdgesUptoRow, standIns := [], harness := (true, "acd7cf762fbff1fc502d180259ae32e7625c3799958f10bfacbb020bd38ff0eb"), looks := true }, kinds := [], alts := [], laidByText := true, laidKinds := [.handle, .listed, .data], laidTests := true, laidLooks := .later }
def EditEdgesUptoCardSaid : Prop := Claim7.holds Tryz.pinned (.plain (OpenSpec.upto editEdgesSpec)) editEdgesUptoCard

/-- THE SECOND FORM's CARD OF 'bywashlaw07.EditUnread'. -/
def editUnreadUptoCard : Claim7 := { stood := { row := editUnreadUptoRow, standIns := [], harness := (true, "acd7cf762fbff1fc502d180259ae32e7625c3799958f10bfacbb020bd38ff0eb"), looks := true }, kinds := [], alts := [], laidByText := true, laidKinds := [.handle, .listed, .data], laidTests := true, laidLooks := .later }
def EditUnreadUptoCardSaid : Prop := Claim7.holds Tryz.pinned (.plain (OpenSpec.upto editUnreadSpec)) editUnreadUptoCard

/-- THE SECOND FORM's CARD OF 'bywashlaw07.EditInsert'. -/
def editInsertUptoCard : Claim7 := { stood := { row := editInsertUptoRow, standIns := [], harness := (true, "acd7cf762fbff1fc502d180259ae32e7625c3799958f10bfacbb020bd38ff0eb"), looks := true }, kinds := [], alts := [], laidByText := true, laidKinds := [.handle, .listed, .data], laidTests := true, laidLooks := .later }
def EditInsertUptoCardSaid : Prop := Claim7.holds Tryz.pinned (.plain (OpenSpec.upto editInsertSpec)) editInsertUptoCard

/-- THE SECOND FORM's CARD OF 'bywashlaw07.EditIs'. -/
def editIsUptoCard : Claim7 := { stood := { row := editIsUptoRow, standIns := [], harness := (true, "acd7cf762fbff1fc502d180259ae32e7625c3799958f10bfacbb020bd38ff0eb"), looks := true }, kinds := [], alts := [], laidByText := true, laidKinds := [.handle, .listed, .data], laidTests := true, laidLooks := .later }
def EditIsUptoCardSaid : Prop := Claim7.holds Tryz.pinned (.plain (OpenSpec.upto editIsSpec)) editIsUptoCard

/-- THE SECOND FORM's CARD OF 'bywashlaw07.EditBad'. -/
def editBadUptoCard : Claim7 := { stood := { row := editBadUptoRow, standIns := [], harness := (true, "acd7cf762fbff1fc502d180259ae32e7625c3799958f10bfacbb020bd38ff0eb"), looks := true }, kinds := [], alts := [], laidByText := true, laidKinds := [.handle, .listed, .data], laidTests := true, laidLooks := .later }
def EditBadUptoCardSaid : Prop := Claim7.holds Tryz.pinned (.plain (OpenSpec.upto editBadSpec)) editBadUptoCard

/-- THE SECOND FORM's CARD OF 'bywashlaw07.EditRoom'. -/
def editRoomUptoCard : Claim7 := { stood := { row := editRoomUptoRow, standIns := [], harness := (true, "acd7cf762fbff1fc502d180259ae32e7625c3799958f10bfacbb020bd38ff0eb"), looks := true }, kinds := [], alts := [], laidByText := true, laidKinds := [.handle, .listed, .data], laidTests := true, laidLooks := .later }
def EditRoomUptoCardSaid : Prop := Claim7.holds Tryz.pinned (.plain (OpenSpec.upto editRoomSpec)) editRoomUptoCard
end Rows
end Go.Proofs.YtlllcmahmgdppaaGreatDoor
