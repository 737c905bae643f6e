/-
  DERIVED. GIVEN WITH THE SEED: THE CARDS: each row of YtheihgmjjpjlmaaDoorRows.lean that lists a variable, with what it lists TIED to the program's text (the seventh form; the later family's looks); each row that meets fmt, with fmt's text TOLD by the authors' own Lean function (tested against real Go, not proved from fmt's source: count such statements apart). THE CARD IS WHAT COUNTS. Prove the row's statement (the work); the ties are given (YtheihgmjjpjlmaaDoorTie.lean); close each card by the builder's one call (the guide's Derived/Test/ToyasCard.lean, 'card_holds'). Laid BY PROGRAM, IN A SANDBOX (cutbox-door.mjs). By AI agents, Wed Nov 11 2026. No macro, syntax, notation, axiom, sorry.
-/
import Derived.Test.YtheihgmjjpjlmaaDoorRows
import GoSem.ClaimSeven
namespace Go.Proofs.YtheihgmjjpjlmaaDoor
namespace Rows

/-- THE TIED CARD OF 'bywashlaw01.BitsList'. -/
def bitsListCard : Claim7 := { stood := { row := bitsListRow, standIns := [], harness := (true, "9a69f4a78b6fd9b75b6d5f234dcbf6690e3778742d95933104021444cfee6639"), looks := false }, kinds := [], alts := [], laidByText := true, laidKinds := [.data], laidTests := true, laidLooks := .later }
def BitsListCardSaid : Prop := Claim7.holds Tryd.pinned (.plain (OpenSpec.ofChange bitsListSpec)) bitsListCard

/-- THE TIED CARD OF 'bywashlaw01.BitsAre'. -/
def bitsAreCard : Claim7 := { stood := { row := bitsAreRow, standIns := [], harness := (true, "9a69f4a78b6fd9b75b6d5f234dcbf6690e3778742d95933104021444cfee6639"), looks := false }, kinds := [], alts := [], laidByText := true, laidKinds := [.data], laidTests := true, laidLooks := .later }
def BitsAreCardSaid : Prop := Claim7.holds Tryd.pinned (.plain (OpenSpec.ofChange bitsAreSpec)) bitsAreCard

/-- THE SECOND FORM's CARD OF 'bywashlaw01.BitsList'. -/
def bitsListUptoCard : Claim7 := { stood := { row := bitsListUptoRow, standIns := [], harness := (true, "9a69f4a78b6fd9b75b6d5f234dcbf6690e3778742d95933104021444cfee6639"), looks := false }, kinds := [], alts := [], laidByText := true, laidKinds := [.data], laidTests := true, laidLooks := .later }
def BitsListUptoCardSaid : Prop := Claim7.holds Tryd.pinned (.plain (OpenSpec.upto bitsListSpec)) bitsListUptoCard

/-- THE SECOND FORM's CARD OF 'bywashlaw01.BitsAre'. -/
def bitsAreUptoCard : Claim7 := { stood := { row := bitsAreUptoRow, standIns := [], harness := (true, "9a69f4a78b6fd9b75b6d5f234dcbf6690e3778742d95933104021444cfee6639"), looks := false }, kinds := [], alts := [], laidByText := true, laidKinds := [.data], laidTests := true, laidLooks := .later }
def BitsAreUptoCardSaid : Prop := Claim7.holds Tryd.pinned (.plain (OpenSpec.upto bitsAreSpec)) bitsAreUptoCard
end Rows
end Go.Proofs.YtheihgmjjpjlmaaDoor
