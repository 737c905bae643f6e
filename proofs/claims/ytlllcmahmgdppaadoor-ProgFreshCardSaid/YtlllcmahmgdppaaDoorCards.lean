/-
  DERIVED. GIVEN WITH THE SEED: THE CARDS: each row of YtlllcmahmgdppaaDoorRows.lean that lists a variable, with what it lists TIED to the program's text (the seventh form; the later family's looks); each row that meets fmt, with fmt's text TOLD by the authors' own Lean function (tested against real Go, not proved from fmt's source: count such statements apart). THE CARD IS WHAT COUNTS. Prove the row's statement (the work); the ties are given (YtlllcmahmgdppaaDoorTie.lean); close each card by the builder's one call (the guide's Derived/Test/ToyasCard.lean, 'card_holds'). Laid BY PROGRAM, IN A SANDBOX (cutbox-door.mjs). By AI agents, Wed Nov 11 2026. No macro, syntax, notation, axiom, sorry.
-/
import Derived.Test.YtlllcmahmgdppaaDoorRows
import GoSem.ClaimSeven
namespace Go.Proofs.YtlllcmahmgdppaaDoor
namespace Rows

/-- THE TIED CARD OF 'bywashlaw06.ProgFresh'. -/
def progFreshCard : Claim7 := { stood := { row := progFreshRow, standIns := [], harness := (true, "0d373f0136f42a0c97a8209852f2fcf022a1b055e13c4acfec887b1942d4645a"), looks := true }, kinds := [], alts := [], laidByText := true, laidKinds := [.handle, .listed, .data], laidTests := true, laidLooks := .later }
def ProgFreshCardSaid : Prop := Claim7.holds Tryd.pinned (.plain (OpenSpec.ofChange progFreshSpec)) progFreshCard

/-- THE TIED CARD OF 'bywashlaw06.ProgEdges'. -/
def progEdgesCard : Claim7 := { stood := { row := progEdgesRow, standIns := [], harness := (true, "0d373f0136f42a0c97a8209852f2fcf022a1b055e13c4acfec887b1942d4645a"), looks := true }, kinds := [], alts := [], laidByText := true, laidKinds := [.handle, .listed, .data], laidTests := true, laidLooks := .later }
def ProgEdgesCardSaid : Prop := Claim7.holds Tryd.pinned (.plain (OpenSpec.ofChange progEdgesSpec)) progEdgesCard

/-- THE TIED CARD OF 'bywashlaw06.ProgParts'. -/
def progPartsCard : Claim7 := { stood := { row := progPartsRow, standIns := [], harness := (true, "0d373f0136f42a0c97a8209852f2fcf022a1b055e13c4acfec887b1942d4645a"), looks := true }, kinds := [], alts := [], laidByText := true, laidKinds := [.handle, .listed, .data], laidTests := true, laidLooks := .later }
def ProgPartsCardSaid : Prop := Claim7.holds Tryd.pinned (.plain (OpenSpec.ofChange progPartsSpec)) progPartsCard

/-- THE SECOND FORM's CARD OF 'bywashlaw06.ProgFresh'. -/
def progFreshUptoCard : Claim7 := { stood := { row := progFreshUptoRow, standIns := [], harness := (true, "0d373f0136f42a0c97a8209852f2fcf022a1b055e13c4acfec887b1942d4645a"), looks := true }, kinds := [], alts := [], laidByText := true, laidKinds := [.handle, .listed, .data], laidTests := true, laidLooks := .later }
def ProgFreshUptoCardSaid : Prop := Claim7.holds Tryd.pinned (.plain (OpenSpec.upto progFreshSpec)) progFreshUptoCard

/-- THE SECOND FORM's CARD OF 'bywashlaw06.ProgEdges'. -/
def progEdgesUptoCard : Claim7 := { stood := { row := progEdgesUptoRow, standIns := [], harness := (true, "0d373f0136f42a0c97a8209852f2fcf022a1b055e13c4acfec887b1942d4645a"), looks := true }, kinds := [], alts := [], laidByText := true, laidKinds := [.handle, .listed, .data], laidTests := true, laidLooks := .later }
def ProgEdgesUptoCardSaid : Prop := Claim7.holds Tryd.pinned (.plain (OpenSpec.upto progEdgesSpec)) progEdgesUptoCard

/-- THE SECOND FORM's CARD OF 'bywashlaw06.ProgParts'. -/
def progPartsUptoCard : Claim7 := { stood := { row := progPartsUptoRow, standIns := [], harness := (true, "0d373f0136f42a0c97a8209852f2fcf022a1b055e13c4acfec887b1942d4645a"), looks := true }, kinds := [], alts := [], laidByText := true, laidKinds := [.handle, .listed, .data], laidTests := true, laidLooks := .later }
def ProgPartsUptoCardSaid : Prop := Claim7.holds Tryd.pinned (.plain (OpenSpec.upto progPartsSpec)) progPartsUptoCard
end Rows
end Go.Proofs.YtlllcmahmgdppaaDoor
