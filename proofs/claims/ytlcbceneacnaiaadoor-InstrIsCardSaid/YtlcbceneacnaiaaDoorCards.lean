/-
  DERIVED. GIVEN WITH THE SEED: THE CARDS: each row of YtlcbceneacnaiaaDoorRows.lean that lists a variable, with what it lists TIED to the program's text (the seventh form; the later family's looks); each row that meets fmt, with fmt's text TOLD by the authors' own Lean function (tested against real Go, not proved from fmt's source: count such statements apart). THE CARD IS WHAT COUNTS. Prove the row's statement (the work); the ties are given (YtlcbceneacnaiaaDoorTie.lean); close each card by the builder's one call (the guide's Derived/Test/ToyasCard.lean, 'card_holds'). Laid BY PROGRAM, IN A SANDBOX (cutbox-door.mjs). By AI agents, Wed Nov 11 2026. No macro, syntax, notation, axiom, sorry.
-/
import Derived.Test.YtlcbceneacnaiaaDoorRows
import GoSem.ClaimSeven
namespace Go.Proofs.YtlcbceneacnaiaaDoor
namespace Rows

/-- THE TIED CARD OF 'bywashlaw05.InstrLive'. -/
def instrLiveCard : Claim7 := { stood := { row := instrLiveRow, standIns := [], harness := (true, "b6c13547926c90e60243c1db951e30b3e8de147c4e0cd7bac45c759a31589619"), looks := false }, kinds := [], alts := [], laidByText := true, laidKinds := [.listed, .data], laidTests := true, laidLooks := .later }
def InstrLiveCardSaid : Prop := Claim7.holds Tryd.pinned (.plain (OpenSpec.ofChange instrLiveSpec)) instrLiveCard

/-- THE TIED CARD OF 'bywashlaw05.InstrReach'. -/
def instrReachCard : Claim7 := { stood := { row := instrReachRow, standIns := [], harness := (true, "b6c13547926c90e60243c1db951e30b3e8de147c4e0cd7bac45c759a31589619"), looks := false }, kinds := [], alts := [], laidByText := true, laidKinds := [.listed, .data], laidTests := true, laidLooks := .later }
def InstrReachCardSaid : Prop := Claim7.holds Tryd.pinned (.plain (OpenSpec.ofChange instrReachSpec)) instrReachCard

/-- THE TIED CARD OF 'bywashlaw05.InstrIs'. -/
def instrIsCard : Claim7 := { stood := { row := instrIsRow, standIns := [], harness := (true, "b6c13547926c90e60243c1db951e30b3e8de147c4e0cd7bac45c759a31589619"), looks := false }, kinds := [], alts := [], laidByText := true, laidKinds := [.listed, .data], laidTests := true, laidLooks := .later }
def InstrIsCardSaid : Prop := Claim7.holds Tryd.pinned (.plain (OpenSpec.ofChange instrIsSpec)) instrIsCard

/-- THE TIED CARD OF 'bywashlaw05.InstrTells'. -/
def instrTellsCard : Claim7 := { stood := { row := instrTellsRow, standIns := [], harness := (true, "b6c13547926c90e60243c1db951e30b3e8de147c4e0cd7bac45c759a31589619"), looks := false }, kinds := [], alts := [], laidByText := true, laidKinds := [.listed, .data], laidTests := true, laidLooks := .later }
def InstrTellsCardSaid : Prop := Claim7.holds Tryd.pinned (.plain (OpenSpec.ofChange instrTellsSpec)) instrTellsCard

/-- THE SECOND FORM's CARD OF 'bywashlaw05.InstrLive'. -/
def instrLiveUptoCard : Claim7 := { stood := { row := instrLiveUptoRow, standIns := [], harness := (true, "b6c13547926c90e60243c1db951e30b3e8de147c4e0cd7bac45c759a31589619"), looks := false }, kinds := [], alts := [], laidByText := true, laidKinds := [.listed, .data], laidTests := true, laidLooks := .later }
def InstrLiveUptoCardSaid : Prop := Claim7.holds Tryd.pinned (.plain (OpenSpec.upto instrLiveSpec)) instrLiveUptoCard

/-- THE SECOND FORM's CARD OF 'bywashlaw05.InstrReach'. -/
def instrReachUptoCard : Claim7 := { stood := { row := instrReachUptoRow, standIns := [], harness := (true, "b6c13547926c90e60243c1db951e30b3e8de147c4e0cd7bac45c759a31589619"), looks := false }, kinds := [], alts := [], laidByText := true, laidKinds := [.listed, .data], laidTests := true, laidLooks := .later }
def InstrReachUptoCardSaid : Prop := Claim7.holds Tryd.pinned (.plain (OpenSpec.upto instrReachSpec)) instrReachUptoCard

/-- THE SECOND FORM's CARD OF 'bywashlaw05.InstrIs'. -/
def instrIsUptoCard : Claim7 := { stood := { row := instrIsUptoRow, standIns := [], harness := (true, "b6c13547926c90e60243c1db951e30b3e8de147c4e0cd7bac45c759a31589619"), looks := false }, kinds := [], alts := [], laidByText := true, laidKinds := [.listed, .data], laidTests := true, laidLooks := .later }
def InstrIsUptoCardSaid : Prop := Claim7.holds Tryd.pinned (.plain (OpenSpec.upto instrIsSpec)) instrIsUptoCard

/-- THE SECOND FORM's CARD OF 'bywashlaw05.InstrTells'. -/
def instrTellsUptoCard : Claim7 := { stood := { row := instrTellsUptoRow, standIns := [], harness := (true, "b6c13547926c90e60243c1db951e30b3e8de147c4e0cd7bac45c759a31589619"), looks := false }, kinds := [], alts := [], laidByText := true, laidKinds := [.listed, .data], laidTests := true, laidLooks := .later }
def InstrTellsUptoCardSaid : Prop := Claim7.holds Tryd.pinned (.plain (OpenSpec.upto instrTellsSpec)) instrTellsUptoCard
end Rows
end Go.Proofs.YtlcbceneacnaiaaDoor
