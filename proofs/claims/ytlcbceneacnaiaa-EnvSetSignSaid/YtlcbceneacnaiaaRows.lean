/-
  No cell of these rows narrows 'for every input' (looked for: loops, veiled, ifaces, maps, wideKeys, modest, calm, conditions, laid).
  DERIVED. THE GIVEN ROWS OF THIS SEAT. 6 by the template 'for every input the law returns true; each argument reads behind the call as it read before'; 0 by the template 'total and deterministic' (their statements: YtlcbceneacnaiaaTotals.lean).
  GIVEN WITH THE SEED: the statements are not yours to turn. If you find one false, say at which input.
  Laid BY PROGRAM, IN A SANDBOX (cutbox-rows.mjs): the forced cells as the released guide's own fill.sh prints them over the translation 87304f1bbb795792… (all of the seat's roots in one cut). By AI agents, Wed Nov 11 2026. No macro, syntax, notation, axiom, sorry.
-/
import Derived.Test.YtlcbceneacnaiaaChecked
import GoSem.Claim
import GoSem.ClaimJoined
import GoSem.ClaimMapViews
import Derived.JoinedTies
import Derived.KernelRfl
namespace Go.Proofs.Ytlcbceneacnaiaa
/- THE CELL 'sum', in the pinned program and in every row, IS THE sha256 OF THE DUMP (.gsa) THAT YtlcbceneacnaiaaProg.lean LOADS. Nothing in Lean hashes anything: it is a label: what it is worth is what the hold of that sum in a sandbox is worth. -/
noncomputable def Try.pinned : Pinned := { name := "ytlcbceneacnaiaa", sum := "87304f1bbb7957922a25a1f755a9ed56798bec4af4a98da6a1678723c2484431", checked := Try.checked }
namespace Rows
def none {H : Type} : Left H := { results := [], args := [] }

/-- 'bywashlaw04.EnvLattice': WHATEVER THE INPUT: true; the input reads as it did. -/
def envLatticeSpec : ChangeSpec := { name := "envLattice", fn := fun _ => fun
  | [d1, d2, d3] => { results := [.lit (.bool true)], args := [d1, d2, d3] }
  | _ => none }
def envLatticeRow : OpenClaim := { program := "ytlcbceneacnaiaa", sum := "87304f1bbb7957922a25a1f755a9ed56798bec4af4a98da6a1678723c2484431", func := "bywash/bywashlaw04.EnvLattice", spec := "envLattice", unfollowed := true, recurses := true, apart := false }
def EnvLatticeSaid : Prop := envLatticeRow.holds Try.pinned (OpenSpec.ofChange envLatticeSpec)

/-- ITS FALSE NEIGHBOUR: 'it returns false'. Refute it at one input. -/
def envLatticeWrong : ChangeSpec := { name := "envLattice", fn := fun _ => fun
  | [d1, d2, d3] => { results := [.lit (.bool false)], args := [d1, d2, d3] }
  | _ => none }
def EnvLatticeWrongFalsely : Prop := envLatticeRow.holds Try.pinned (OpenSpec.ofChange envLatticeWrong)

/-- 'bywashlaw04.EnvSets': WHATEVER THE INPUT: true; the input reads as it did. -/
def envSetsSpec : ChangeSpec := { name := "envSets", fn := fun _ => fun
  | [d1, d2, d3, d4] => { results := [.lit (.bool true)], args := [d1, d2, d3, d4] }
  | _ => none }
def envSetsRow : OpenClaim := { program := "ytlcbceneacnaiaa", sum := "87304f1bbb7957922a25a1f755a9ed56798bec4af4a98da6a1678723c2484431", func := "bywash/bywashlaw04.EnvSets", spec := "envSets", unfollowed := true, recurses := true, apart := false }
def EnvSetsSaid : Prop := envSetsRow.holds Try.pinned (OpenSpec.ofChange envSetsSpec)

/-- ITS FALSE NEIGHBOUR: 'it returns false'. Refute it at one input. -/
def envSetsWrong : ChangeSpec := { name := "envSets", fn := fun _ => fun
  | [d1, d2, d3, d4] => { results := [.lit (.bool false)], args := [d1, d2, d3, d4] }
  | _ => none }
def EnvSetsWrongFalsely : Prop := envSetsRow.holds Try.pinned (OpenSpec.ofChange envSetsWrong)

/-- 'bywashlaw04.EnvAbove': WHATEVER THE INPUT: true; the input reads as it did. -/
def envAboveSpec : ChangeSpec := { name := "envAbove", fn := fun _ => fun
  | [d1, d2, d3] => { results := [.lit (.bool true)], args := [d1, d2, d3] }
  | _ => none }
def envAboveRow : OpenClaim := { program := "ytlcbceneacnaiaa", sum := "87304f1bbb7957922a25a1f755a9ed56798bec4af4a98da6a1678723c2484431", func := "bywash/bywashlaw04.EnvAbove", spec := "envAbove", unfollowed := true, recurses := true, apart := false }
def EnvAboveSaid : Prop := envAboveRow.holds Try.pinned (OpenSpec.ofChange envAboveSpec)

/-- ITS FALSE NEIGHBOUR: 'it returns false'. Refute it at one input. -/
def envAboveWrong : ChangeSpec := { name := "envAbove", fn := fun _ => fun
  | [d1, d2, d3] => { results := [.lit (.bool false)], args := [d1, d2, d3] }
  | _ => none }
def EnvAboveWrongFalsely : Prop := envAboveRow.holds Try.pinned (OpenSpec.ofChange envAboveWrong)

/-- 'bywashlaw04.EnvFlat': WHATEVER THE INPUT: true; the input reads as it did. -/
def envFlatSpec : ChangeSpec := { name := "envFlat", fn := fun _ => fun
  | [d1, d2, d3, d4, d5] => { results := [.lit (.bool true)], args := [d1, d2, d3, d4, d5] }
  | _ => none }
def envFlatRow : OpenClaim := { program := "ytlcbceneacnaiaa", sum := "87304f1bbb7957922a25a1f755a9ed56798bec4af4a98da6a1678723c2484431", func := "bywash/bywashlaw04.EnvFlat", spec := "envFlat", unfollowed := true, recurses := true, apart := false }
def EnvFlatSaid : Prop := envFlatRow.holds Try.pinned (OpenSpec.ofChange envFlatSpec)

/-- ITS FALSE NEIGHBOUR: 'it returns false'. Refute it at one input. -/
def envFlatWrong : ChangeSpec := { name := "envFlat", fn := fun _ => fun
  | [d1, d2, d3, d4, d5] => { results := [.lit (.bool false)], args := [d1, d2, d3, d4, d5] }
  | _ => none }
def EnvFlatWrongFalsely : Prop := envFlatRow.holds Try.pinned (OpenSpec.ofChange envFlatWrong)

/-- 'bywashlaw04.EnvSign': WHATEVER THE INPUT: true; the input reads as it did. -/
def envSignSpec : ChangeSpec := { name := "envSign", fn := fun _ => fun
  | [d1, d2, d3, d4, d5] => { results := [.lit (.bool true)], args := [d1, d2, d3, d4, d5] }
  | _ => none }
def envSignRow : OpenClaim := { program := "ytlcbceneacnaiaa", sum := "87304f1bbb7957922a25a1f755a9ed56798bec4af4a98da6a1678723c2484431", func := "bywash/bywashlaw04.EnvSign", spec := "envSign", unfollowed := true, recurses := true, apart := false }
def EnvSignSaid : Prop := envSignRow.holds Try.pinned (OpenSpec.ofChange envSignSpec)

/-- ITS FALSE NEIGHBOUR: 'it returns false'. Refute it at one input. -/
def envSignWrong : ChangeSpec := { name := "envSign", fn := fun _ => fun
  | [d1, d2, d3, d4, d5] => { results := [.lit (.bool false)], args := [d1, d2, d3, d4, d5] }
  | _ => none }
def EnvSignWrongFalsely : Prop := envSignRow.holds Try.pinned (OpenSpec.ofChange envSignWrong)

/-- 'bywashlaw04.EnvSetSign': WHATEVER THE INPUT: true; the input reads as it did. -/
def envSetSignSpec : ChangeSpec := { name := "envSetSign", fn := fun _ => fun
  | [d1, d2, d3, d4] => { results := [.lit (.bool true)], args := [d1, d2, d3, d4] }
  | _ => none }
def envSetSignRow : OpenClaim := { program := "ytlcbceneacnaiaa", sum := "87304f1bbb7957922a25a1f755a9ed56798bec4af4a98da6a1678723c2484431", func := "bywash/bywashlaw04.EnvSetSign", spec := "envSetSign", unfollowed := true, recurses := true, apart := false }
def EnvSetSignSaid : Prop := envSetSignRow.holds Try.pinned (OpenSpec.ofChange envSetSignSpec)

/-- ITS FALSE NEIGHBOUR: 'it returns false'. Refute it at one input. -/
def envSetSignWrong : ChangeSpec := { name := "envSetSign", fn := fun _ => fun
  | [d1, d2, d3, d4] => { results := [.lit (.bool false)], args := [d1, d2, d3, d4] }
  | _ => none }
def EnvSetSignWrongFalsely : Prop := envSetSignRow.holds Try.pinned (OpenSpec.ofChange envSetSignWrong)

/- THE SECOND FORM. 'bulk': how many values and letters a reading holds, each counted each time it is reached (what is shared counts as often as it is met; a slice's spare places count too). A statement '..UptoSaid' is the law's where the arguments, and the package variables that the reading takes, are together of bulk at most 1048576: NARROWER than '..Said'. Prove '..Said' where nothing that the law and all that it calls make is longer than what came in: it says more and counts as full. Else prove '..UptoSaid'. A law counts once. -/
mutual
def uptoBulk {H : Type} : DataW H → Nat
  | .lit (.string bytes) => bytes.length + 1
  | .lit _ => 1
  | .nil => 1
  | .ptr d => uptoBulk d + 1
  | .slice elems spare => uptoBulkAll elems + uptoBulkAll spare + 1
  | .agg parts => uptoBulkAll parts + 1
  | .iface _ d => uptoBulk d + 1
  | .map entries => uptoBulkEntries entries + 1
  | .held _ => 1
def uptoBulkAll {H : Type} : List (DataW H) → Nat
  | [] => 0
  | d :: r => uptoBulk d + uptoBulkAll r
def uptoBulkEntries {H : Type} : List (Lit × DataW H) → Nat
  | [] => 0
  | x :: r => uptoBulkEntry x + uptoBulkEntries r
def uptoBulkEntry {H : Type} : Lit × DataW H → Nat
  | (.string bytes, d) => bytes.length + uptoBulk d + 1
  | (_, d) => uptoBulk d + 1
 end
def uptoSmall : (H : Type) → List (DataW H) → Bool := fun _ ds => decide (uptoBulkAll ds ≤ 1048576)
def OpenSpec.upto (s : _root_.Go.ChangeSpec) : _root_.Go.OpenSpec := { _root_.Go.OpenSpec.ofChange s with cond := some uptoSmall }

/-- 'bywashlaw04.EnvLattice', WHERE WHAT IT READS IS OF BULK AT MOST 1048576: true; the input reads as it did. -/
def envLatticeUptoRow : OpenClaim := { program := "ytlcbceneacnaiaa", sum := "87304f1bbb7957922a25a1f755a9ed56798bec4af4a98da6a1678723c2484431", func := "bywash/bywashlaw04.EnvLattice", spec := "envLattice", unfollowed := true, recurses := true, apart := false, narrowed := true }
def EnvLatticeUptoSaid : Prop := envLatticeUptoRow.holds Try.pinned (OpenSpec.upto envLatticeSpec)

/-- 'bywashlaw04.EnvSets', WHERE WHAT IT READS IS OF BULK AT MOST 1048576: true; the input reads as it did. -/
def envSetsUptoRow : OpenClaim := { program := "ytlcbceneacnaiaa", sum := "87304f1bbb7957922a25a1f755a9ed56798bec4af4a98da6a1678723c2484431", func := "bywash/bywashlaw04.EnvSets", spec := "envSets", unfollowed := true, recurses := true, apart := false, narrowed := true }
def EnvSetsUptoSaid : Prop := envSetsUptoRow.holds Try.pinned (OpenSpec.upto envSetsSpec)

/-- 'bywashlaw04.EnvAbove', WHERE WHAT IT READS IS OF BULK AT MOST 1048576: true; the input reads as it did. -/
def envAboveUptoRow : OpenClaim := { program := "ytlcbceneacnaiaa", sum := "87304f1bbb7957922a25a1f755a9ed56798bec4af4a98da6a1678723c2484431", func := "bywash/bywashlaw04.EnvAbove", spec := "envAbove", unfollowed := true, recurses := true, apart := false, narrowed := true }
def EnvAboveUptoSaid : Prop := envAboveUptoRow.holds Try.pinned (OpenSpec.upto envAboveSpec)

/-- 'bywashlaw04.EnvFlat', WHERE WHAT IT READS IS OF BULK AT MOST 1048576: true; the input reads as it did. -/
def envFlatUptoRow : OpenClaim := { program := "ytlcbceneacnaiaa", sum := "87304f1bbb7957922a25a1f755a9ed56798bec4af4a98da6a1678723c2484431", func := "bywash/bywashlaw04.EnvFlat", spec := "envFlat", unfollowed := true, recurses := true, apart := false, narrowed := true }
def EnvFlatUptoSaid : Prop := envFlatUptoRow.holds Try.pinned (OpenSpec.upto envFlatSpec)

/-- 'bywashlaw04.EnvSign', WHERE WHAT IT READS IS OF BULK AT MOST 1048576: true; the input reads as it did. -/
def envSignUptoRow : OpenClaim := { program := "ytlcbceneacnaiaa", sum := "87304f1bbb7957922a25a1f755a9ed56798bec4af4a98da6a1678723c2484431", func := "bywash/bywashlaw04.EnvSign", spec := "envSign", unfollowed := true, recurses := true, apart := false, narrowed := true }
def EnvSignUptoSaid : Prop := envSignUptoRow.holds Try.pinned (OpenSpec.upto envSignSpec)

/-- 'bywashlaw04.EnvSetSign', WHERE WHAT IT READS IS OF BULK AT MOST 1048576: true; the input reads as it did. -/
def envSetSignUptoRow : OpenClaim := { program := "ytlcbceneacnaiaa", sum := "87304f1bbb7957922a25a1f755a9ed56798bec4af4a98da6a1678723c2484431", func := "bywash/bywashlaw04.EnvSetSign", spec := "envSetSign", unfollowed := true, recurses := true, apart := false, narrowed := true }
def EnvSetSignUptoSaid : Prop := envSetSignUptoRow.holds Try.pinned (OpenSpec.upto envSetSignSpec)

end Rows
end Go.Proofs.Ytlcbceneacnaiaa
