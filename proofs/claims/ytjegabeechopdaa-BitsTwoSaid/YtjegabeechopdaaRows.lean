/-
  No cell of these rows narrows 'for every input' (looked for: loops, veiled, ifaces, maps, wideKeys, modest, calm, conditions, laid).
  DERIVED. THE GIVEN ROWS OF THIS SEAT. 17 by the template 'for every input the law returns true; each argument reads behind the call as it read before'; 0 by the template 'total and deterministic' (their statements: YtjegabeechopdaaTotals.lean).
  GIVEN WITH THE SEED: the statements are not yours to turn. If you find one false, say at which input.
  Laid BY PROGRAM, IN A SANDBOX (cutbox-rows.mjs): the forced cells as the released guide's own fill.sh prints them over the translation 2592ada521b33156… (all of the seat's roots in one cut). By AI agents, Wed Nov 11 2026. No macro, syntax, notation, axiom, sorry.
-/
import Derived.Test.YtjegabeechopdaaChecked
import GoSem.Claim
import GoSem.ClaimJoined
import GoSem.ClaimMapViews
import Derived.JoinedTies
import Derived.KernelRfl
namespace Go.Proofs.Ytjegabeechopdaa
/- THE CELL 'sum', in the pinned program and in every row, IS THE sha256 OF THE DUMP (.gsa) THAT YtjegabeechopdaaProg.lean LOADS. Nothing in Lean hashes anything: it is a label: what it is worth is what the hold of that sum in a sandbox is worth. -/
noncomputable def Try.pinned : Pinned := { name := "ytjegabeechopdaa", sum := "2592ada521b33156feacdf76623677d8078051cfde3a43e2cbb2bf17aba79a17", checked := Try.checked }
namespace Rows
def none {H : Type} : Left H := { results := [], args := [] }

/-- 'bywashlaw02.FlatLattice': WHATEVER THE INPUT: true; the input reads as it did. -/
def flatLatticeSpec : ChangeSpec := { name := "flatLattice", fn := fun _ => fun
  | [d1, d2, d3] => { results := [.lit (.bool true)], args := [d1, d2, d3] }
  | _ => none }
def flatLatticeRow : OpenClaim := { program := "ytjegabeechopdaa", sum := "2592ada521b33156feacdf76623677d8078051cfde3a43e2cbb2bf17aba79a17", func := "bywash/bywashlaw02.FlatLattice", spec := "flatLattice", unfollowed := true, recurses := true, apart := false }
def FlatLatticeSaid : Prop := flatLatticeRow.holds Try.pinned (OpenSpec.ofChange flatLatticeSpec)

/-- ITS FALSE NEIGHBOUR: 'it returns false'. Refute it at one input. -/
def flatLatticeWrong : ChangeSpec := { name := "flatLattice", fn := fun _ => fun
  | [d1, d2, d3] => { results := [.lit (.bool false)], args := [d1, d2, d3] }
  | _ => none }
def FlatLatticeWrongFalsely : Prop := flatLatticeRow.holds Try.pinned (OpenSpec.ofChange flatLatticeWrong)

/-- 'bywashlaw02.FlatHeight': WHATEVER THE INPUT: true; the input reads as it did. -/
def flatHeightSpec : ChangeSpec := { name := "flatHeight", fn := fun _ => fun
  | [d1, d2] => { results := [.lit (.bool true)], args := [d1, d2] }
  | _ => none }
def flatHeightRow : OpenClaim := { program := "ytjegabeechopdaa", sum := "2592ada521b33156feacdf76623677d8078051cfde3a43e2cbb2bf17aba79a17", func := "bywash/bywashlaw02.FlatHeight", spec := "flatHeight", unfollowed := true, recurses := true, apart := false }
def FlatHeightSaid : Prop := flatHeightRow.holds Try.pinned (OpenSpec.ofChange flatHeightSpec)

/-- ITS FALSE NEIGHBOUR: 'it returns false'. Refute it at one input. -/
def flatHeightWrong : ChangeSpec := { name := "flatHeight", fn := fun _ => fun
  | [d1, d2] => { results := [.lit (.bool false)], args := [d1, d2] }
  | _ => none }
def FlatHeightWrongFalsely : Prop := flatHeightRow.holds Try.pinned (OpenSpec.ofChange flatHeightWrong)

/-- 'bywashlaw02.FlatNumbers': WHATEVER THE INPUT: true; the input reads as it did. -/
def flatNumbersSpec : ChangeSpec := { name := "flatNumbers", fn := fun _ => fun
  | [d1, d2, d3] => { results := [.lit (.bool true)], args := [d1, d2, d3] }
  | _ => none }
def flatNumbersRow : OpenClaim := { program := "ytjegabeechopdaa", sum := "2592ada521b33156feacdf76623677d8078051cfde3a43e2cbb2bf17aba79a17", func := "bywash/bywashlaw02.FlatNumbers", spec := "flatNumbers", unfollowed := true, recurses := true, apart := false }
def FlatNumbersSaid : Prop := flatNumbersRow.holds Try.pinned (OpenSpec.ofChange flatNumbersSpec)

/-- ITS FALSE NEIGHBOUR: 'it returns false'. Refute it at one input. -/
def flatNumbersWrong : ChangeSpec := { name := "flatNumbers", fn := fun _ => fun
  | [d1, d2, d3] => { results := [.lit (.bool false)], args := [d1, d2, d3] }
  | _ => none }
def FlatNumbersWrongFalsely : Prop := flatNumbersRow.holds Try.pinned (OpenSpec.ofChange flatNumbersWrong)

/-- 'bywashlaw02.FlatStrict': WHATEVER THE INPUT: true; the input reads as it did. -/
def flatStrictSpec : ChangeSpec := { name := "flatStrict", fn := fun _ => fun
  | [d1, d2] => { results := [.lit (.bool true)], args := [d1, d2] }
  | _ => none }
def flatStrictRow : OpenClaim := { program := "ytjegabeechopdaa", sum := "2592ada521b33156feacdf76623677d8078051cfde3a43e2cbb2bf17aba79a17", func := "bywash/bywashlaw02.FlatStrict", spec := "flatStrict", unfollowed := true, recurses := true, apart := false }
def FlatStrictSaid : Prop := flatStrictRow.holds Try.pinned (OpenSpec.ofChange flatStrictSpec)

/-- ITS FALSE NEIGHBOUR: 'it returns false'. Refute it at one input. -/
def flatStrictWrong : ChangeSpec := { name := "flatStrict", fn := fun _ => fun
  | [d1, d2] => { results := [.lit (.bool false)], args := [d1, d2] }
  | _ => none }
def FlatStrictWrongFalsely : Prop := flatStrictRow.holds Try.pinned (OpenSpec.ofChange flatStrictWrong)

/-- 'bywashlaw02.FlatIs': WHATEVER THE INPUT: true; the input reads as it did. -/
def flatIsSpec : ChangeSpec := { name := "flatIs", fn := fun _ => fun
  | [d1, d2, d3] => { results := [.lit (.bool true)], args := [d1, d2, d3] }
  | _ => none }
def flatIsRow : OpenClaim := { program := "ytjegabeechopdaa", sum := "2592ada521b33156feacdf76623677d8078051cfde3a43e2cbb2bf17aba79a17", func := "bywash/bywashlaw02.FlatIs", spec := "flatIs", unfollowed := true, recurses := true, apart := false }
def FlatIsSaid : Prop := flatIsRow.holds Try.pinned (OpenSpec.ofChange flatIsSpec)

/-- ITS FALSE NEIGHBOUR: 'it returns false'. Refute it at one input. -/
def flatIsWrong : ChangeSpec := { name := "flatIs", fn := fun _ => fun
  | [d1, d2, d3] => { results := [.lit (.bool false)], args := [d1, d2, d3] }
  | _ => none }
def FlatIsWrongFalsely : Prop := flatIsRow.holds Try.pinned (OpenSpec.ofChange flatIsWrong)

/-- 'bywashlaw02.FlatRises': WHATEVER THE INPUT: true; the input reads as it did. -/
def flatRisesSpec : ChangeSpec := { name := "flatRises", fn := fun _ => fun
  | [d1, d2, d3, d4] => { results := [.lit (.bool true)], args := [d1, d2, d3, d4] }
  | _ => none }
def flatRisesRow : OpenClaim := { program := "ytjegabeechopdaa", sum := "2592ada521b33156feacdf76623677d8078051cfde3a43e2cbb2bf17aba79a17", func := "bywash/bywashlaw02.FlatRises", spec := "flatRises", unfollowed := true, recurses := true, apart := false }
def FlatRisesSaid : Prop := flatRisesRow.holds Try.pinned (OpenSpec.ofChange flatRisesSpec)

/-- ITS FALSE NEIGHBOUR: 'it returns false'. Refute it at one input. -/
def flatRisesWrong : ChangeSpec := { name := "flatRises", fn := fun _ => fun
  | [d1, d2, d3, d4] => { results := [.lit (.bool false)], args := [d1, d2, d3, d4] }
  | _ => none }
def FlatRisesWrongFalsely : Prop := flatRisesRow.holds Try.pinned (OpenSpec.ofChange flatRisesWrong)

/-- 'bywashlaw03.SignMakes': WHATEVER THE INPUT: true; the input reads as it did. -/
def signMakesSpec : ChangeSpec := { name := "signMakes", fn := fun _ => fun
  | [d1, d2] => { results := [.lit (.bool true)], args := [d1, d2] }
  | _ => none }
def signMakesRow : OpenClaim := { program := "ytjegabeechopdaa", sum := "2592ada521b33156feacdf76623677d8078051cfde3a43e2cbb2bf17aba79a17", func := "bywash/bywashlaw03.SignMakes", spec := "signMakes", apart := false }
def SignMakesSaid : Prop := signMakesRow.holds Try.pinned (OpenSpec.ofChange signMakesSpec)

/-- ITS FALSE NEIGHBOUR: 'it returns false'. Refute it at one input. -/
def signMakesWrong : ChangeSpec := { name := "signMakes", fn := fun _ => fun
  | [d1, d2] => { results := [.lit (.bool false)], args := [d1, d2] }
  | _ => none }
def SignMakesWrongFalsely : Prop := signMakesRow.holds Try.pinned (OpenSpec.ofChange signMakesWrong)

/-- 'bywashlaw03.SignTells': WHATEVER THE INPUT: true; the input reads as it did. -/
def signTellsSpec : ChangeSpec := { name := "signTells", fn := fun _ => fun
  | [d1, d2] => { results := [.lit (.bool true)], args := [d1, d2] }
  | _ => none }
def signTellsRow : OpenClaim := { program := "ytjegabeechopdaa", sum := "2592ada521b33156feacdf76623677d8078051cfde3a43e2cbb2bf17aba79a17", func := "bywash/bywashlaw03.SignTells", spec := "signTells", apart := false }
def SignTellsSaid : Prop := signTellsRow.holds Try.pinned (OpenSpec.ofChange signTellsSpec)

/-- ITS FALSE NEIGHBOUR: 'it returns false'. Refute it at one input. -/
def signTellsWrong : ChangeSpec := { name := "signTells", fn := fun _ => fun
  | [d1, d2] => { results := [.lit (.bool false)], args := [d1, d2] }
  | _ => none }
def SignTellsWrongFalsely : Prop := signTellsRow.holds Try.pinned (OpenSpec.ofChange signTellsWrong)

/-- 'bywashlaw03.SignList': WHATEVER THE INPUT: true; the input reads as it did. -/
def signListSpec : ChangeSpec := { name := "signList", fn := fun _ => fun
  | [d] => { results := [.lit (.bool true)], args := [d] }
  | _ => none }
def signListRow : OpenClaim := { program := "ytjegabeechopdaa", sum := "2592ada521b33156feacdf76623677d8078051cfde3a43e2cbb2bf17aba79a17", func := "bywash/bywashlaw03.SignList", spec := "signList", apart := false }
def SignListSaid : Prop := signListRow.holds Try.pinned (OpenSpec.ofChange signListSpec)

/-- ITS FALSE NEIGHBOUR: 'it returns false'. Refute it at one input. -/
def signListWrong : ChangeSpec := { name := "signList", fn := fun _ => fun
  | [d] => { results := [.lit (.bool false)], args := [d] }
  | _ => none }
def SignListWrongFalsely : Prop := signListRow.holds Try.pinned (OpenSpec.ofChange signListWrong)

/-- 'bywashlaw03.SignRises': WHATEVER THE INPUT: true; the input reads as it did. -/
def signRisesSpec : ChangeSpec := { name := "signRises", fn := fun _ => fun
  | [d1, d2, d3] => { results := [.lit (.bool true)], args := [d1, d2, d3] }
  | _ => none }
def signRisesRow : OpenClaim := { program := "ytjegabeechopdaa", sum := "2592ada521b33156feacdf76623677d8078051cfde3a43e2cbb2bf17aba79a17", func := "bywash/bywashlaw03.SignRises", spec := "signRises", apart := false }
def SignRisesSaid : Prop := signRisesRow.holds Try.pinned (OpenSpec.ofChange signRisesSpec)

/-- ITS FALSE NEIGHBOUR: 'it returns false'. Refute it at one input. -/
def signRisesWrong : ChangeSpec := { name := "signRises", fn := fun _ => fun
  | [d1, d2, d3] => { results := [.lit (.bool false)], args := [d1, d2, d3] }
  | _ => none }
def SignRisesWrongFalsely : Prop := signRisesRow.holds Try.pinned (OpenSpec.ofChange signRisesWrong)

/-- 'bywashlaw03.SignFlat': WHATEVER THE INPUT: true; the input reads as it did. -/
def signFlatSpec : ChangeSpec := { name := "signFlat", fn := fun _ => fun
  | [d1, d2] => { results := [.lit (.bool true)], args := [d1, d2] }
  | _ => none }
def signFlatRow : OpenClaim := { program := "ytjegabeechopdaa", sum := "2592ada521b33156feacdf76623677d8078051cfde3a43e2cbb2bf17aba79a17", func := "bywash/bywashlaw03.SignFlat", spec := "signFlat", unfollowed := true, recurses := true, apart := false }
def SignFlatSaid : Prop := signFlatRow.holds Try.pinned (OpenSpec.ofChange signFlatSpec)

/-- ITS FALSE NEIGHBOUR: 'it returns false'. Refute it at one input. -/
def signFlatWrong : ChangeSpec := { name := "signFlat", fn := fun _ => fun
  | [d1, d2] => { results := [.lit (.bool false)], args := [d1, d2] }
  | _ => none }
def SignFlatWrongFalsely : Prop := signFlatRow.holds Try.pinned (OpenSpec.ofChange signFlatWrong)

/-- 'bywashlaw03.SignIs': WHATEVER THE INPUT: true; the input reads as it did. -/
def signIsSpec : ChangeSpec := { name := "signIs", fn := fun _ => fun
  | [d1, d2, d3, d4] => { results := [.lit (.bool true)], args := [d1, d2, d3, d4] }
  | _ => none }
def signIsRow : OpenClaim := { program := "ytjegabeechopdaa", sum := "2592ada521b33156feacdf76623677d8078051cfde3a43e2cbb2bf17aba79a17", func := "bywash/bywashlaw03.SignIs", spec := "signIs", apart := false }
def SignIsSaid : Prop := signIsRow.holds Try.pinned (OpenSpec.ofChange signIsSpec)

/-- ITS FALSE NEIGHBOUR: 'it returns false'. Refute it at one input. -/
def signIsWrong : ChangeSpec := { name := "signIs", fn := fun _ => fun
  | [d1, d2, d3, d4] => { results := [.lit (.bool false)], args := [d1, d2, d3, d4] }
  | _ => none }
def SignIsWrongFalsely : Prop := signIsRow.holds Try.pinned (OpenSpec.ofChange signIsWrong)

/-- 'bywashlaw01.BitsChain': WHATEVER THE INPUT: true; the input reads as it did. -/
def bitsChainSpec : ChangeSpec := { name := "bitsChain", fn := fun _ => fun
  | [d1, d2] => { results := [.lit (.bool true)], args := [d1, d2] }
  | _ => none }
def bitsChainRow : OpenClaim := { program := "ytjegabeechopdaa", sum := "2592ada521b33156feacdf76623677d8078051cfde3a43e2cbb2bf17aba79a17", func := "bywash/bywashlaw01.BitsChain", spec := "bitsChain", apart := false }
def BitsChainSaid : Prop := bitsChainRow.holds Try.pinned (OpenSpec.ofChange bitsChainSpec)

/-- ITS FALSE NEIGHBOUR: 'it returns false'. Refute it at one input. -/
def bitsChainWrong : ChangeSpec := { name := "bitsChain", fn := fun _ => fun
  | [d1, d2] => { results := [.lit (.bool false)], args := [d1, d2] }
  | _ => none }
def BitsChainWrongFalsely : Prop := bitsChainRow.holds Try.pinned (OpenSpec.ofChange bitsChainWrong)

/-- 'bywashlaw01.BitsTwo': WHATEVER THE INPUT: true; the input reads as it did. -/
def bitsTwoSpec : ChangeSpec := { name := "bitsTwo", fn := fun _ => fun
  | [d1, d2] => { results := [.lit (.bool true)], args := [d1, d2] }
  | _ => none }
def bitsTwoRow : OpenClaim := { program := "ytjegabeechopdaa", sum := "2592ada521b33156feacdf76623677d8078051cfde3a43e2cbb2bf17aba79a17", func := "bywash/bywashlaw01.BitsTwo", spec := "bitsTwo", apart := false }
def BitsTwoSaid : Prop := bitsTwoRow.holds Try.pinned (OpenSpec.ofChange bitsTwoSpec)

/-- ITS FALSE NEIGHBOUR: 'it returns false'. Refute it at one input. -/
def bitsTwoWrong : ChangeSpec := { name := "bitsTwo", fn := fun _ => fun
  | [d1, d2] => { results := [.lit (.bool false)], args := [d1, d2] }
  | _ => none }
def BitsTwoWrongFalsely : Prop := bitsTwoRow.holds Try.pinned (OpenSpec.ofChange bitsTwoWrong)

/-- 'bywashlaw01.BitsLattice': WHATEVER THE INPUT: true; the input reads as it did. -/
def bitsLatticeSpec : ChangeSpec := { name := "bitsLattice", fn := fun _ => fun
  | [d1, d2, d3] => { results := [.lit (.bool true)], args := [d1, d2, d3] }
  | _ => none }
def bitsLatticeRow : OpenClaim := { program := "ytjegabeechopdaa", sum := "2592ada521b33156feacdf76623677d8078051cfde3a43e2cbb2bf17aba79a17", func := "bywash/bywashlaw01.BitsLattice", spec := "bitsLattice", apart := false }
def BitsLatticeSaid : Prop := bitsLatticeRow.holds Try.pinned (OpenSpec.ofChange bitsLatticeSpec)

/-- ITS FALSE NEIGHBOUR: 'it returns false'. Refute it at one input. -/
def bitsLatticeWrong : ChangeSpec := { name := "bitsLattice", fn := fun _ => fun
  | [d1, d2, d3] => { results := [.lit (.bool false)], args := [d1, d2, d3] }
  | _ => none }
def BitsLatticeWrongFalsely : Prop := bitsLatticeRow.holds Try.pinned (OpenSpec.ofChange bitsLatticeWrong)

/-- 'bywashlaw01.BitsMinus': WHATEVER THE INPUT: true; the input reads as it did. -/
def bitsMinusSpec : ChangeSpec := { name := "bitsMinus", fn := fun _ => fun
  | [d1, d2] => { results := [.lit (.bool true)], args := [d1, d2] }
  | _ => none }
def bitsMinusRow : OpenClaim := { program := "ytjegabeechopdaa", sum := "2592ada521b33156feacdf76623677d8078051cfde3a43e2cbb2bf17aba79a17", func := "bywash/bywashlaw01.BitsMinus", spec := "bitsMinus", apart := false }
def BitsMinusSaid : Prop := bitsMinusRow.holds Try.pinned (OpenSpec.ofChange bitsMinusSpec)

/-- ITS FALSE NEIGHBOUR: 'it returns false'. Refute it at one input. -/
def bitsMinusWrong : ChangeSpec := { name := "bitsMinus", fn := fun _ => fun
  | [d1, d2] => { results := [.lit (.bool false)], args := [d1, d2] }
  | _ => none }
def BitsMinusWrongFalsely : Prop := bitsMinusRow.holds Try.pinned (OpenSpec.ofChange bitsMinusWrong)

/-- 'bywashlaw01.BitsOne': WHATEVER THE INPUT: true; the input reads as it did. -/
def bitsOneSpec : ChangeSpec := { name := "bitsOne", fn := fun _ => fun
  | [d1, d2, d3] => { results := [.lit (.bool true)], args := [d1, d2, d3] }
  | _ => none }
def bitsOneRow : OpenClaim := { program := "ytjegabeechopdaa", sum := "2592ada521b33156feacdf76623677d8078051cfde3a43e2cbb2bf17aba79a17", func := "bywash/bywashlaw01.BitsOne", spec := "bitsOne", apart := false }
def BitsOneSaid : Prop := bitsOneRow.holds Try.pinned (OpenSpec.ofChange bitsOneSpec)

/-- ITS FALSE NEIGHBOUR: 'it returns false'. Refute it at one input. -/
def bitsOneWrong : ChangeSpec := { name := "bitsOne", fn := fun _ => fun
  | [d1, d2, d3] => { results := [.lit (.bool false)], args := [d1, d2, d3] }
  | _ => none }
def BitsOneWrongFalsely : Prop := bitsOneRow.holds Try.pinned (OpenSpec.ofChange bitsOneWrong)

/- THE SECOND FORM. 'bulk': how many values and letters a reading holds, each counted each time it is reached (what is shared counts as often as it is met; a slice's spare places count too). A statement '..UptoSaid' is the law's where the arguments, and the package variables that the reading takes, are together of bulk at most 1048576: NARROWER than '..Said'. Prove '..Said' where nothing that the law and all that it calls make is longer than what came in: it says more and counts as full. Else prove '..UptoSaid'. A law counts once. -/
mutual
def uptoBulk {H : Type} : DataW H → Nat
  | .lit (.string bytes) => bytes.length + 1
  | .lit _ => 1
  | .nil => 1
  | .ptr d => uptoBulk d + 1
  | .slice elems spare => uptoBulkAll elems + uptoBulkAll spare + 1
  | .agg parts => uptoBulkAll parts + 1
  | .iface _ d => uptoBulk d + 1
  | .map entries => uptoBulkEntries entries + 1
  | .held _ => 1
def uptoBulkAll {H : Type} : List (DataW H) → Nat
  | [] => 0
  | d :: r => uptoBulk d + uptoBulkAll r
def uptoBulkEntries {H : Type} : List (Lit × DataW H) → Nat
  | [] => 0
  | x :: r => uptoBulkEntry x + uptoBulkEntries r
def uptoBulkEntry {H : Type} : Lit × DataW H → Nat
  | (.string bytes, d) => bytes.length + uptoBulk d + 1
  | (_, d) => uptoBulk d + 1
 end
def uptoSmall : (H : Type) → List (DataW H) → Bool := fun _ ds => decide (uptoBulkAll ds ≤ 1048576)
def OpenSpec.upto (s : _root_.Go.ChangeSpec) : _root_.Go.OpenSpec := { _root_.Go.OpenSpec.ofChange s with cond := some uptoSmall }

/-- 'bywashlaw02.FlatLattice', WHERE WHAT IT READS IS OF BULK AT MOST 1048576: true; the input reads as it did. -/
def flatLatticeUptoRow : OpenClaim := { program := "ytjegabeechopdaa", sum := "2592ada521b33156feacdf76623677d8078051cfde3a43e2cbb2bf17aba79a17", func := "bywash/bywashlaw02.FlatLattice", spec := "flatLattice", unfollowed := true, recurses := true, apart := false, narrowed := true }
def FlatLatticeUptoSaid : Prop := flatLatticeUptoRow.holds Try.pinned (OpenSpec.upto flatLatticeSpec)

/-- 'bywashlaw02.FlatHeight', WHERE WHAT IT READS IS OF BULK AT MOST 1048576: true; the input reads as it did. -/
def flatHeightUptoRow : OpenClaim := { program := "ytjegabeechopdaa", sum := "2592ada521b33156feacdf76623677d8078051cfde3a43e2cbb2bf17aba79a17", func := "bywash/bywashlaw02.FlatHeight", spec := "flatHeight", unfollowed := true, recurses := true, apart := false, narrowed := true }
def FlatHeightUptoSaid : Prop := flatHeightUptoRow.holds Try.pinned (OpenSpec.upto flatHeightSpec)

/-- 'bywashlaw02.FlatNumbers', WHERE WHAT IT READS IS OF BULK AT MOST 1048576: true; the input reads as it did. -/
def flatNumbersUptoRow : OpenClaim := { program := "ytjegabeechopdaa", sum := "2592ada521b33156feacdf76623677d8078051cfde3a43e2cbb2bf17aba79a17", func := "bywash/bywashlaw02.FlatNumbers", spec := "flatNumbers", unfollowed := true, recurses := true, apart := false, narrowed := true }
def FlatNumbersUptoSaid : Prop := flatNumbersUptoRow.holds Try.pinned (OpenSpec.upto flatNumbersSpec)

/-- 'bywashlaw02.FlatStrict', WHERE WHAT IT READS IS OF BULK AT MOST 1048576: true; the input reads as it did. -/
def flatStrictUptoRow : OpenClaim := { program := "ytjegabeechopdaa", sum := "2592ada521b33156feacdf76623677d8078051cfde3a43e2cbb2bf17aba79a17", func := "bywash/bywashlaw02.FlatStrict", spec := "flatStrict", unfollowed := true, recurses := true, apart := false, narrowed := true }
def FlatStrictUptoSaid : Prop := flatStrictUptoRow.holds Try.pinned (OpenSpec.upto flatStrictSpec)

/-- 'bywashlaw02.FlatIs', WHERE WHAT IT READS IS OF BULK AT MOST 1048576: true; the input reads as it did. -/
def flatIsUptoRow : OpenClaim := { program := "ytjegabeechopdaa", sum := "2592ada521b33156feacdf76623677d8078051cfde3a43e2cbb2bf17aba79a17", func := "bywash/bywashlaw02.FlatIs", spec := "flatIs", unfollowed := true, recurses := true, apart := false, narrowed := true }
def FlatIsUptoSaid : Prop := flatIsUptoRow.holds Try.pinned (OpenSpec.upto flatIsSpec)

/-- 'bywashlaw02.FlatRises', WHERE WHAT IT READS IS OF BULK AT MOST 1048576: true; the input reads as it did. -/
def flatRisesUptoRow : OpenClaim := { program := "ytjegabeechopdaa", sum := "2592ada521b33156feacdf76623677d8078051cfde3a43e2cbb2bf17aba79a17", func := "bywash/bywashlaw02.FlatRises", spec := "flatRises", unfollowed := true, recurses := true, apart := false, narrowed := true }
def FlatRisesUptoSaid : Prop := flatRisesUptoRow.holds Try.pinned (OpenSpec.upto flatRisesSpec)

/-- 'bywashlaw03.SignMakes', WHERE WHAT IT READS IS OF BULK AT MOST 1048576: true; the input reads as it did. -/
def signMakesUptoRow : OpenClaim := { program := "ytjegabeechopdaa", sum := "2592ada521b33156feacdf76623677d8078051cfde3a43e2cbb2bf17aba79a17", func := "bywash/bywashlaw03.SignMakes", spec := "signMakes", apart := false, narrowed := true }
def SignMakesUptoSaid : Prop := signMakesUptoRow.holds Try.pinned (OpenSpec.upto signMakesSpec)

/-- 'bywashlaw03.SignTells', WHERE WHAT IT READS IS OF BULK AT MOST 1048576: true; the input reads as it did. -/
def signTellsUptoRow : OpenClaim := { program := "ytjegabeechopdaa", sum := "2592ada521b33156feacdf76623677d8078051cfde3a43e2cbb2bf17aba79a17", func := "bywash/bywashlaw03.SignTells", spec := "signTells", apart := false, narrowed := true }
def SignTellsUptoSaid : Prop := signTellsUptoRow.holds Try.pinned (OpenSpec.upto signTellsSpec)

/-- 'bywashlaw03.SignList', WHERE WHAT IT READS IS OF BULK AT MOST 1048576: true; the input reads as it did. -/
def signListUptoRow : OpenClaim := { program := "ytjegabeechopdaa", sum := "2592ada521b33156feacdf76623677d8078051cfde3a43e2cbb2bf17aba79a17", func := "bywash/bywashlaw03.SignList", spec := "signList", apart := false, narrowed := true }
def SignListUptoSaid : Prop := signListUptoRow.holds Try.pinned (OpenSpec.upto signListSpec)

/-- 'bywashlaw03.SignRises', WHERE WHAT IT READS IS OF BULK AT MOST 1048576: true; the input reads as it did. -/
def signRisesUptoRow : OpenClaim := { program := "ytjegabeechopdaa", sum := "2592ada521b33156feacdf76623677d8078051cfde3a43e2cbb2bf17aba79a17", func := "bywash/bywashlaw03.SignRises", spec := "signRises", apart := false, narrowed := true }
def SignRisesUptoSaid : Prop := signRisesUptoRow.holds Try.pinned (OpenSpec.upto signRisesSpec)

/-- 'bywashlaw03.SignFlat', WHERE WHAT IT READS IS OF BULK AT MOST 1048576: true; the input reads as it did. -/
def signFlatUptoRow : OpenClaim := { program := "ytjegabeechopdaa", sum := "2592ada521b33156feacdf76623677d8078051cfde3a43e2cbb2bf17aba79a17", func := "bywash/bywashlaw03.SignFlat", spec := "signFlat", unfollowed := true, recurses := true, apart := false, narrowed := true }
def SignFlatUptoSaid : Prop := signFlatUptoRow.holds Try.pinned (OpenSpec.upto signFlatSpec)

/-- 'bywashlaw03.SignIs', WHERE WHAT IT READS IS OF BULK AT MOST 1048576: true; the input reads as it did. -/
def signIsUptoRow : OpenClaim := { program := "ytjegabeechopdaa", sum := "2592ada521b33156feacdf76623677d8078051cfde3a43e2cbb2bf17aba79a17", func := "bywash/bywashlaw03.SignIs", spec := "signIs", apart := false, narrowed := true }
def SignIsUptoSaid : Prop := signIsUptoRow.holds Try.pinned (OpenSpec.upto signIsSpec)

/-- 'bywashlaw01.BitsChain', WHERE WHAT IT READS IS OF BULK AT MOST 1048576: true; the input reads as it did. -/
def bitsChainUptoRow : OpenClaim := { program := "ytjegabeechopdaa", sum := "2592ada521b33156feacdf76623677d8078051cfde3a43e2cbb2bf17aba79a17", func := "bywash/bywashlaw01.BitsChain", spec := "bitsChain", apart := false, narrowed := true }
def BitsChainUptoSaid : Prop := bitsChainUptoRow.holds Try.pinned (OpenSpec.upto bitsChainSpec)

/-- 'bywashlaw01.BitsTwo', WHERE WHAT IT READS IS OF BULK AT MOST 1048576: true; the input reads as it did. -/
def bitsTwoUptoRow : OpenClaim := { program := "ytjegabeechopdaa", sum := "2592ada521b33156feacdf76623677d8078051cfde3a43e2cbb2bf17aba79a17", func := "bywash/bywashlaw01.BitsTwo", spec := "bitsTwo", apart := false, narrowed := true }
def BitsTwoUptoSaid : Prop := bitsTwoUptoRow.holds Try.pinned (OpenSpec.upto bitsTwoSpec)

/-- 'bywashlaw01.BitsLattice', WHERE WHAT IT READS IS OF BULK AT MOST 1048576: true; the input reads as it did. -/
def bitsLatticeUptoRow : OpenClaim := { program := "ytjegabeechopdaa", sum := "2592ada521b33156feacdf76623677d8078051cfde3a43e2cbb2bf17aba79a17", func := "bywash/bywashlaw01.BitsLattice", spec := "bitsLattice", apart := false, narrowed := true }
def BitsLatticeUptoSaid : Prop := bitsLatticeUptoRow.holds Try.pinned (OpenSpec.upto bitsLatticeSpec)

/-- 'bywashlaw01.BitsMinus', WHERE WHAT IT READS IS OF BULK AT MOST 1048576: true; the input reads as it did. -/
def bitsMinusUptoRow : OpenClaim := { program := "ytjegabeechopdaa", sum := "2592ada521b33156feacdf76623677d8078051cfde3a43e2cbb2bf17aba79a17", func := "bywash/bywashlaw01.BitsMinus", spec := "bitsMinus", apart := false, narrowed := true }
def BitsMinusUptoSaid : Prop := bitsMinusUptoRow.holds Try.pinned (OpenSpec.upto bitsMinusSpec)

/-- 'bywashlaw01.BitsOne', WHERE WHAT IT READS IS OF BULK AT MOST 1048576: true; the input reads as it did. -/
def bitsOneUptoRow : OpenClaim := { program := "ytjegabeechopdaa", sum := "2592ada521b33156feacdf76623677d8078051cfde3a43e2cbb2bf17aba79a17", func := "bywash/bywashlaw01.BitsOne", spec := "bitsOne", apart := false, narrowed := true }
def BitsOneUptoSaid : Prop := bitsOneUptoRow.holds Try.pinned (OpenSpec.upto bitsOneSpec)

end Rows
end Go.Proofs.Ytjegabeechopdaa
