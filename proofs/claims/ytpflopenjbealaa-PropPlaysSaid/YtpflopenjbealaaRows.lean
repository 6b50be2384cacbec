/-
  No cell of these rows narrows 'for every input' (looked for: loops, veiled, ifaces, maps, wideKeys, modest, calm, conditions, laid).
  DERIVED. THE GIVEN ROWS OF THIS SEAT. 7 by the template 'for every input the law returns true; each argument reads behind the call as it read before'; 0 by the template 'total and deterministic' (their statements: YtpflopenjbealaaTotals.lean).
  GIVEN WITH THE SEED: the statements are not yours to turn. If you find one false, say at which input.
  Laid BY PROGRAM, IN A SANDBOX (cutbox-rows.mjs): the forced cells as the released guide's own fill.sh prints them over the translation 4c9a7b72849e2626… (all of the seat's roots in one cut). By AI agents, Wed Nov 11 2026. No macro, syntax, notation, axiom, sorry.
-/
import Derived.Test.YtpflopenjbealaaChecked
import GoSem.Claim
import GoSem.ClaimJoined
import GoSem.ClaimMapViews
import Derived.JoinedTies
import Derived.KernelRfl
namespace Go.Proofs.Ytpflopenjbealaa
/- THE CELL 'sum', in the pinned program and in every row, IS THE sha256 OF THE DUMP (.gsa) THAT YtpflopenjbealaaProg.lean LOADS. Nothing in Lean hashes anything: it is a label: what it is worth is what the hold of that sum in a sandbox is worth. -/
noncomputable def Try.pinned : Pinned := { name := "ytpflopenjbealaa", sum := "4c9a7b72849e2626a4e3ca15f7363bed3ede6082fb35a478128f1e5c2270ab87", checked := Try.checked }
namespace Rows
def none {H : Type} : Left H := { results := [], args := [] }

/-- 'annalistlaw16.VoteGrows': WHATEVER THE INPUT: true; the input reads as it did. -/
def voteGrowsSpec : ChangeSpec := { name := "voteGrows", fn := fun _ => fun
  | [d] => { results := [.lit (.bool true)], args := [d] }
  | _ => none }
def voteGrowsRow : OpenClaim := { program := "ytpflopenjbealaa", sum := "4c9a7b72849e2626a4e3ca15f7363bed3ede6082fb35a478128f1e5c2270ab87", func := "annalist/annalistlaw16.VoteGrows", spec := "voteGrows", apart := false }
def VoteGrowsSaid : Prop := voteGrowsRow.holds Try.pinned (OpenSpec.ofChange voteGrowsSpec)

/-- ITS FALSE NEIGHBOUR: 'it returns false'. Refute it at one input. -/
def voteGrowsWrong : ChangeSpec := { name := "voteGrows", fn := fun _ => fun
  | [d] => { results := [.lit (.bool false)], args := [d] }
  | _ => none }
def VoteGrowsWrongFalsely : Prop := voteGrowsRow.holds Try.pinned (OpenSpec.ofChange voteGrowsWrong)

/-- 'annalistlaw16.VoteApart': WHATEVER THE INPUT: true; the input reads as it did. -/
def voteApartSpec : ChangeSpec := { name := "voteApart", fn := fun _ => fun
  | [d1, d2] => { results := [.lit (.bool true)], args := [d1, d2] }
  | _ => none }
def voteApartRow : OpenClaim := { program := "ytpflopenjbealaa", sum := "4c9a7b72849e2626a4e3ca15f7363bed3ede6082fb35a478128f1e5c2270ab87", func := "annalist/annalistlaw16.VoteApart", spec := "voteApart", apart := false }
def VoteApartSaid : Prop := voteApartRow.holds Try.pinned (OpenSpec.ofChange voteApartSpec)

/-- ITS FALSE NEIGHBOUR: 'it returns false'. Refute it at one input. -/
def voteApartWrong : ChangeSpec := { name := "voteApart", fn := fun _ => fun
  | [d1, d2] => { results := [.lit (.bool false)], args := [d1, d2] }
  | _ => none }
def VoteApartWrongFalsely : Prop := voteApartRow.holds Try.pinned (OpenSpec.ofChange voteApartWrong)

/-- 'annalistlaw16.VoteSets': WHATEVER THE INPUT: true; the input reads as it did. -/
def voteSetsSpec : ChangeSpec := { name := "voteSets", fn := fun _ => fun
  | [d1, d2, d3] => { results := [.lit (.bool true)], args := [d1, d2, d3] }
  | _ => none }
def voteSetsRow : OpenClaim := { program := "ytpflopenjbealaa", sum := "4c9a7b72849e2626a4e3ca15f7363bed3ede6082fb35a478128f1e5c2270ab87", func := "annalist/annalistlaw16.VoteSets", spec := "voteSets", apart := false }
def VoteSetsSaid : Prop := voteSetsRow.holds Try.pinned (OpenSpec.ofChange voteSetsSpec)

/-- ITS FALSE NEIGHBOUR: 'it returns false'. Refute it at one input. -/
def voteSetsWrong : ChangeSpec := { name := "voteSets", fn := fun _ => fun
  | [d1, d2, d3] => { results := [.lit (.bool false)], args := [d1, d2, d3] }
  | _ => none }
def VoteSetsWrongFalsely : Prop := voteSetsRow.holds Try.pinned (OpenSpec.ofChange voteSetsWrong)

/-- 'annalistlaw18.PropValues': WHATEVER THE INPUT: true; the input reads as it did. -/
def propValuesSpec : ChangeSpec := { name := "propValues", fn := fun _ => fun
  | [d1, d2, d3] => { results := [.lit (.bool true)], args := [d1, d2, d3] }
  | _ => none }
def propValuesRow : OpenClaim := { program := "ytpflopenjbealaa", sum := "4c9a7b72849e2626a4e3ca15f7363bed3ede6082fb35a478128f1e5c2270ab87", func := "annalist/annalistlaw18.PropValues", spec := "propValues", apart := false }
def PropValuesSaid : Prop := propValuesRow.holds Try.pinned (OpenSpec.ofChange propValuesSpec)

/-- ITS FALSE NEIGHBOUR: 'it returns false'. Refute it at one input. -/
def propValuesWrong : ChangeSpec := { name := "propValues", fn := fun _ => fun
  | [d1, d2, d3] => { results := [.lit (.bool false)], args := [d1, d2, d3] }
  | _ => none }
def PropValuesWrongFalsely : Prop := propValuesRow.holds Try.pinned (OpenSpec.ofChange propValuesWrong)

/-- 'annalistlaw18.PropTwice': WHATEVER THE INPUT: true; the input reads as it did. -/
def propTwiceSpec : ChangeSpec := { name := "propTwice", fn := fun _ => fun
  | [d1, d2] => { results := [.lit (.bool true)], args := [d1, d2] }
  | _ => none }
def propTwiceRow : OpenClaim := { program := "ytpflopenjbealaa", sum := "4c9a7b72849e2626a4e3ca15f7363bed3ede6082fb35a478128f1e5c2270ab87", func := "annalist/annalistlaw18.PropTwice", spec := "propTwice", apart := false }
def PropTwiceSaid : Prop := propTwiceRow.holds Try.pinned (OpenSpec.ofChange propTwiceSpec)

/-- ITS FALSE NEIGHBOUR: 'it returns false'. Refute it at one input. -/
def propTwiceWrong : ChangeSpec := { name := "propTwice", fn := fun _ => fun
  | [d1, d2] => { results := [.lit (.bool false)], args := [d1, d2] }
  | _ => none }
def PropTwiceWrongFalsely : Prop := propTwiceRow.holds Try.pinned (OpenSpec.ofChange propTwiceWrong)

/-- 'annalistlaw18.PropPhases': WHATEVER THE INPUT: true; the input reads as it did. -/
def propPhasesSpec : ChangeSpec := { name := "propPhases", fn := fun _ => fun
  | [d1, d2] => { results := [.lit (.bool true)], args := [d1, d2] }
  | _ => none }
def propPhasesRow : OpenClaim := { program := "ytpflopenjbealaa", sum := "4c9a7b72849e2626a4e3ca15f7363bed3ede6082fb35a478128f1e5c2270ab87", func := "annalist/annalistlaw18.PropPhases", spec := "propPhases", apart := false }
def PropPhasesSaid : Prop := propPhasesRow.holds Try.pinned (OpenSpec.ofChange propPhasesSpec)

/-- ITS FALSE NEIGHBOUR: 'it returns false'. Refute it at one input. -/
def propPhasesWrong : ChangeSpec := { name := "propPhases", fn := fun _ => fun
  | [d1, d2] => { results := [.lit (.bool false)], args := [d1, d2] }
  | _ => none }
def PropPhasesWrongFalsely : Prop := propPhasesRow.holds Try.pinned (OpenSpec.ofChange propPhasesWrong)

/-- 'annalistlaw18.PropPlays': WHATEVER THE INPUT: true; the input reads as it did. -/
def propPlaysSpec : ChangeSpec := { name := "propPlays", fn := fun _ => fun
  | [d1, d2, d3] => { results := [.lit (.bool true)], args := [d1, d2, d3] }
  | _ => none }
def propPlaysRow : OpenClaim := { program := "ytpflopenjbealaa", sum := "4c9a7b72849e2626a4e3ca15f7363bed3ede6082fb35a478128f1e5c2270ab87", func := "annalist/annalistlaw18.PropPlays", spec := "propPlays", apart := false }
def PropPlaysSaid : Prop := propPlaysRow.holds Try.pinned (OpenSpec.ofChange propPlaysSpec)

/-- ITS FALSE NEIGHBOUR: 'it returns false'. Refute it at one input. -/
def propPlaysWrong : ChangeSpec := { name := "propPlays", fn := fun _ => fun
  | [d1, d2, d3] => { results := [.lit (.bool false)], args := [d1, d2, d3] }
  | _ => none }
def PropPlaysWrongFalsely : Prop := propPlaysRow.holds Try.pinned (OpenSpec.ofChange propPlaysWrong)

/- THE SECOND FORM. 'bulk': how many values and letters a reading holds, each counted each time it is reached (what is shared counts as often as it is met; a slice's spare places count too). A statement '..UptoSaid' is the law's where the arguments, and the package variables that the reading takes, are together of bulk at most 1048576: NARROWER than '..Said'. Prove '..Said' where nothing that the law and all that it calls make is longer than what came in: it says more and counts as full. Else prove '..UptoSaid'. A law counts once. -/
mutual
def uptoBulk {H : Type} : DataW H → Nat
  | .lit (.string bytes) => bytes.length + 1
  | .lit _ => 1
  | .nil => 1
  | .ptr d => uptoBulk d + 1
  | .slice elems spare => uptoBulkAll elems + uptoBulkAll spare + 1
  | .agg parts => uptoBulkAll parts + 1
  | .iface _ d => uptoBulk d + 1
  | .map entries => uptoBulkEntries entries + 1
  | .held _ => 1
def uptoBulkAll {H : Type} : List (DataW H) → Nat
  | [] => 0
  | d :: r => uptoBulk d + uptoBulkAll r
def uptoBulkEntries {H : Type} : List (Lit × DataW H) → Nat
  | [] => 0
  | x :: r => uptoBulkEntry x + uptoBulkEntries r
def uptoBulkEntry {H : Type} : Lit × DataW H → Nat
  | (.string bytes, d) => bytes.length + uptoBulk d + 1
  | (_, d) => uptoBulk d + 1
 end
def uptoSmall : (H : Type) → List (DataW H) → Bool := fun _ ds => decide (uptoBulkAll ds ≤ 1048576)
def OpenSpec.upto (s : _root_.Go.ChangeSpec) : _root_.Go.OpenSpec := { _root_.Go.OpenSpec.ofChange s with cond := some uptoSmall }

/-- 'annalistlaw16.VoteGrows', WHERE WHAT IT READS IS OF BULK AT MOST 1048576: true; the input reads as it did. -/
def voteGrowsUptoRow : OpenClaim := { program := "ytpflopenjbealaa", sum := "4c9a7b72849e2626a4e3ca15f7363bed3ede6082fb35a478128f1e5c2270ab87", func := "annalist/annalistlaw16.VoteGrows", spec := "voteGrows", apart := false, narrowed := true }
def VoteGrowsUptoSaid : Prop := voteGrowsUptoRow.holds Try.pinned (OpenSpec.upto voteGrowsSpec)

/-- 'annalistlaw16.VoteApart', WHERE WHAT IT READS IS OF BULK AT MOST 1048576: true; the input reads as it did. -/
def voteApartUptoRow : OpenClaim := { program := "ytpflopenjbealaa", sum := "4c9a7b72849e2626a4e3ca15f7363bed3ede6082fb35a478128f1e5c2270ab87", func := "annalist/annalistlaw16.VoteApart", spec := "voteApart", apart := false, narrowed := true }
def VoteApartUptoSaid : Prop := voteApartUptoRow.holds Try.pinned (OpenSpec.upto voteApartSpec)

/-- 'annalistlaw16.VoteSets', WHERE WHAT IT READS IS OF BULK AT MOST 1048576: true; the input reads as it did. -/
def voteSetsUptoRow : OpenClaim := { program := "ytpflopenjbealaa", sum := "4c9a7b72849e2626a4e3ca15f7363bed3ede6082fb35a478128f1e5c2270ab87", func := "annalist/annalistlaw16.VoteSets", spec := "voteSets", apart := false, narrowed := true }
def VoteSetsUptoSaid : Prop := voteSetsUptoRow.holds Try.pinned (OpenSpec.upto voteSetsSpec)

/-- 'annalistlaw18.PropValues', WHERE WHAT IT READS IS OF BULK AT MOST 1048576: true; the input reads as it did. -/
def propValuesUptoRow : OpenClaim := { program := "ytpflopenjbealaa", sum := "4c9a7b72849e2626a4e3ca15f7363bed3ede6082fb35a478128f1e5c2270ab87", func := "annalist/annalistlaw18.PropValues", spec := "propValues", apart := false, narrowed := true }
def PropValuesUptoSaid : Prop := propValuesUptoRow.holds Try.pinned (OpenSpec.upto propValuesSpec)

/-- 'annalistlaw18.PropTwice', WHERE WHAT IT READS IS OF BULK AT MOST 1048576: true; the input reads as it did. -/
def propTwiceUptoRow : OpenClaim := { program := "ytpflopenjbealaa", sum := "4c9a7b72849e2626a4e3ca15f7363bed3ede6082fb35a478128f1e5c2270ab87", func := "annalist/annalistlaw18.PropTwice", spec := "propTwice", apart := false, narrowed := true }
def PropTwiceUptoSaid : Prop := propTwiceUptoRow.holds Try.pinned (OpenSpec.upto propTwiceSpec)

/-- 'annalistlaw18.PropPhases', WHERE WHAT IT READS IS OF BULK AT MOST 1048576: true; the input reads as it did. -/
def propPhasesUptoRow : OpenClaim := { program := "ytpflopenjbealaa", sum := "4c9a7b72849e2626a4e3ca15f7363bed3ede6082fb35a478128f1e5c2270ab87", func := "annalist/annalistlaw18.PropPhases", spec := "propPhases", apart := false, narrowed := true }
def PropPhasesUptoSaid : Prop := propPhasesUptoRow.holds Try.pinned (OpenSpec.upto propPhasesSpec)

/-- 'annalistlaw18.PropPlays', WHERE WHAT IT READS IS OF BULK AT MOST 1048576: true; the input reads as it did. -/
def propPlaysUptoRow : OpenClaim := { program := "ytpflopenjbealaa", sum := "4c9a7b72849e2626a4e3ca15f7363bed3ede6082fb35a478128f1e5c2270ab87", func := "annalist/annalistlaw18.PropPlays", spec := "propPlays", apart := false, narrowed := true }
def PropPlaysUptoSaid : Prop := propPlaysUptoRow.holds Try.pinned (OpenSpec.upto propPlaysSpec)

end Rows
end Go.Proofs.Ytpflopenjbealaa
