/-
  No cell of these rows narrows 'for every input' (looked for: loops, veiled, ifaces, maps, wideKeys, modest, calm, conditions, laid).
  DERIVED. THE GIVEN ROWS OF THIS SEAT. 4 by the template 'for every input the law returns true; each argument reads behind the call as it read before'; 0 by the template 'total and deterministic' (their statements: YtnhnbobgfadhpaaTotals.lean).
  GIVEN WITH THE SEED: the statements are not yours to turn. If you find one false, say at which input.
  Laid BY PROGRAM, IN A SANDBOX (cutbox-rows.mjs): the forced cells as the released guide's own fill.sh prints them over the translation 515a2acb80fc1d16… (all of the seat's roots in one cut). By AI agents, Wed Nov 11 2026. No macro, syntax, notation, axiom, sorry.
-/
import Derived.Test.YtnhnbobgfadhpaaChecked
import GoSem.Claim
import GoSem.ClaimJoined
import GoSem.ClaimMapViews
import Derived.JoinedTies
import Derived.KernelRfl
namespace Go.Proofs.Ytnhnbobgfadhpaa
/- THE CELL 'sum', in the pinned program and in every row, IS THE sha256 OF THE DUMP (.gsa) THAT YtnhnbobgfadhpaaProg.lean LOADS. Nothing in Lean hashes anything: it is a label: what it is worth is what the hold of that sum in a sandbox is worth. -/
noncomputable def Try.pinned : Pinned := { name := "ytnhnbobgfadhpaa", sum := "515a2acb80fc1d162914cc28b261b929302a9250862b6eeecd6b2f47d5e8d244", checked := Try.checked }
namespace Rows
def none {H : Type} : Left H := { results := [], args := [] }

/-- 'annalistlaw19.DecreeEnds': WHATEVER THE INPUT: true; the input reads as it did. -/
def decreeEndsSpec : ChangeSpec := { name := "decreeEnds", fn := fun _ => fun
  | [d1, d2, d3] => { results := [.lit (.bool true)], args := [d1, d2, d3] }
  | _ => none }
def decreeEndsRow : OpenClaim := { program := "ytnhnbobgfadhpaa", sum := "515a2acb80fc1d162914cc28b261b929302a9250862b6eeecd6b2f47d5e8d244", func := "annalist/annalistlaw19.DecreeEnds", spec := "decreeEnds", unfollowed := true, recurses := true, apart := false }
def DecreeEndsSaid : Prop := decreeEndsRow.holds Try.pinned (OpenSpec.ofChange decreeEndsSpec)

/-- ITS FALSE NEIGHBOUR: 'it returns false'. Refute it at one input. -/
def decreeEndsWrong : ChangeSpec := { name := "decreeEnds", fn := fun _ => fun
  | [d1, d2, d3] => { results := [.lit (.bool false)], args := [d1, d2, d3] }
  | _ => none }
def DecreeEndsWrongFalsely : Prop := decreeEndsRow.holds Try.pinned (OpenSpec.ofChange decreeEndsWrong)

/-- 'annalistlaw19.DecreeStays': WHATEVER THE INPUT: true; the input reads as it did. -/
def decreeStaysSpec : ChangeSpec := { name := "decreeStays", fn := fun _ => fun
  | [d1, d2, d3] => { results := [.lit (.bool true)], args := [d1, d2, d3] }
  | _ => none }
def decreeStaysRow : OpenClaim := { program := "ytnhnbobgfadhpaa", sum := "515a2acb80fc1d162914cc28b261b929302a9250862b6eeecd6b2f47d5e8d244", func := "annalist/annalistlaw19.DecreeStays", spec := "decreeStays", unfollowed := true, recurses := true, apart := false }
def DecreeStaysSaid : Prop := decreeStaysRow.holds Try.pinned (OpenSpec.ofChange decreeStaysSpec)

/-- ITS FALSE NEIGHBOUR: 'it returns false'. Refute it at one input. -/
def decreeStaysWrong : ChangeSpec := { name := "decreeStays", fn := fun _ => fun
  | [d1, d2, d3] => { results := [.lit (.bool false)], args := [d1, d2, d3] }
  | _ => none }
def DecreeStaysWrongFalsely : Prop := decreeStaysRow.holds Try.pinned (OpenSpec.ofChange decreeStaysWrong)

/-- 'annalistlaw19.DecreeOne': WHATEVER THE INPUT: true; the input reads as it did. -/
def decreeOneSpec : ChangeSpec := { name := "decreeOne", fn := fun _ => fun
  | [d1, d2] => { results := [.lit (.bool true)], args := [d1, d2] }
  | _ => none }
def decreeOneRow : OpenClaim := { program := "ytnhnbobgfadhpaa", sum := "515a2acb80fc1d162914cc28b261b929302a9250862b6eeecd6b2f47d5e8d244", func := "annalist/annalistlaw19.DecreeOne", spec := "decreeOne", unfollowed := true, recurses := true, apart := false }
def DecreeOneSaid : Prop := decreeOneRow.holds Try.pinned (OpenSpec.ofChange decreeOneSpec)

/-- ITS FALSE NEIGHBOUR: 'it returns false'. Refute it at one input. -/
def decreeOneWrong : ChangeSpec := { name := "decreeOne", fn := fun _ => fun
  | [d1, d2] => { results := [.lit (.bool false)], args := [d1, d2] }
  | _ => none }
def DecreeOneWrongFalsely : Prop := decreeOneRow.holds Try.pinned (OpenSpec.ofChange decreeOneWrong)

/-- 'annalistlaw19.DecreeStill': WHATEVER THE INPUT: true; the input reads as it did. -/
def decreeStillSpec : ChangeSpec := { name := "decreeStill", fn := fun _ => fun
  | [d1, d2] => { results := [.lit (.bool true)], args := [d1, d2] }
  | _ => none }
def decreeStillRow : OpenClaim := { program := "ytnhnbobgfadhpaa", sum := "515a2acb80fc1d162914cc28b261b929302a9250862b6eeecd6b2f47d5e8d244", func := "annalist/annalistlaw19.DecreeStill", spec := "decreeStill", unfollowed := true, recurses := true, apart := false }
def DecreeStillSaid : Prop := decreeStillRow.holds Try.pinned (OpenSpec.ofChange decreeStillSpec)

/-- ITS FALSE NEIGHBOUR: 'it returns false'. Refute it at one input. -/
def decreeStillWrong : ChangeSpec := { name := "decreeStill", fn := fun _ => fun
  | [d1, d2] => { results := [.lit (.bool false)], args := [d1, d2] }
  | _ => none }
def DecreeStillWrongFalsely : Prop := decreeStillRow.holds Try.pinned (OpenSpec.ofChange decreeStillWrong)

/- THE SECOND FORM. 'bulk': how many values and letters a reading holds, each counted each time it is reached (what is shared counts as often as it is met; a slice's spare places count too). A statement '..UptoSaid' is the law's where the arguments, and the package variables that the reading takes, are together of bulk at most 1048576: NARROWER than '..Said'. Prove '..Said' where nothing that the law and all that it calls make is longer than what came in: it says more and counts as full. Else prove '..UptoSaid'. A law counts once. -/
mutual
def uptoBulk {H : Type} : DataW H → Nat
  | .lit (.string bytes) => bytes.length + 1
  | .lit _ => 1
  | .nil => 1
  | .ptr d => uptoBulk d + 1
  | .slice elems spare => uptoBulkAll elems + uptoBulkAll spare + 1
  | .agg parts => uptoBulkAll parts + 1
  | .iface _ d => uptoBulk d + 1
  | .map entries => uptoBulkEntries entries + 1
  | .held _ => 1
def uptoBulkAll {H : Type} : List (DataW H) → Nat
  | [] => 0
  | d :: r => uptoBulk d + uptoBulkAll r
def uptoBulkEntries {H : Type} : List (Lit × DataW H) → Nat
  | [] => 0
  | x :: r => uptoBulkEntry x + uptoBulkEntries r
def uptoBulkEntry {H : Type} : Lit × DataW H → Nat
  | (.string bytes, d) => bytes.length + uptoBulk d + 1
  | (_, d) => uptoBulk d + 1
 end
def uptoSmall : (H : Type) → List (DataW H) → Bool := fun _ ds => decide (uptoBulkAll ds ≤ 1048576)
def OpenSpec.upto (s : _root_.Go.ChangeSpec) : _root_.Go.OpenSpec := { _root_.Go.OpenSpec.ofChange s with cond := some uptoSmall }

/-- 'annalistlaw19.DecreeEnds', WHERE WHAT IT READS IS OF BULK AT MOST 1048576: true; the input reads as it did. -/
def decreeEndsUptoRow : OpenClaim := { program := "ytnhnbobgfadhpaa", sum := "515a2acb80fc1d162914cc28b261b929302a9250862b6eeecd6b2f47d5e8d244", func := "annalist/annalistlaw19.DecreeEnds", spec := "decreeEnds", unfollowed := true, recurses := true, apart := false, narrowed := true }
def DecreeEndsUptoSaid : Prop := decreeEndsUptoRow.holds Try.pinned (OpenSpec.upto decreeEndsSpec)

/-- 'annalistlaw19.DecreeStays', WHERE WHAT IT READS IS OF BULK AT MOST 1048576: true; the input reads as it did. -/
def decreeStaysUptoRow : OpenClaim := { program := "ytnhnbobgfadhpaa", sum := "515a2acb80fc1d162914cc28b261b929302a9250862b6eeecd6b2f47d5e8d244", func := "annalist/annalistlaw19.DecreeStays", spec := "decreeStays", unfollowed := true, recurses := true, apart := false, narrowed := true }
def DecreeStaysUptoSaid : Prop := decreeStaysUptoRow.holds Try.pinned (OpenSpec.upto decreeStaysSpec)

/-- 'annalistlaw19.DecreeOne', WHERE WHAT IT READS IS OF BULK AT MOST 1048576: true; the input reads as it did. -/
def decreeOneUptoRow : OpenClaim := { program := "ytnhnbobgfadhpaa", sum := "515a2acb80fc1d162914cc28b261b929302a9250862b6eeecd6b2f47d5e8d244", func := "annalist/annalistlaw19.DecreeOne", spec := "decreeOne", unfollowed := true, recurses := true, apart := false, narrowed := true }
def DecreeOneUptoSaid : Prop := decreeOneUptoRow.holds Try.pinned (OpenSpec.upto decreeOneSpec)

/-- 'annalistlaw19.DecreeStill', WHERE WHAT IT READS IS OF BULK AT MOST 1048576: true; the input reads as it did. -/
def decreeStillUptoRow : OpenClaim := { program := "ytnhnbobgfadhpaa", sum := "515a2acb80fc1d162914cc28b261b929302a9250862b6eeecd6b2f47d5e8d244", func := "annalist/annalistlaw19.DecreeStill", spec := "decreeStill", unfollowed := true, recurses := true, apart := false, narrowed := true }
def DecreeStillUptoSaid : Prop := decreeStillUptoRow.holds Try.pinned (OpenSpec.upto decreeStillSpec)

end Rows
end Go.Proofs.Ytnhnbobgfadhpaa
