/-
  No cell of these rows narrows 'for every input' (looked for: loops, veiled, ifaces, maps, wideKeys, modest, calm, conditions, laid).
  DERIVED. THE GIVEN ROWS OF THIS SEAT. 11 by the template 'for every input the law returns true; each argument reads behind the call as it read before'; 0 by the template 'total and deterministic' (their statements: YtolapikiflodfaaTotals.lean).
  GIVEN WITH THE SEED: the statements are not yours to turn. If you find one false, say at which input.
  Laid BY PROGRAM, IN A SANDBOX (cutbox-rows.mjs): the forced cells as the released guide's own fill.sh prints them over the translation ad96adf333ba1baf… (all of the seat's roots in one cut). By AI agents, Wed Nov 11 2026. No macro, syntax, notation, axiom, sorry.
-/
import Derived.Test.YtolapikiflodfaaChecked
import GoSem.Claim
import GoSem.ClaimJoined
import GoSem.ClaimMapViews
import Derived.JoinedTies
import Derived.KernelRfl
namespace Go.Proofs.Ytolapikiflodfaa
/- THE CELL 'sum', in the pinned program and in every row, IS THE sha256 OF THE DUMP (.gsa) THAT YtolapikiflodfaaProg.lean LOADS. Nothing in Lean hashes anything: it is a label: what it is worth is what the hold of that sum in a sandbox is worth. -/
noncomputable def Try.pinned : Pinned := { name := "ytolapikiflodfaa", sum := "ad96adf333ba1bafa53bf72e805c8a08b2346e8a420f9334066af890ed6d5af1", checked := Try.checked }
namespace Rows
def none {H : Type} : Left H := { results := [], args := [] }

/-- 'annalistlaw07.TileCovers': WHATEVER THE INPUT: true; the input reads as it did. -/
def tileCoversSpec : ChangeSpec := { name := "tileCovers", fn := fun _ => fun
  | [d] => { results := [.lit (.bool true)], args := [d] }
  | _ => none }
def tileCoversRow : OpenClaim := { program := "ytolapikiflodfaa", sum := "ad96adf333ba1bafa53bf72e805c8a08b2346e8a420f9334066af890ed6d5af1", func := "annalist/annalistlaw07.TileCovers", spec := "tileCovers", unfollowed := true, recurses := true, plainKeys := false, apart := false }
def TileCoversSaid : Prop := tileCoversRow.holds Try.pinned (OpenSpec.ofChange tileCoversSpec)

/-- ITS FALSE NEIGHBOUR: 'it returns false'. Refute it at one input. -/
def tileCoversWrong : ChangeSpec := { name := "tileCovers", fn := fun _ => fun
  | [d] => { results := [.lit (.bool false)], args := [d] }
  | _ => none }
def TileCoversWrongFalsely : Prop := tileCoversRow.holds Try.pinned (OpenSpec.ofChange tileCoversWrong)

/-- 'annalistlaw08.CollideRoots': WHATEVER THE INPUT: true; the input reads as it did. -/
def collideRootsSpec : ChangeSpec := { name := "collideRoots", fn := fun _ => fun
  | [d1, d2] => { results := [.lit (.bool true)], args := [d1, d2] }
  | _ => none }
def collideRootsRow : OpenClaim := { program := "ytolapikiflodfaa", sum := "ad96adf333ba1bafa53bf72e805c8a08b2346e8a420f9334066af890ed6d5af1", func := "annalist/annalistlaw08.CollideRoots", spec := "collideRoots", unfollowed := true, recurses := true, plainKeys := false, apart := false }
def CollideRootsSaid : Prop := collideRootsRow.holds Try.pinned (OpenSpec.ofChange collideRootsSpec)

/-- ITS FALSE NEIGHBOUR: 'it returns false'. Refute it at one input. -/
def collideRootsWrong : ChangeSpec := { name := "collideRoots", fn := fun _ => fun
  | [d1, d2] => { results := [.lit (.bool false)], args := [d1, d2] }
  | _ => none }
def CollideRootsWrongFalsely : Prop := collideRootsRow.holds Try.pinned (OpenSpec.ofChange collideRootsWrong)

/-- 'annalistlaw07.TileCounts': WHATEVER THE INPUT: true; the input reads as it did. -/
def tileCountsSpec : ChangeSpec := { name := "tileCounts", fn := fun _ => fun
  | [d1, d2, d3] => { results := [.lit (.bool true)], args := [d1, d2, d3] }
  | _ => none }
def tileCountsRow : OpenClaim := { program := "ytolapikiflodfaa", sum := "ad96adf333ba1bafa53bf72e805c8a08b2346e8a420f9334066af890ed6d5af1", func := "annalist/annalistlaw07.TileCounts", spec := "tileCounts", unfollowed := true, recurses := true, plainKeys := false, apart := false }
def TileCountsSaid : Prop := tileCountsRow.holds Try.pinned (OpenSpec.ofChange tileCountsSpec)

/-- ITS FALSE NEIGHBOUR: 'it returns false'. Refute it at one input. -/
def tileCountsWrong : ChangeSpec := { name := "tileCounts", fn := fun _ => fun
  | [d1, d2, d3] => { results := [.lit (.bool false)], args := [d1, d2, d3] }
  | _ => none }
def TileCountsWrongFalsely : Prop := tileCountsRow.holds Try.pinned (OpenSpec.ofChange tileCountsWrong)

/-- 'annalistlaw22.NetCodes': WHATEVER THE INPUT: true; the input reads as it did. -/
def netCodesSpec : ChangeSpec := { name := "netCodes", fn := fun _ => fun
  | [d] => { results := [.lit (.bool true)], args := [d] }
  | _ => none }
def netCodesRow : OpenClaim := { program := "ytolapikiflodfaa", sum := "ad96adf333ba1bafa53bf72e805c8a08b2346e8a420f9334066af890ed6d5af1", func := "annalist/annalistlaw22.NetCodes", spec := "netCodes", plainKeys := false, apart := false }
def NetCodesSaid : Prop := netCodesRow.holds Try.pinned (OpenSpec.ofChange netCodesSpec)

/-- ITS FALSE NEIGHBOUR: 'it returns false'. Refute it at one input. -/
def netCodesWrong : ChangeSpec := { name := "netCodes", fn := fun _ => fun
  | [d] => { results := [.lit (.bool false)], args := [d] }
  | _ => none }
def NetCodesWrongFalsely : Prop := netCodesRow.holds Try.pinned (OpenSpec.ofChange netCodesWrong)

/-- 'annalistlaw22.NetReads': WHATEVER THE INPUT: true; the input reads as it did. -/
def netReadsSpec : ChangeSpec := { name := "netReads", fn := fun _ => fun
  | [d] => { results := [.lit (.bool true)], args := [d] }
  | _ => none }
def netReadsRow : OpenClaim := { program := "ytolapikiflodfaa", sum := "ad96adf333ba1bafa53bf72e805c8a08b2346e8a420f9334066af890ed6d5af1", func := "annalist/annalistlaw22.NetReads", spec := "netReads", plainKeys := false, apart := false }
def NetReadsSaid : Prop := netReadsRow.holds Try.pinned (OpenSpec.ofChange netReadsSpec)

/-- ITS FALSE NEIGHBOUR: 'it returns false'. Refute it at one input. -/
def netReadsWrong : ChangeSpec := { name := "netReads", fn := fun _ => fun
  | [d] => { results := [.lit (.bool false)], args := [d] }
  | _ => none }
def NetReadsWrongFalsely : Prop := netReadsRow.holds Try.pinned (OpenSpec.ofChange netReadsWrong)

/-- 'annalistlaw08.CollideLeaves': WHATEVER THE INPUT: true; the input reads as it did. -/
def collideLeavesSpec : ChangeSpec := { name := "collideLeaves", fn := fun _ => fun
  | [d1, d2, d3] => { results := [.lit (.bool true)], args := [d1, d2, d3] }
  | _ => none }
def collideLeavesRow : OpenClaim := { program := "ytolapikiflodfaa", sum := "ad96adf333ba1bafa53bf72e805c8a08b2346e8a420f9334066af890ed6d5af1", func := "annalist/annalistlaw08.CollideLeaves", spec := "collideLeaves", unfollowed := true, recurses := true, plainKeys := false, apart := false }
def CollideLeavesSaid : Prop := collideLeavesRow.holds Try.pinned (OpenSpec.ofChange collideLeavesSpec)

/-- ITS FALSE NEIGHBOUR: 'it returns false'. Refute it at one input. -/
def collideLeavesWrong : ChangeSpec := { name := "collideLeaves", fn := fun _ => fun
  | [d1, d2, d3] => { results := [.lit (.bool false)], args := [d1, d2, d3] }
  | _ => none }
def CollideLeavesWrongFalsely : Prop := collideLeavesRow.holds Try.pinned (OpenSpec.ofChange collideLeavesWrong)

/-- 'annalistlaw06.RangesRight': WHATEVER THE INPUT: true; the input reads as it did. -/
def rangesRightSpec : ChangeSpec := { name := "rangesRight", fn := fun _ => fun
  | [d1, d2] => { results := [.lit (.bool true)], args := [d1, d2] }
  | _ => none }
def rangesRightRow : OpenClaim := { program := "ytolapikiflodfaa", sum := "ad96adf333ba1bafa53bf72e805c8a08b2346e8a420f9334066af890ed6d5af1", func := "annalist/annalistlaw06.RangesRight", spec := "rangesRight", unfollowed := true, recurses := true, plainKeys := false, apart := false }
def RangesRightSaid : Prop := rangesRightRow.holds Try.pinned (OpenSpec.ofChange rangesRightSpec)

/-- ITS FALSE NEIGHBOUR: 'it returns false'. Refute it at one input. -/
def rangesRightWrong : ChangeSpec := { name := "rangesRight", fn := fun _ => fun
  | [d1, d2] => { results := [.lit (.bool false)], args := [d1, d2] }
  | _ => none }
def RangesRightWrongFalsely : Prop := rangesRightRow.holds Try.pinned (OpenSpec.ofChange rangesRightWrong)

/-- 'annalistlaw08.CollideBoth': WHATEVER THE INPUT: true; the input reads as it did. -/
def collideBothSpec : ChangeSpec := { name := "collideBoth", fn := fun _ => fun
  | [d1, d2, d3] => { results := [.lit (.bool true)], args := [d1, d2, d3] }
  | _ => none }
def collideBothRow : OpenClaim := { program := "ytolapikiflodfaa", sum := "ad96adf333ba1bafa53bf72e805c8a08b2346e8a420f9334066af890ed6d5af1", func := "annalist/annalistlaw08.CollideBoth", spec := "collideBoth", unfollowed := true, recurses := true, plainKeys := false, apart := false }
def CollideBothSaid : Prop := collideBothRow.holds Try.pinned (OpenSpec.ofChange collideBothSpec)

/-- ITS FALSE NEIGHBOUR: 'it returns false'. Refute it at one input. -/
def collideBothWrong : ChangeSpec := { name := "collideBoth", fn := fun _ => fun
  | [d1, d2, d3] => { results := [.lit (.bool false)], args := [d1, d2, d3] }
  | _ => none }
def CollideBothWrongFalsely : Prop := collideBothRow.holds Try.pinned (OpenSpec.ofChange collideBothWrong)

/-- 'annalistlaw20.ReplicaArgs': WHATEVER THE INPUT: true; the input reads as it did. -/
def replicaArgsSpec : ChangeSpec := { name := "replicaArgs", fn := fun _ => fun
  | [d1, d2, d3] => { results := [.lit (.bool true)], args := [d1, d2, d3] }
  | _ => none }
def replicaArgsRow : OpenClaim := { program := "ytolapikiflodfaa", sum := "ad96adf333ba1bafa53bf72e805c8a08b2346e8a420f9334066af890ed6d5af1", func := "annalist/annalistlaw20.ReplicaArgs", spec := "replicaArgs", unfollowed := true, recurses := true, plainKeys := false, apart := false }
def ReplicaArgsSaid : Prop := replicaArgsRow.holds Try.pinned (OpenSpec.ofChange replicaArgsSpec)

/-- ITS FALSE NEIGHBOUR: 'it returns false'. Refute it at one input. -/
def replicaArgsWrong : ChangeSpec := { name := "replicaArgs", fn := fun _ => fun
  | [d1, d2, d3] => { results := [.lit (.bool false)], args := [d1, d2, d3] }
  | _ => none }
def ReplicaArgsWrongFalsely : Prop := replicaArgsRow.holds Try.pinned (OpenSpec.ofChange replicaArgsWrong)

/-- 'annalistlaw08.CollidePrefix': WHATEVER THE INPUT: true; the input reads as it did. -/
def collidePrefixSpec : ChangeSpec := { name := "collidePrefix", fn := fun _ => fun
  | [d1, d2] => { results := [.lit (.bool true)], args := [d1, d2] }
  | _ => none }
def collidePrefixRow : OpenClaim := { program := "ytolapikiflodfaa", sum := "ad96adf333ba1bafa53bf72e805c8a08b2346e8a420f9334066af890ed6d5af1", func := "annalist/annalistlaw08.CollidePrefix", spec := "collidePrefix", unfollowed := true, recurses := true, plainKeys := false, apart := false }
def CollidePrefixSaid : Prop := collidePrefixRow.holds Try.pinned (OpenSpec.ofChange collidePrefixSpec)

/-- ITS FALSE NEIGHBOUR: 'it returns false'. Refute it at one input. -/
def collidePrefixWrong : ChangeSpec := { name := "collidePrefix", fn := fun _ => fun
  | [d1, d2] => { results := [.lit (.bool false)], args := [d1, d2] }
  | _ => none }
def CollidePrefixWrongFalsely : Prop := collidePrefixRow.holds Try.pinned (OpenSpec.ofChange collidePrefixWrong)

/-- 'annalistlaw20.ReplicaCommands': WHATEVER THE INPUT: true; the input reads as it did. -/
def replicaCommandsSpec : ChangeSpec := { name := "replicaCommands", fn := fun _ => fun
  | [d] => { results := [.lit (.bool true)], args := [d] }
  | _ => none }
def replicaCommandsRow : OpenClaim := { program := "ytolapikiflodfaa", sum := "ad96adf333ba1bafa53bf72e805c8a08b2346e8a420f9334066af890ed6d5af1", func := "annalist/annalistlaw20.ReplicaCommands", spec := "replicaCommands", unfollowed := true, recurses := true, plainKeys := false, apart := false }
def ReplicaCommandsSaid : Prop := replicaCommandsRow.holds Try.pinned (OpenSpec.ofChange replicaCommandsSpec)

/-- ITS FALSE NEIGHBOUR: 'it returns false'. Refute it at one input. -/
def replicaCommandsWrong : ChangeSpec := { name := "replicaCommands", fn := fun _ => fun
  | [d] => { results := [.lit (.bool false)], args := [d] }
  | _ => none }
def ReplicaCommandsWrongFalsely : Prop := replicaCommandsRow.holds Try.pinned (OpenSpec.ofChange replicaCommandsWrong)

/- THE SECOND FORM. 'bulk': how many values and letters a reading holds, each counted each time it is reached (what is shared counts as often as it is met; a slice's spare places count too). A statement '..UptoSaid' is the law's where the arguments, and the package variables that the reading takes, are together of bulk at most 1048576: NARROWER than '..Said'. Prove '..Said' where nothing that the law and all that it calls make is longer than what came in: it says more and counts as full. Else prove '..UptoSaid'. A law counts once. -/
mutual
def uptoBulk {H : Type} : DataW H → Nat
  | .lit (.string bytes) => bytes.length + 1
  | .lit _ => 1
  | .nil => 1
  | .ptr d => uptoBulk d + 1
  | .slice elems spare => uptoBulkAll elems + uptoBulkAll spare + 1
  | .agg parts => uptoBulkAll parts + 1
  | .iface _ d => uptoBulk d + 1
  | .map entries => uptoBulkEntries entries + 1
  | .held _ => 1
def uptoBulkAll {H : Type} : List (DataW H) → Nat
  | [] => 0
  | d :: r => uptoBulk d + uptoBulkAll r
def uptoBulkEntries {H : Type} : List (Lit × DataW H) → Nat
  | [] => 0
  | x :: r => uptoBulkEntry x + uptoBulkEntries r
def uptoBulkEntry {H : Type} : Lit × DataW H → Nat
  | (.string bytes, d) => bytes.length + uptoBulk d + 1
  | (_, d) => uptoBulk d + 1
 end
def uptoSmall : (H : Type) → List (DataW H) → Bool := fun _ ds => decide (uptoBulkAll ds ≤ 1048576)
def OpenSpec.upto (s : _root_.Go.ChangeSpec) : _root_.Go.OpenSpec := { _root_.Go.OpenSpec.ofChange s with cond := some uptoSmall }

/-- 'annalistlaw07.TileCovers', WHERE WHAT IT READS IS OF BULK AT MOST 1048576: true; the input reads as it did. -/
def tileCoversUptoRow : OpenClaim := { program := "ytolapikiflodfaa", sum := "ad96adf333ba1bafa53bf72e805c8a08b2346e8a420f9334066af890ed6d5af1", func := "annalist/annalistlaw07.TileCovers", spec := "tileCovers", unfollowed := true, recurses := true, plainKeys := false, apart := false, narrowed := true }
def TileCoversUptoSaid : Prop := tileCoversUptoRow.holds Try.pinned (OpenSpec.upto tileCoversSpec)

/-- 'annalistlaw08.CollideRoots', WHERE WHAT IT READS IS OF BULK AT MOST 1048576: true; the input reads as it did. -/
def collideRootsUptoRow : OpenClaim := { program := "ytolapikiflodfaa", sum := "ad96adf333ba1bafa53bf72e805c8a08b2346e8a420f9334066af890ed6d5af1", func := "annalist/annalistlaw08.CollideRoots", spec := "collideRoots", unfollowed := true, recurses := true, plainKeys := false, apart := false, narrowed := true }
def CollideRootsUptoSaid : Prop := collideRootsUptoRow.holds Try.pinned (OpenSpec.upto collideRootsSpec)

/-- 'annalistlaw07.TileCounts', WHERE WHAT IT READS IS OF BULK AT MOST 1048576: true; the input reads as it did. -/
def tileCountsUptoRow : OpenClaim := { program := "ytolapikiflodfaa", sum := "ad96adf333ba1bafa53bf72e805c8a08b2346e8a420f9334066af890ed6d5af1", func := "annalist/annalistlaw07.TileCounts", spec := "tileCounts", unfollowed := true, recurses := true, plainKeys := false, apart := false, narrowed := true }
def TileCountsUptoSaid : Prop := tileCountsUptoRow.holds Try.pinned (OpenSpec.upto tileCountsSpec)

/-- 'annalistlaw22.NetCodes', WHERE WHAT IT READS IS OF BULK AT MOST 1048576: true; the input reads as it did. -/
def netCodesUptoRow : OpenClaim := { program := "ytolapikiflodfaa", sum := "ad96adf333ba1bafa53bf72e805c8a08b2346e8a420f9334066af890ed6d5af1", func := "annalist/annalistlaw22.NetCodes", spec := "netCodes", plainKeys := false, apart := false, narrowed := true }
def NetCodesUptoSaid : Prop := netCodesUptoRow.holds Try.pinned (OpenSpec.upto netCodesSpec)

/-- 'annalistlaw22.NetReads', WHERE WHAT IT READS IS OF BULK AT MOST 1048576: true; the input reads as it did. -/
def netReadsUptoRow : OpenClaim := { program := "ytolapikiflodfaa", sum := "ad96adf333ba1bafa53bf72e805c8a08b2346e8a420f9334066af890ed6d5af1", func := "annalist/annalistlaw22.NetReads", spec := "netReads", plainKeys := false, apart := false, narrowed := true }
def NetReadsUptoSaid : Prop := netReadsUptoRow.holds Try.pinned (OpenSpec.upto netReadsSpec)

/-- 'annalistlaw08.CollideLeaves', WHERE WHAT IT READS IS OF BULK AT MOST 1048576: true; the input reads as it did. -/
def collideLeavesUptoRow : OpenClaim := { program := "ytolapikiflodfaa", sum := "ad96adf333ba1bafa53bf72e805c8a08b2346e8a420f9334066af890ed6d5af1", func := "annalist/annalistlaw08.CollideLeaves", spec := "collideLeaves", unfollowed := true, recurses := true, plainKeys := false, apart := false, narrowed := true }
def CollideLeavesUptoSaid : Prop := collideLeavesUptoRow.holds Try.pinned (OpenSpec.upto collideLeavesSpec)

/-- 'annalistlaw06.RangesRight', WHERE WHAT IT READS IS OF BULK AT MOST 1048576: true; the input reads as it did. -/
def rangesRightUptoRow : OpenClaim := { program := "ytolapikiflodfaa", sum := "ad96adf333ba1bafa53bf72e805c8a08b2346e8a420f9334066af890ed6d5af1", func := "annalist/annalistlaw06.RangesRight", spec := "rangesRight", unfollowed := true, recurses := true, plainKeys := false, apart := false, narrowed := true }
def RangesRightUptoSaid : Prop := rangesRightUptoRow.holds Try.pinned (OpenSpec.upto rangesRightSpec)

/-- 'annalistlaw08.CollideBoth', WHERE WHAT IT READS IS OF BULK AT MOST 1048576: true; the input reads as it did. -/
def collideBothUptoRow : OpenClaim := { program := "ytolapikiflodfaa", sum := "ad96adf333ba1bafa53bf72e805c8a08b2346e8a420f9334066af890ed6d5af1", func := "annalist/annalistlaw08.CollideBoth", spec := "collideBoth", unfollowed := true, recurses := true, plainKeys := false, apart := false, narrowed := true }
def CollideBothUptoSaid : Prop := collideBothUptoRow.holds Try.pinned (OpenSpec.upto collideBothSpec)

/-- 'annalistlaw20.ReplicaArgs', WHERE WHAT IT READS IS OF BULK AT MOST 1048576: true; the input reads as it did. -/
def replicaArgsUptoRow : OpenClaim := { program := "ytolapikiflodfaa", sum := "ad96adf333ba1bafa53bf72e805c8a08b2346e8a420f9334066af890ed6d5af1", func := "annalist/annalistlaw20.ReplicaArgs", spec := "replicaArgs", unfollowed := true, recurses := true, plainKeys := false, apart := false, narrowed := true }
def ReplicaArgsUptoSaid : Prop := replicaArgsUptoRow.holds Try.pinned (OpenSpec.upto replicaArgsSpec)

/-- 'annalistlaw08.CollidePrefix', WHERE WHAT IT READS IS OF BULK AT MOST 1048576: true; the input reads as it did. -/
def collidePrefixUptoRow : OpenClaim := { program := "ytolapikiflodfaa", sum := "ad96adf333ba1bafa53bf72e805c8a08b2346e8a420f9334066af890ed6d5af1", func := "annalist/annalistlaw08.CollidePrefix", spec := "collidePrefix", unfollowed := true, recurses := true, plainKeys := false, apart := false, narrowed := true }
def CollidePrefixUptoSaid : Prop := collidePrefixUptoRow.holds Try.pinned (OpenSpec.upto collidePrefixSpec)

/-- 'annalistlaw20.ReplicaCommands', WHERE WHAT IT READS IS OF BULK AT MOST 1048576: true; the input reads as it did. -/
def replicaCommandsUptoRow : OpenClaim := { program := "ytolapikiflodfaa", sum := "ad96adf333ba1bafa53bf72e805c8a08b2346e8a420f9334066af890ed6d5af1", func := "annalist/annalistlaw20.ReplicaCommands", spec := "replicaCommands", unfollowed := true, recurses := true, plainKeys := false, apart := false, narrowed := true }
def ReplicaCommandsUptoSaid : Prop := replicaCommandsUptoRow.holds Try.pinned (OpenSpec.upto replicaCommandsSpec)

end Rows
end Go.Proofs.Ytolapikiflodfaa
