/-
  No cell of these rows narrows 'for every input' (looked for: loops, veiled, ifaces, maps, wideKeys, modest, calm, conditions, laid).
  DERIVED. THE GIVEN ROWS OF THIS SEAT. 11 by the template 'for every input the law returns true; each argument reads behind the call as it read before'; 0 by the template 'total and deterministic' (their statements: YtondnammkcgjpaaTotals.lean).
  GIVEN WITH THE SEED: the statements are not yours to turn. If you find one false, say at which input.
  Laid BY PROGRAM, IN A SANDBOX (cutbox-rows.mjs): the forced cells as the released guide's own fill.sh prints them over the translation 7a9bef18705d9b90… (all of the seat's roots in one cut). By AI agents, Wed Nov 11 2026. No macro, syntax, notation, axiom, sorry.
-/
import Derived.Test.YtondnammkcgjpaaChecked
import GoSem.Claim
import GoSem.ClaimJoined
import GoSem.ClaimMapViews
import Derived.JoinedTies
import Derived.KernelRfl
namespace Go.Proofs.Ytondnammkcgjpaa
/- THE CELL 'sum', in the pinned program and in every row, IS THE sha256 OF THE DUMP (.gsa) THAT YtondnammkcgjpaaProg.lean LOADS. Nothing in Lean hashes anything: it is a label: what it is worth is what the hold of that sum in a sandbox is worth. -/
noncomputable def Try.pinned : Pinned := { name := "ytondnammkcgjpaa", sum := "7a9bef18705d9b902d9c2815247b8c78684e0376bc865431b0e8a27294e515e4", checked := Try.checked }
namespace Rows
def none {H : Type} : Left H := { results := [], args := [] }

/-- 'annalistlaw07.TileSame': WHATEVER THE INPUT: true; the input reads as it did. -/
def tileSameSpec : ChangeSpec := { name := "tileSame", fn := fun _ => fun
  | [d1, d2, d3] => { results := [.lit (.bool true)], args := [d1, d2, d3] }
  | _ => none }
def tileSameRow : OpenClaim := { program := "ytondnammkcgjpaa", sum := "7a9bef18705d9b902d9c2815247b8c78684e0376bc865431b0e8a27294e515e4", func := "annalist/annalistlaw07.TileSame", spec := "tileSame", inPlace := ["internal/abi.NoEscape", "internal/bytealg.MakeNoZero"], unfollowed := true, recurses := true, plainKeys := false, apart := false }
def TileSameSaid : Prop := tileSameRow.holds Try.pinned (OpenSpec.ofChange tileSameSpec)

/-- ITS FALSE NEIGHBOUR: 'it returns false'. Refute it at one input. -/
def tileSameWrong : ChangeSpec := { name := "tileSame", fn := fun _ => fun
  | [d1, d2, d3] => { results := [.lit (.bool false)], args := [d1, d2, d3] }
  | _ => none }
def TileSameWrongFalsely : Prop := tileSameRow.holds Try.pinned (OpenSpec.ofChange tileSameWrong)

/-- 'annalistlaw06.RangesJoins': WHATEVER THE INPUT: true; the input reads as it did. -/
def rangesJoinsSpec : ChangeSpec := { name := "rangesJoins", fn := fun _ => fun
  | [d1, d2] => { results := [.lit (.bool true)], args := [d1, d2] }
  | _ => none }
def rangesJoinsRow : OpenClaim := { program := "ytondnammkcgjpaa", sum := "7a9bef18705d9b902d9c2815247b8c78684e0376bc865431b0e8a27294e515e4", func := "annalist/annalistlaw06.RangesJoins", spec := "rangesJoins", inPlace := ["internal/abi.NoEscape", "internal/bytealg.MakeNoZero"], unfollowed := true, recurses := true, plainKeys := false, apart := false }
def RangesJoinsSaid : Prop := rangesJoinsRow.holds Try.pinned (OpenSpec.ofChange rangesJoinsSpec)

/-- ITS FALSE NEIGHBOUR: 'it returns false'. Refute it at one input. -/
def rangesJoinsWrong : ChangeSpec := { name := "rangesJoins", fn := fun _ => fun
  | [d1, d2] => { results := [.lit (.bool false)], args := [d1, d2] }
  | _ => none }
def RangesJoinsWrongFalsely : Prop := rangesJoinsRow.holds Try.pinned (OpenSpec.ofChange rangesJoinsWrong)

/-- 'annalistlaw07.TileCuts': WHATEVER THE INPUT: true; the input reads as it did. -/
def tileCutsSpec : ChangeSpec := { name := "tileCuts", fn := fun _ => fun
  | [d1, d2, d3] => { results := [.lit (.bool true)], args := [d1, d2, d3] }
  | _ => none }
def tileCutsRow : OpenClaim := { program := "ytondnammkcgjpaa", sum := "7a9bef18705d9b902d9c2815247b8c78684e0376bc865431b0e8a27294e515e4", func := "annalist/annalistlaw07.TileCuts", spec := "tileCuts", inPlace := ["internal/abi.NoEscape", "internal/bytealg.MakeNoZero"], unfollowed := true, recurses := true, plainKeys := false, apart := false }
def TileCutsSaid : Prop := tileCutsRow.holds Try.pinned (OpenSpec.ofChange tileCutsSpec)

/-- ITS FALSE NEIGHBOUR: 'it returns false'. Refute it at one input. -/
def tileCutsWrong : ChangeSpec := { name := "tileCuts", fn := fun _ => fun
  | [d1, d2, d3] => { results := [.lit (.bool false)], args := [d1, d2, d3] }
  | _ => none }
def TileCutsWrongFalsely : Prop := tileCutsRow.holds Try.pinned (OpenSpec.ofChange tileCutsWrong)

/-- 'annalistlaw06.RangesAdds': WHATEVER THE INPUT: true; the input reads as it did. -/
def rangesAddsSpec : ChangeSpec := { name := "rangesAdds", fn := fun _ => fun
  | [d] => { results := [.lit (.bool true)], args := [d] }
  | _ => none }
def rangesAddsRow : OpenClaim := { program := "ytondnammkcgjpaa", sum := "7a9bef18705d9b902d9c2815247b8c78684e0376bc865431b0e8a27294e515e4", func := "annalist/annalistlaw06.RangesAdds", spec := "rangesAdds", inPlace := ["internal/abi.NoEscape", "internal/bytealg.MakeNoZero"], unfollowed := true, recurses := true, plainKeys := false, apart := false }
def RangesAddsSaid : Prop := rangesAddsRow.holds Try.pinned (OpenSpec.ofChange rangesAddsSpec)

/-- ITS FALSE NEIGHBOUR: 'it returns false'. Refute it at one input. -/
def rangesAddsWrong : ChangeSpec := { name := "rangesAdds", fn := fun _ => fun
  | [d] => { results := [.lit (.bool false)], args := [d] }
  | _ => none }
def RangesAddsWrongFalsely : Prop := rangesAddsRow.holds Try.pinned (OpenSpec.ofChange rangesAddsWrong)

/-- 'annalistlaw06.RangesRoots': WHATEVER THE INPUT: true; the input reads as it did. -/
def rangesRootsSpec : ChangeSpec := { name := "rangesRoots", fn := fun _ => fun
  | [d1, d2] => { results := [.lit (.bool true)], args := [d1, d2] }
  | _ => none }
def rangesRootsRow : OpenClaim := { program := "ytondnammkcgjpaa", sum := "7a9bef18705d9b902d9c2815247b8c78684e0376bc865431b0e8a27294e515e4", func := "annalist/annalistlaw06.RangesRoots", spec := "rangesRoots", inPlace := ["internal/abi.NoEscape", "internal/bytealg.MakeNoZero"], unfollowed := true, recurses := true, plainKeys := false, apart := false }
def RangesRootsSaid : Prop := rangesRootsRow.holds Try.pinned (OpenSpec.ofChange rangesRootsSpec)

/-- ITS FALSE NEIGHBOUR: 'it returns false'. Refute it at one input. -/
def rangesRootsWrong : ChangeSpec := { name := "rangesRoots", fn := fun _ => fun
  | [d1, d2] => { results := [.lit (.bool false)], args := [d1, d2] }
  | _ => none }
def RangesRootsWrongFalsely : Prop := rangesRootsRow.holds Try.pinned (OpenSpec.ofChange rangesRootsWrong)

/-- 'annalistlaw21.FetchGives': WHATEVER THE INPUT: true; the input reads as it did. -/
def fetchGivesSpec : ChangeSpec := { name := "fetchGives", fn := fun _ => fun
  | [d1, d2, d3] => { results := [.lit (.bool true)], args := [d1, d2, d3] }
  | _ => none }
def fetchGivesRow : OpenClaim := { program := "ytondnammkcgjpaa", sum := "7a9bef18705d9b902d9c2815247b8c78684e0376bc865431b0e8a27294e515e4", func := "annalist/annalistlaw21.FetchGives", spec := "fetchGives", inPlace := ["internal/abi.NoEscape", "internal/bytealg.MakeNoZero"], unfollowed := true, recurses := true, plainKeys := false, apart := false }
def FetchGivesSaid : Prop := fetchGivesRow.holds Try.pinned (OpenSpec.ofChange fetchGivesSpec)

/-- ITS FALSE NEIGHBOUR: 'it returns false'. Refute it at one input. -/
def fetchGivesWrong : ChangeSpec := { name := "fetchGives", fn := fun _ => fun
  | [d1, d2, d3] => { results := [.lit (.bool false)], args := [d1, d2, d3] }
  | _ => none }
def FetchGivesWrongFalsely : Prop := fetchGivesRow.holds Try.pinned (OpenSpec.ofChange fetchGivesWrong)

/-- 'annalistlaw06.RangesOf': WHATEVER THE INPUT: true; the input reads as it did. -/
def rangesOfSpec : ChangeSpec := { name := "rangesOf", fn := fun _ => fun
  | [d] => { results := [.lit (.bool true)], args := [d] }
  | _ => none }
def rangesOfRow : OpenClaim := { program := "ytondnammkcgjpaa", sum := "7a9bef18705d9b902d9c2815247b8c78684e0376bc865431b0e8a27294e515e4", func := "annalist/annalistlaw06.RangesOf", spec := "rangesOf", inPlace := ["internal/abi.NoEscape", "internal/bytealg.MakeNoZero"], unfollowed := true, recurses := true, plainKeys := false, apart := false }
def RangesOfSaid : Prop := rangesOfRow.holds Try.pinned (OpenSpec.ofChange rangesOfSpec)

/-- ITS FALSE NEIGHBOUR: 'it returns false'. Refute it at one input. -/
def rangesOfWrong : ChangeSpec := { name := "rangesOf", fn := fun _ => fun
  | [d] => { results := [.lit (.bool false)], args := [d] }
  | _ => none }
def RangesOfWrongFalsely : Prop := rangesOfRow.holds Try.pinned (OpenSpec.ofChange rangesOfWrong)

/-- 'annalistlaw21.FetchArgs': WHATEVER THE INPUT: true; the input reads as it did. -/
def fetchArgsSpec : ChangeSpec := { name := "fetchArgs", fn := fun _ => fun
  | [d1, d2, d3] => { results := [.lit (.bool true)], args := [d1, d2, d3] }
  | _ => none }
def fetchArgsRow : OpenClaim := { program := "ytondnammkcgjpaa", sum := "7a9bef18705d9b902d9c2815247b8c78684e0376bc865431b0e8a27294e515e4", func := "annalist/annalistlaw21.FetchArgs", spec := "fetchArgs", inPlace := ["internal/abi.NoEscape", "internal/bytealg.MakeNoZero"], unfollowed := true, recurses := true, plainKeys := false, apart := false }
def FetchArgsSaid : Prop := fetchArgsRow.holds Try.pinned (OpenSpec.ofChange fetchArgsSpec)

/-- ITS FALSE NEIGHBOUR: 'it returns false'. Refute it at one input. -/
def fetchArgsWrong : ChangeSpec := { name := "fetchArgs", fn := fun _ => fun
  | [d1, d2, d3] => { results := [.lit (.bool false)], args := [d1, d2, d3] }
  | _ => none }
def FetchArgsWrongFalsely : Prop := fetchArgsRow.holds Try.pinned (OpenSpec.ofChange fetchArgsWrong)

/-- 'annalistlaw21.FetchOnly': WHATEVER THE INPUT: true; the input reads as it did. -/
def fetchOnlySpec : ChangeSpec := { name := "fetchOnly", fn := fun _ => fun
  | [d1, d2, d3] => { results := [.lit (.bool true)], args := [d1, d2, d3] }
  | _ => none }
def fetchOnlyRow : OpenClaim := { program := "ytondnammkcgjpaa", sum := "7a9bef18705d9b902d9c2815247b8c78684e0376bc865431b0e8a27294e515e4", func := "annalist/annalistlaw21.FetchOnly", spec := "fetchOnly", inPlace := ["internal/abi.NoEscape", "internal/bytealg.MakeNoZero"], unfollowed := true, recurses := true, plainKeys := false, apart := false }
def FetchOnlySaid : Prop := fetchOnlyRow.holds Try.pinned (OpenSpec.ofChange fetchOnlySpec)

/-- ITS FALSE NEIGHBOUR: 'it returns false'. Refute it at one input. -/
def fetchOnlyWrong : ChangeSpec := { name := "fetchOnly", fn := fun _ => fun
  | [d1, d2, d3] => { results := [.lit (.bool false)], args := [d1, d2, d3] }
  | _ => none }
def FetchOnlyWrongFalsely : Prop := fetchOnlyRow.holds Try.pinned (OpenSpec.ofChange fetchOnlyWrong)

/-- 'annalistlaw21.FetchAll': WHATEVER THE INPUT: true; the input reads as it did. -/
def fetchAllSpec : ChangeSpec := { name := "fetchAll", fn := fun _ => fun
  | [d] => { results := [.lit (.bool true)], args := [d] }
  | _ => none }
def fetchAllRow : OpenClaim := { program := "ytondnammkcgjpaa", sum := "7a9bef18705d9b902d9c2815247b8c78684e0376bc865431b0e8a27294e515e4", func := "annalist/annalistlaw21.FetchAll", spec := "fetchAll", inPlace := ["internal/abi.NoEscape", "internal/bytealg.MakeNoZero"], unfollowed := true, recurses := true, plainKeys := false, apart := false }
def FetchAllSaid : Prop := fetchAllRow.holds Try.pinned (OpenSpec.ofChange fetchAllSpec)

/-- ITS FALSE NEIGHBOUR: 'it returns false'. Refute it at one input. -/
def fetchAllWrong : ChangeSpec := { name := "fetchAll", fn := fun _ => fun
  | [d] => { results := [.lit (.bool false)], args := [d] }
  | _ => none }
def FetchAllWrongFalsely : Prop := fetchAllRow.holds Try.pinned (OpenSpec.ofChange fetchAllWrong)

/-- 'annalistlaw21.FetchBad': WHATEVER THE INPUT: true; the input reads as it did. -/
def fetchBadSpec : ChangeSpec := { name := "fetchBad", fn := fun _ => fun
  | [d1, d2] => { results := [.lit (.bool true)], args := [d1, d2] }
  | _ => none }
def fetchBadRow : OpenClaim := { program := "ytondnammkcgjpaa", sum := "7a9bef18705d9b902d9c2815247b8c78684e0376bc865431b0e8a27294e515e4", func := "annalist/annalistlaw21.FetchBad", spec := "fetchBad", inPlace := ["internal/abi.NoEscape", "internal/bytealg.MakeNoZero"], unfollowed := true, recurses := true, plainKeys := false, apart := false }
def FetchBadSaid : Prop := fetchBadRow.holds Try.pinned (OpenSpec.ofChange fetchBadSpec)

/-- ITS FALSE NEIGHBOUR: 'it returns false'. Refute it at one input. -/
def fetchBadWrong : ChangeSpec := { name := "fetchBad", fn := fun _ => fun
  | [d1, d2] => { results := [.lit (.bool false)], args := [d1, d2] }
  | _ => none }
def FetchBadWrongFalsely : Prop := fetchBadRow.holds Try.pinned (OpenSpec.ofChange fetchBadWrong)

/- THE SECOND FORM. 'bulk': how many values and letters a reading holds, each counted each time it is reached (what is shared counts as often as it is met; a slice's spare places count too). A statement '..UptoSaid' is the law's where the arguments, and the package variables that the reading takes, are together of bulk at most 1048576: NARROWER than '..Said'. Prove '..Said' where nothing that the law and all that it calls make is longer than what came in: it says more and counts as full. Else prove '..UptoSaid'. A law counts once. -/
mutual
def uptoBulk {H : Type} : DataW H → Nat
  | .lit (.string bytes) => bytes.length + 1
  | .lit _ => 1
  | .nil => 1
  | .ptr d => uptoBulk d + 1
  | .slice elems spare => uptoBulkAll elems + uptoBulkAll spare + 1
  | .agg parts => uptoBulkAll parts + 1
  | .iface _ d => uptoBulk d + 1
  | .map entries => uptoBulkEntries entries + 1
  | .held _ => 1
def uptoBulkAll {H : Type} : List (DataW H) → Nat
  | [] => 0
  | d :: r => uptoBulk d + uptoBulkAll r
def uptoBulkEntries {H : Type} : List (Lit × DataW H) → Nat
  | [] => 0
  | x :: r => uptoBulkEntry x + uptoBulkEntries r
def uptoBulkEntry {H : Type} : Lit × DataW H → Nat
  | (.string bytes, d) => bytes.length + uptoBulk d + 1
  | (_, d) => uptoBulk d + 1
 end
def uptoSmall : (H : Type) → List (DataW H) → Bool := fun _ ds => decide (uptoBulkAll ds ≤ 1048576)
def OpenSpec.upto (s : _root_.Go.ChangeSpec) : _root_.Go.OpenSpec := { _root_.Go.OpenSpec.ofChange s with cond := some uptoSmall }

/-- 'annalistlaw07.TileSame', WHERE WHAT IT READS IS OF BULK AT MOST 1048576: true; the input reads as it did. -/
def tileSameUptoRow : OpenClaim := { program := "ytondnammkcgjpaa", sum := "7a9bef18705d9b902d9c2815247b8c78684e0376bc865431b0e8a27294e515e4", func := "annalist/annalistlaw07.TileSame", spec := "tileSame", inPlace := ["internal/abi.NoEscape", "internal/bytealg.MakeNoZero"], unfollowed := true, recurses := true, plainKeys := false, apart := false, narrowed := true }
def TileSameUptoSaid : Prop := tileSameUptoRow.holds Try.pinned (OpenSpec.upto tileSameSpec)

/-- 'annalistlaw06.RangesJoins', WHERE WHAT IT READS IS OF BULK AT MOST 1048576: true; the input reads as it did. -/
def rangesJoinsUptoRow : OpenClaim := { program := "ytondnammkcgjpaa", sum := "7a9bef18705d9b902d9c2815247b8c78684e0376bc865431b0e8a27294e515e4", func := "annalist/annalistlaw06.RangesJoins", spec := "rangesJoins", inPlace := ["internal/abi.NoEscape", "internal/bytealg.MakeNoZero"], unfollowed := true, recurses := true, plainKeys := false, apart := false, narrowed := true }
def RangesJoinsUptoSaid : Prop := rangesJoinsUptoRow.holds Try.pinned (OpenSpec.upto rangesJoinsSpec)

/-- 'annalistlaw07.TileCuts', WHERE WHAT IT READS IS OF BULK AT MOST 1048576: true; the input reads as it did. -/
def tileCutsUptoRow : OpenClaim := { program := "ytondnammkcgjpaa", sum := "7a9bef18705d9b902d9c2815247b8c78684e0376bc865431b0e8a27294e515e4", func := "annalist/annalistlaw07.TileCuts", spec := "tileCuts", inPlace := ["internal/abi.NoEscape", "internal/bytealg.MakeNoZero"], unfollowed := true, recurses := true, plainKeys := false, apart := false, narrowed := true }
def TileCutsUptoSaid : Prop := tileCutsUptoRow.holds Try.pinned (OpenSpec.upto tileCutsSpec)

/-- 'annalistlaw06.RangesAdds', WHERE WHAT IT READS IS OF BULK AT MOST 1048576: true; the input reads as it did. -/
def rangesAddsUptoRow : OpenClaim := { program := "ytondnammkcgjpaa", sum := "7a9bef18705d9b902d9c2815247b8c78684e0376bc865431b0e8a27294e515e4", func := "annalist/annalistlaw06.RangesAdds", spec := "rangesAdds", inPlace := ["internal/abi.NoEscape", "internal/bytealg.MakeNoZero"], unfollowed := true, recurses := true, plainKeys := false, apart := false, narrowed := true }
def RangesAddsUptoSaid : Prop := rangesAddsUptoRow.holds Try.pinned (OpenSpec.upto rangesAddsSpec)

/-- 'annalistlaw06.RangesRoots', WHERE WHAT IT READS IS OF BULK AT MOST 1048576: true; the input reads as it did. -/
def rangesRootsUptoRow : OpenClaim := { program := "ytondnammkcgjpaa", sum := "7a9bef18705d9b902d9c2815247b8c78684e0376bc865431b0e8a27294e515e4", func := "annalist/annalistlaw06.RangesRoots", spec := "rangesRoots", inPlace := ["internal/abi.NoEscape", "internal/bytealg.MakeNoZero"], unfollowed := true, recurses := true, plainKeys := false, apart := false, narrowed := true }
def RangesRootsUptoSaid : Prop := rangesRootsUptoRow.holds Try.pinned (OpenSpec.upto rangesRootsSpec)

/-- 'annalistlaw21.FetchGives', WHERE WHAT IT READS IS OF BULK AT MOST 1048576: true; the input reads as it did. -/
def fetchGivesUptoRow : OpenClaim := { program := "ytondnammkcgjpaa", sum := "7a9bef18705d9b902d9c2815247b8c78684e0376bc865431b0e8a27294e515e4", func := "annalist/annalistlaw21.FetchGives", spec := "fetchGives", inPlace := ["internal/abi.NoEscape", "internal/bytealg.MakeNoZero"], unfollowed := true, recurses := true, plainKeys := false, apart := false, narrowed := true }
def FetchGivesUptoSaid : Prop := fetchGivesUptoRow.holds Try.pinned (OpenSpec.upto fetchGivesSpec)

/-- 'annalistlaw06.RangesOf', WHERE WHAT IT READS IS OF BULK AT MOST 1048576: true; the input reads as it did. -/
def rangesOfUptoRow : OpenClaim := { program := "ytondnammkcgjpaa", sum := "7a9bef18705d9b902d9c2815247b8c78684e0376bc865431b0e8a27294e515e4", func := "annalist/annalistlaw06.RangesOf", spec := "rangesOf", inPlace := ["internal/abi.NoEscape", "internal/bytealg.MakeNoZero"], unfollowed := true, recurses := true, plainKeys := false, apart := false, narrowed := true }
def RangesOfUptoSaid : Prop := rangesOfUptoRow.holds Try.pinned (OpenSpec.upto rangesOfSpec)

/-- 'annalistlaw21.FetchArgs', WHERE WHAT IT READS IS OF BULK AT MOST 1048576: true; the input reads as it did. -/
def fetchArgsUptoRow : OpenClaim := { program := "ytondnammkcgjpaa", sum := "7a9bef18705d9b902d9c2815247b8c78684e0376bc865431b0e8a27294e515e4", func := "annalist/annalistlaw21.FetchArgs", spec := "fetchArgs", inPlace := ["internal/abi.NoEscape", "internal/bytealg.MakeNoZero"], unfollowed := true, recurses := true, plainKeys := false, apart := false, narrowed := true }
def FetchArgsUptoSaid : Prop := fetchArgsUptoRow.holds Try.pinned (OpenSpec.upto fetchArgsSpec)

/-- 'annalistlaw21.FetchOnly', WHERE WHAT IT READS IS OF BULK AT MOST 1048576: true; the input reads as it did. -/
def fetchOnlyUptoRow : OpenClaim := { program := "ytondnammkcgjpaa", sum := "7a9bef18705d9b902d9c2815247b8c78684e0376bc865431b0e8a27294e515e4", func := "annalist/annalistlaw21.FetchOnly", spec := "fetchOnly", inPlace := ["internal/abi.NoEscape", "internal/bytealg.MakeNoZero"], unfollowed := true, recurses := true, plainKeys := false, apart := false, narrowed := true }
def FetchOnlyUptoSaid : Prop := fetchOnlyUptoRow.holds Try.pinned (OpenSpec.upto fetchOnlySpec)

/-- 'annalistlaw21.FetchAll', WHERE WHAT IT READS IS OF BULK AT MOST 1048576: true; the input reads as it did. -/
def fetchAllUptoRow : OpenClaim := { program := "ytondnammkcgjpaa", sum := "7a9bef18705d9b902d9c2815247b8c78684e0376bc865431b0e8a27294e515e4", func := "annalist/annalistlaw21.FetchAll", spec := "fetchAll", inPlace := ["internal/abi.NoEscape", "internal/bytealg.MakeNoZero"], unfollowed := true, recurses := true, plainKeys := false, apart := false, narrowed := true }
def FetchAllUptoSaid : Prop := fetchAllUptoRow.holds Try.pinned (OpenSpec.upto fetchAllSpec)

/-- 'annalistlaw21.FetchBad', WHERE WHAT IT READS IS OF BULK AT MOST 1048576: true; the input reads as it did. -/
def fetchBadUptoRow : OpenClaim := { program := "ytondnammkcgjpaa", sum := "7a9bef18705d9b902d9c2815247b8c78684e0376bc865431b0e8a27294e515e4", func := "annalist/annalistlaw21.FetchBad", spec := "fetchBad", inPlace := ["internal/abi.NoEscape", "internal/bytealg.MakeNoZero"], unfollowed := true, recurses := true, plainKeys := false, apart := false, narrowed := true }
def FetchBadUptoSaid : Prop := fetchBadUptoRow.holds Try.pinned (OpenSpec.upto fetchBadSpec)

end Rows
end Go.Proofs.Ytondnammkcgjpaa
