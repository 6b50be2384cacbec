/-
  DERIVED. GIVEN WITH THE SEED: THE CARDS: each row of YtpflopenjbealaaDoorRows.lean that lists a variable, with what it lists TIED to the program's text (the seventh form; the later family's looks); each row that meets fmt, with fmt's text TOLD by the authors' own Lean function (tested against real Go, not proved from fmt's source: count such statements apart). THE CARD IS WHAT COUNTS. Prove the row's statement (the work); the ties are given (YtpflopenjbealaaDoorTie.lean); close each card by the builder's one call (the guide's Derived/Test/ToyasCard.lean, 'card_holds'). Laid BY PROGRAM, IN A SANDBOX (cutbox-door.mjs). By AI agents, Wed Nov 11 2026. No macro, syntax, notation, axiom, sorry.
-/
import Derived.Test.YtpflopenjbealaaDoorRows
import GoSem.ClaimSeven
namespace Go.Proofs.YtpflopenjbealaaDoor
namespace Rows

/-- THE TIED CARD OF 'annalistlaw16.VoteShares'. -/
def voteSharesCard : Claim7 := { stood := { row := voteSharesRow, standIns := [], harness := (true, "9bf0c29c05f61e52cdc6b59ee93dc82a21fc986466d42ff0f310d16f39de0a52"), looks := false }, kinds := [], alts := [], laidByText := true, laidKinds := [.data], laidTests := true, laidLooks := .later }
def VoteSharesCardSaid : Prop := Claim7.holds Tryd.pinned (.plain (OpenSpec.ofChange voteSharesSpec)) voteSharesCard

/-- THE SECOND FORM's CARD OF 'annalistlaw16.VoteShares'. -/
def voteSharesUptoCard : Claim7 := { stood := { row := voteSharesUptoRow, standIns := [], harness := (true, "9bf0c29c05f61e52cdc6b59ee93dc82a21fc986466d42ff0f310d16f39de0a52"), looks := false }, kinds := [], alts := [], laidByText := true, laidKinds := [.data], laidTests := true, laidLooks := .later }
def VoteSharesUptoCardSaid : Prop := Claim7.holds Tryd.pinned (.plain (OpenSpec.upto voteSharesSpec)) voteSharesUptoCard
end Rows
end Go.Proofs.YtpflopenjbealaaDoor
