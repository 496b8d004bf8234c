/-
  DERIVED. GIVEN WITH THE SEED: THE CARDS: each row of YtpfomnfaemidpaaGreatDoorRows.lean that lists a variable, with what it lists TIED to the program's text (the seventh form; the later family's looks); each row that meets fmt, with fmt's text TOLD by the authors' own Lean function (tested against real Go, not proved from fmt's source: count such statements apart). THE CARD IS WHAT COUNTS. Prove the row's statement (the work); the ties are given (YtpfomnfaemidpaaGreatDoorTie.lean); close each card by the builder's one call (the guide's Derived/Test/ToyasCard.lean, 'card_holds'). Laid BY PROGRAM, IN A SANDBOX (cutbox-door.mjs). By AI agents, Wed Nov 11 2026. No macro, syntax, notation, axiom, sorry.
-/
import Derived.Test.YtpfomnfaemidpaaGreatDoorRows
import GoSem.ClaimSeven
namespace Go.Proofs.YtpfomnfaemidpaaGreatDoor
namespace Rows

/-- THE TIED CARD OF 'ammonitelaw23.PeerRuns'. -/
def peerRunsCard : Claim7 := { stood := { row := peerRunsRow, standIns := [], harness := (true, "390c1bcd38d55d614a1b196b5214b99a3e099d0fcbd2f2fbdb05ceecc973bb56"), looks := true }, kinds := [], alts := [], laidByText := true, laidKinds := [.data, .pinned], laidTests := true, laidLooks := .later }
def PeerRunsCardSaid : Prop := Claim7.holds Tryz.pinned (.plain (OpenSpec.ofChange peerRunsSpec)) peerRunsCard

/-- THE SECOND FORM's CARD OF 'ammonitelaw23.PeerRuns'. -/
def peerRunsUptoCard : Claim7 := { stood := { row := peerRunsUptoRow, standIns := [], harness := (true, "390c1bcd38d55d614a1b196b5214b99a3e099d0fcbd2f2fbdb05ceecc973bb56"), looks := true }, kinds := [], alts := [], laidByText := true, laidKinds := [.data, .pinned], laidTests := true, laidLooks := .later }
def PeerRunsUptoCardSaid : Prop := Claim7.holds Tryz.pinned (.plain (OpenSpec.upto peerRunsSpec)) peerRunsUptoCard
end Rows
end Go.Proofs.YtpfomnfaemidpaaGreatDoor
