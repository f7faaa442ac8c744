/-
  DERIVED. GIVEN WITH THE SEED: THE CARDS: each row of YtjianicbagcekaaGreatDoorRows.lean that lists a variable, with what it lists TIED to the program's text (the seventh form; the later family's looks); each row that meets fmt, with fmt's text TOLD by the authors' own Lean function (tested against real Go, not proved from fmt's source: count such statements apart). THE CARD IS WHAT COUNTS. Prove the row's statement (the work); the ties are given (YtjianicbagcekaaGreatDoorTie.lean); close each card by the builder's one call (the guide's Derived/Test/ToyasCard.lean, 'card_holds'). Laid BY PROGRAM, IN A SANDBOX (cutbox-door.mjs). By AI agents, Wed Nov 11 2026. No macro, syntax, notation, axiom, sorry.
-/
import Derived.Test.YtjianicbagcekaaGreatDoorRows
import GoSem.ClaimSeven
namespace Go.Proofs.YtjianicbagcekaaGreatDoor
namespace Rows

/-- THE TIED CARD OF 'pairinglaw43.ConsoleLimits'. -/
def consoleLimitsCard : Claim7 := { stood := { row := consoleLimitsRow, standIns := [], harness := (true, "e3866fd08e92a8cbcd812e1a0c669cb12a40fb3852ef0e0c4c36090888b0d9b3"), looks := false }, kinds := [], alts := [], laidByText := true, laidKinds := [.pinned, .data, .data, .data, .data], laidTests := true, laidLooks := .later }
def ConsoleLimitsCardSaid : Prop := Claim7.holds Tryz.pinned (.plain (OpenSpec.ofChange consoleLimitsSpec)) consoleLimitsCard

/-- THE SECOND FORM's CARD OF 'pairinglaw43.ConsoleLimits'. -/
def consoleLimitsUptoCard : Claim7 := { stood := { row := consoleLimitsUptoRow, standIns := [], harness := (true, "e3866fd08e92a8cbcd812e1a0c669cb12a40fb3852ef0e0c4c36090888b0d9b3"), looks := false }, kinds := [], alts := [], laidByText := true, laidKinds := [.pinned, .data, .data, .data, .data], laidTests := true, laidLooks := .later }
def ConsoleLimitsUptoCardSaid : Prop := Claim7.holds Tryz.pinned (.plain (OpenSpec.upto consoleLimitsSpec)) consoleLimitsUptoCard
end Rows
end Go.Proofs.YtjianicbagcekaaGreatDoor
