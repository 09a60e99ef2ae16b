/-
  DERIVED. GIVEN WITH THE SEED: THE CARDS: each row of YtcgpbnlhnafhjaaGreatDoorRows.lean that lists a variable, with what it lists TIED to the program's text (the seventh form; the later family's looks); each row that meets fmt, with fmt's text TOLD by the authors' own Lean function (tested against real Go, not proved from fmt's source: count such statements apart). THE CARD IS WHAT COUNTS. Prove the row's statement (the work); the ties are given (YtcgpbnlhnafhjaaGreatDoorTie.lean); close each card by the builder's one call (the guide's Derived/Test/ToyasCard.lean, 'card_holds'). Laid BY PROGRAM, IN A SANDBOX (cutbox-door.mjs). By AI agents, Wed Nov 11 2026. No macro, syntax, notation, axiom, sorry.
-/
import Derived.Test.YtcgpbnlhnafhjaaGreatDoorRows
import GoSem.ClaimSeven
namespace Go.Proofs.YtcgpbnlhnafhjaaGreatDoor
namespace Rows

/-- THE TIED CARD OF 'flightdecklaw27.PathBuilds'. -/
def pathBuildsCard : Claim7 := { stood := { row := pathBuildsRow, standIns := [], harness := (true, "d2d571a57f87c75ea145723de4373c040b5a72a144e181388a3903e80b34ad12"), looks := false }, kinds := [], alts := [], laidByText := true, laidKinds := [.data], laidTests := true, laidLooks := .later }
def PathBuildsCardSaid : Prop := Claim7.holds Tryz.pinned (.plain (OpenSpec.ofChange pathBuildsSpec)) pathBuildsCard

/-- THE SECOND FORM's CARD OF 'flightdecklaw27.PathBuilds'. -/
def pathBuildsUptoCard : Claim7 := { stood := { row := pathBuildsUptoRow, standIns := [], harness := (true, "d2d571a57f87c75ea145723de4373c040b5a72a144e181388a3903e80b34ad12"), looks := false }, kinds := [], alts := [], laidByText := true, laidKinds := [.data], laidTests := true, laidLooks := .later }
def PathBuildsUptoCardSaid : Prop := Claim7.holds Tryz.pinned (.plain (OpenSpec.upto pathBuildsSpec)) pathBuildsUptoCard
end Rows
end Go.Proofs.YtcgpbnlhnafhjaaGreatDoor
