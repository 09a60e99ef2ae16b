/-
  DERIVED. GIVEN WITH THE SEED: THE CARDS: each row of YtiegohjobhehcaaGreatDoorRows.lean that lists a variable, with what it lists TIED to the program's text (the seventh form; the later family's looks); each row that meets fmt, with fmt's text TOLD by the authors' own Lean function (tested against real Go, not proved from fmt's source: count such statements apart). THE CARD IS WHAT COUNTS. Prove the row's statement (the work); the ties are given (YtiegohjobhehcaaGreatDoorTie.lean); close each card by the builder's one call (the guide's Derived/Test/ToyasCard.lean, 'card_holds'). Laid BY PROGRAM, IN A SANDBOX (cutbox-door.mjs). By AI agents, Wed Nov 11 2026. No macro, syntax, notation, axiom, sorry.
-/
import Derived.Test.YtiegohjobhehcaaGreatDoorRows
import GoSem.ClaimSeven
namespace Go.Proofs.YtiegohjobhehcaaGreatDoor
namespace Rows

/-- THE TIED CARD OF 'flightdecktop.TopRails'. -/
def topRailsCard : Claim7 := { stood := { row := topRailsRow, standIns := [], harness := (true, "75d2b41545610a86f83ef5750f49acc7bd968662576062715294018967cd893b"), looks := false }, kinds := [], alts := [], laidByText := true, laidKinds := [.data], laidTests := true, laidLooks := .later }
def TopRailsCardSaid : Prop := Claim7.holds Tryz.pinned (.plain (OpenSpec.ofChange topRailsSpec)) topRailsCard

/-- THE SECOND FORM's CARD OF 'flightdecktop.TopRails'. -/
def topRailsUptoCard : Claim7 := { stood := { row := topRailsUptoRow, standIns := [], harness := (true, "75d2b41545610a86f83ef5750f49acc7bd968662576062715294018967cd893b"), looks := false }, kinds := [], alts := [], laidByText := true, laidKinds := [.data], laidTests := true, laidLooks := .later }
def TopRailsUptoCardSaid : Prop := Claim7.holds Tryz.pinned (.plain (OpenSpec.upto topRailsSpec)) topRailsUptoCard
end Rows
end Go.Proofs.YtiegohjobhehcaaGreatDoor
