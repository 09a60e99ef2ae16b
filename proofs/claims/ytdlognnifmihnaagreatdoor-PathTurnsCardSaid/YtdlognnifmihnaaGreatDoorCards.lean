/-
  DERIVED. GIVEN WITH THE SEED: THE CARDS: each row of YtdlognnifmihnaaGreatDoorRows.lean that lists a variable, with what it lists TIED to the program's text (the seventh form; the later family's looks); each row that meets fmt, with fmt's text TOLD by the authors' own Lean function (tested against real Go, not proved from fmt's source: count such statements apart). THE CARD IS WHAT COUNTS. Prove the row's statement (the work); the ties are given (YtdlognnifmihnaaGreatDoorTie.lean); close each card by the builder's one call (the guide's Derived/Test/ToyasCard.lean, 'card_holds'). Laid BY PROGRAM, IN A SANDBOX (cutbox-door.mjs). By AI agents, Wed Nov 11 2026. No macro, syntax, notation, axiom, sorry.
-/
import Derived.Test.YtdlognnifmihnaaGreatDoorRows
import GoSem.ClaimSeven
namespace Go.Proofs.YtdlognnifmihnaaGreatDoor
namespace Rows

/-- THE TIED CARD OF 'flightdecktop.TopConnected'. -/
def topConnectedCard : Claim7 := { stood := { row := topConnectedRow, standIns := [], harness := (true, "48af961273920a8fbbbaca5c4889dfcfc0e9d3342e2a369d9d3a093d1155eae1"), looks := false }, kinds := [], alts := [], laidByText := true, laidKinds := [.data], laidTests := true, laidLooks := .later }
def TopConnectedCardSaid : Prop := Claim7.holds Tryz.pinned (.plain (OpenSpec.ofChange topConnectedSpec)) topConnectedCard

/-- THE TIED CARD OF 'flightdecklaw27.PathValid'. -/
def pathValidCard : Claim7 := { stood := { row := pathValidRow, standIns := [], harness := (true, "48af961273920a8fbbbaca5c4889dfcfc0e9d3342e2a369d9d3a093d1155eae1"), looks := false }, kinds := [], alts := [], laidByText := true, laidKinds := [.data], laidTests := true, laidLooks := .later }
def PathValidCardSaid : Prop := Claim7.holds Tryz.pinned (.plain (OpenSpec.ofChange pathValidSpec)) pathValidCard

/-- THE TIED CARD OF 'flightdecklaw27.PathTurns'. -/
def pathTurnsCard : Claim7 := { stood := { row := pathTurnsRow, standIns := [], harness := (true, "48af961273920a8fbbbaca5c4889dfcfc0e9d3342e2a369d9d3a093d1155eae1"), looks := false }, kinds := [], alts := [], laidByText := true, laidKinds := [.data], laidTests := true, laidLooks := .later }
def PathTurnsCardSaid : Prop := Claim7.holds Tryz.pinned (.plain (OpenSpec.ofChange pathTurnsSpec)) pathTurnsCard

/-- THE SECOND FORM's CARD OF 'flightdecktop.TopConnected'. -/
def topConnectedUptoCard : Claim7 := { stood := { row := topConnectedUptoRow, standIns := [], harness := (true, "48af961273920a8fbbbaca5c4889dfcfc0e9d3342e2a369d9d3a093d1155eae1"), looks := false }, kinds := [], alts := [], laidByText := true, laidKinds := [.data], laidTests := true, laidLooks := .later }
def TopConnectedUptoCardSaid : Prop := Claim7.holds Tryz.pinned (.plain (OpenSpec.upto topConnectedSpec)) topConnectedUptoCard

/-- THE SECOND FORM's CARD OF 'flightdecklaw27.PathValid'. -/
def pathValidUptoCard : Claim7 := { stood := { row := pathValidUptoRow, standIns := [], harness := (true, "48af961273920a8fbbbaca5c4889dfcfc0e9d3342e2a369d9d3a093d1155eae1"), looks := false }, kinds := [], alts := [], laidByText := true, laidKinds := [.data], laidTests := true, laidLooks := .later }
def PathValidUptoCardSaid : Prop := Claim7.holds Tryz.pinned (.plain (OpenSpec.upto pathValidSpec)) pathValidUptoCard

/-- THE SECOND FORM's CARD OF 'flightdecklaw27.PathTurns'. -/
def pathTurnsUptoCard : Claim7 := { stood := { row := pathTurnsUptoRow, standIns := [], harness := (true, "48af961273920a8fbbbaca5c4889dfcfc0e9d3342e2a369d9d3a093d1155eae1"), looks := false }, kinds := [], alts := [], laidByText := true, laidKinds := [.data], laidTests := true, laidLooks := .later }
def PathTurnsUptoCardSaid : Prop := Claim7.holds Tryz.pinned (.plain (OpenSpec.upto pathTurnsSpec)) pathTurnsUptoCard
end Rows
end Go.Proofs.YtdlognnifmihnaaGreatDoor
