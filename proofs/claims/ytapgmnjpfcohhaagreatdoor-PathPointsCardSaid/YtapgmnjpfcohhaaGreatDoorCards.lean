/-
  DERIVED. GIVEN WITH THE SEED: THE CARDS: each row of YtapgmnjpfcohhaaGreatDoorRows.lean that lists a variable, with what it lists TIED to the program's text (the seventh form; the later family's looks); each row that meets fmt, with fmt's text TOLD by the authors' own Lean function (tested against real Go, not proved from fmt's source: count such statements apart). THE CARD IS WHAT COUNTS. Prove the row's statement (the work); the ties are given (YtapgmnjpfcohhaaGreatDoorTie.lean); close each card by the builder's one call (the guide's Derived/Test/ToyasCard.lean, 'card_holds'). Laid BY PROGRAM, IN A SANDBOX (cutbox-door.mjs). By AI agents, Wed Nov 11 2026. No macro, syntax, notation, axiom, sorry.
-/
import Derived.Test.YtapgmnjpfcohhaaGreatDoorRows
import GoSem.ClaimSeven
namespace Go.Proofs.YtapgmnjpfcohhaaGreatDoor
namespace Rows

/-- THE TIED CARD OF 'flightdecklaw27.PathChecks'. -/
def pathChecksCard : Claim7 := { stood := { row := pathChecksRow, standIns := [], harness := (true, "8fcd1720e808dcf81e7c8d368e63b9c54fd1e65a24def0992d17f224b10374e8"), looks := false }, kinds := [], alts := [], laidByText := true, laidKinds := [.data], laidTests := true, laidLooks := .later }
def PathChecksCardSaid : Prop := Claim7.holds Tryz.pinned (.plain (OpenSpec.ofChange pathChecksSpec)) pathChecksCard

/-- THE TIED CARD OF 'flightdecklaw27.PathNodes'. -/
def pathNodesCard : Claim7 := { stood := { row := pathNodesRow, standIns := [], harness := (true, "8fcd1720e808dcf81e7c8d368e63b9c54fd1e65a24def0992d17f224b10374e8"), looks := false }, kinds := [], alts := [], laidByText := true, laidKinds := [.data], laidTests := true, laidLooks := .later }
def PathNodesCardSaid : Prop := Claim7.holds Tryz.pinned (.plain (OpenSpec.ofChange pathNodesSpec)) pathNodesCard

/-- THE TIED CARD OF 'flightdecklaw27.PathPoints'. -/
def pathPointsCard : Claim7 := { stood := { row := pathPointsRow, standIns := [], harness := (true, "8fcd1720e808dcf81e7c8d368e63b9c54fd1e65a24def0992d17f224b10374e8"), looks := false }, kinds := [], alts := [], laidByText := true, laidKinds := [.data], laidTests := true, laidLooks := .later }
def PathPointsCardSaid : Prop := Claim7.holds Tryz.pinned (.plain (OpenSpec.ofChange pathPointsSpec)) pathPointsCard

/-- THE TIED CARD OF 'flightdecklaw27.PathEnds'. -/
def pathEndsCard : Claim7 := { stood := { row := pathEndsRow, standIns := [], harness := (true, "8fcd1720e808dcf81e7c8d368e63b9c54fd1e65a24def0992d17f224b10374e8"), looks := false }, kinds := [], alts := [], laidByText := true, laidKinds := [.data], laidTests := true, laidLooks := .later }
def PathEndsCardSaid : Prop := Claim7.holds Tryz.pinned (.plain (OpenSpec.ofChange pathEndsSpec)) pathEndsCard

/-- THE TIED CARD OF 'flightdecklaw27.PathLocates'. -/
def pathLocatesCard : Claim7 := { stood := { row := pathLocatesRow, standIns := [], harness := (true, "8fcd1720e808dcf81e7c8d368e63b9c54fd1e65a24def0992d17f224b10374e8"), looks := false }, kinds := [], alts := [], laidByText := true, laidKinds := [.data], laidTests := true, laidLooks := .later }
def PathLocatesCardSaid : Prop := Claim7.holds Tryz.pinned (.plain (OpenSpec.ofChange pathLocatesSpec)) pathLocatesCard

/-- THE SECOND FORM's CARD OF 'flightdecklaw27.PathChecks'. -/
def pathChecksUptoCard : Claim7 := { stood := { row := pathChecksUptoRow, standIns := [], harness := (true, "8fcd1720e808dcf81e7c8d368e63b9c54fd1e65a24def0992d17f224b10374e8"), looks := false }, kinds := [], alts := [], laidByText := true, laidKinds := [.data], laidTests := true, laidLooks := .later }
def PathChecksUptoCardSaid : Prop := Claim7.holds Tryz.pinned (.plain (OpenSpec.upto pathChecksSpec)) pathChecksUptoCard

/-- THE SECOND FORM's CARD OF 'flightdecklaw27.PathNodes'. -/
def pathNodesUptoCard : Claim7 := { stood := { row := pathNodesUptoRow, standIns := [], harness := (true, "8fcd1720e808dcf81e7c8d368e63b9c54fd1e65a24def0992d17f224b10374e8"), looks := false }, kinds := [], alts := [], laidByText := true, laidKinds := [.data], laidTests := true, laidLooks := .later }
def PathNodesUptoCardSaid : Prop := Claim7.holds Tryz.pinned (.plain (OpenSpec.upto pathNodesSpec)) pathNodesUptoCard

/-- THE SECOND FORM's CARD OF 'flightdecklaw27.PathPoints'. -/
def pathPointsUptoCard : Claim7 := { stood := { row := pathPointsUptoRow, standIns := [], harness := (true, "8fcd1720e808dcf81e7c8d368e63b9c54fd1e65a24def0992d17f224b10374e8"), looks := false }, kinds := [], alts := [], laidByText := true, laidKinds := [.data], laidTests := true, laidLooks := .later }
def PathPointsUptoCardSaid : Prop := Claim7.holds Tryz.pinned (.plain (OpenSpec.upto pathPointsSpec)) pathPointsUptoCard

/-- THE SECOND FORM's CARD OF 'flightdecklaw27.PathEnds'. -/
def pathEndsUptoCard : Claim7 := { stood := { row := pathEndsUptoRow, standIns := [], harness := (true, "8fcd1720e808dcf81e7c8d368e63b9c54fd1e65a24def0992d17f224b10374e8"), looks := false }, kinds := [], alts := [], laidByText := true, laidKinds := [.data], laidTests := true, laidLooks := .later }
def PathEndsUptoCardSaid : Prop := Claim7.holds Tryz.pinned (.plain (OpenSpec.upto pathEndsSpec)) pathEndsUptoCard

/-- THE SECOND FORM's CARD OF 'flightdecklaw27.PathLocates'. -/
def pathLocatesUptoCard : Claim7 := { stood := { row := pathLocatesUptoRow, standIns := [], harness := (true, "8fcd1720e808dcf81e7c8d368e63b9c54fd1e65a24def0992d17f224b10374e8"), looks := false }, kinds := [], alts := [], laidByText := true, laidKinds := [.data], laidTests := true, laidLooks := .later }
def PathLocatesUptoCardSaid : Prop := Claim7.holds Tryz.pinned (.plain (OpenSpec.upto pathLocatesSpec)) pathLocatesUptoCard
end Rows
end Go.Proofs.YtapgmnjpfcohhaaGreatDoor
