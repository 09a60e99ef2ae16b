/-
  DERIVED. GIVEN WITH THE SEED: THE CARDS: each row of YtbhpklpkcgcmfaaGreatDoorRows.lean that lists a variable, with what it lists TIED to the program's text (the seventh form; the later family's looks); each row that meets fmt, with fmt's text TOLD by the authors' own Lean function (tested against real Go, not proved from fmt's source: count such statements apart). THE CARD IS WHAT COUNTS. Prove the row's statement (the work); the ties are given (YtbhpklpkcgcmfaaGreatDoorTie.lean); close each card by the builder's one call (the guide's Derived/Test/ToyasCard.lean, 'card_holds'). Laid BY PROGRAM, IN A SANDBOX (cutbox-door.mjs). By AI agents, Wed Nov 11 2026. No macro, syntax, notation, axiom, sorry.
-/
import Derived.Test.YtbhpklpkcgcmfaaGreatDoorRows
import GoSem.ClaimSeven
namespace Go.Proofs.YtbhpklpkcgcmfaaGreatDoor
namespace Rows

/-- THE TIED CARD OF 'flightdecktop.TopHolds'. -/
def topHoldsCard : Claim7 := { stood := { row := topHoldsRow, standIns := [], harness := (true, "a69cdee3d492ee88cc83c7d034d50cee047f3cf5273f06f188e3eacc958edbfd"), looks := false }, kinds := [], alts := [], laidByText := true, laidKinds := [.data], laidTests := true, laidLooks := .later }
def TopHoldsCardSaid : Prop := Claim7.holds Tryz.pinned (.plain (OpenSpec.ofChange topHoldsSpec)) topHoldsCard

/-- THE TIED CARD OF 'flightdecktop.TopConnected'. -/
def topConnectedCard : Claim7 := { stood := { row := topConnectedRow, standIns := [], harness := (true, "a69cdee3d492ee88cc83c7d034d50cee047f3cf5273f06f188e3eacc958edbfd"), looks := false }, kinds := [], alts := [], laidByText := true, laidKinds := [.data], laidTests := true, laidLooks := .later }
def TopConnectedCardSaid : Prop := Claim7.holds Tryz.pinned (.plain (OpenSpec.ofChange topConnectedSpec)) topConnectedCard

/-- THE TIED CARD OF 'flightdecklaw27.PathBuilds'. -/
def pathBuildsCard : Claim7 := { stood := { row := pathBuildsRow, standIns := [], harness := (true, "a69cdee3d492ee88cc83c7d034d50cee047f3cf5273f06f188e3eacc958edbfd"), looks := false }, kinds := [], alts := [], laidByText := true, laidKinds := [.data], laidTests := true, laidLooks := .later }
def PathBuildsCardSaid : Prop := Claim7.holds Tryz.pinned (.plain (OpenSpec.ofChange pathBuildsSpec)) pathBuildsCard

/-- THE TIED CARD OF 'flightdecklaw27.PathValid'. -/
def pathValidCard : Claim7 := { stood := { row := pathValidRow, standIns := [], harness := (true, "a69cdee3d492ee88cc83c7d034d50cee047f3cf5273f06f188e3eacc958edbfd"), looks := false }, kinds := [], alts := [], laidByText := true, laidKinds := [.data], laidTests := true, laidLooks := .later }
def PathValidCardSaid : Prop := Claim7.holds Tryz.pinned (.plain (OpenSpec.ofChange pathValidSpec)) pathValidCard

/-- THE TIED CARD OF 'flightdecklaw27.PathTurns'. -/
def pathTurnsCard : Claim7 := { stood := { row := pathTurnsRow, standIns := [], harness := (true, "a69cdee3d492ee88cc83c7d034d50cee047f3cf5273f06f188e3eacc958edbfd"), looks := false }, kinds := [], alts := [], laidByText := true, laidKinds := [.data], laidTests := true, laidLooks := .later }
def PathTurnsCardSaid : Prop := Claim7.holds Tryz.pinned (.plain (OpenSpec.ofChange pathTurnsSpec)) pathTurnsCard

/-- THE TIED CARD OF 'flightdecktop.TopSequence'. -/
def topSequenceCard : Claim7 := { stood := { row := topSequenceRow, standIns := [], harness := (true, "a69cdee3d492ee88cc83c7d034d50cee047f3cf5273f06f188e3eacc958edbfd"), looks := false }, kinds := [], alts := [], laidByText := true, laidKinds := [.data], laidTests := true, laidLooks := .later }
def TopSequenceCardSaid : Prop := Claim7.holds Tryz.pinned (.plain (OpenSpec.ofChange topSequenceSpec)) topSequenceCard

/-- THE SECOND FORM's CARD OF 'flightdecktop.TopHolds'. -/
def topHoldsUptoCard : Claim7 := { stood := { row := topHoldsUptoRow, standIns := [], harness := (true, "a69cdee3d492ee88cc83c7d034d50cee047f3cf5273f06f188e3eacc958edbfd"), looks := false }, kinds := [], alts := [], laidByText := true, laidKinds := [.data], laidTests := true, laidLooks := .later }
def TopHoldsUptoCardSaid : Prop := Claim7.holds Tryz.pinned (.plain (OpenSpec.upto topHoldsSpec)) topHoldsUptoCard

/-- THE SECOND FORM's CARD OF 'flightdecktop.TopConnected'. -/
def topConnectedUptoCard : Claim7 := { stood := { row := topConnectedUptoRow, standIns := [], harness := (true, "a69cdee3d492ee88cc83c7d034d50cee047f3cf5273f06f188e3eacc958edbfd"), looks := false }, kinds := [], alts := [], laidByText := true, laidKinds := [.data], laidTests := true, laidLooks := .later }
def TopConnectedUptoCardSaid : Prop := Claim7.holds Tryz.pinned (.plain (OpenSpec.upto topConnectedSpec)) topConnectedUptoCard

/-- THE SECOND FORM's CARD OF 'flightdecklaw27.PathBuilds'. -/
def pathBuildsUptoCard : Claim7 := { stood := { row := pathBuildsUptoRow, standIns := [], harness := (true, "a69cdee3d492ee88cc83c7d034d50cee047f3cf5273f06f188e3eacc958edbfd"), looks := false }, kinds := [], alts := [], laidByText := true, laidKinds := [.data], laidTests := true, laidLooks := .later }
def PathBuildsUptoCardSaid : Prop := Claim7.holds Tryz.pinned (.plain (OpenSpec.upto pathBuildsSpec)) pathBuildsUptoCard

/-- THE SECOND FORM's CARD OF 'flightdecklaw27.PathValid'. -/
def pathValidUptoCard : Claim7 := { stood := { row := pathValidUptoRow, standIns := [], harness := (true, "a69cdee3d492ee88cc83c7d034d50cee047f3cf5273f06f188e3eacc958edbfd"), looks := false }, kinds := [], alts := [], laidByText := true, laidKinds := [.data], laidTests := true, laidLooks := .later }
def PathValidUptoCardSaid : Prop := Claim7.holds Tryz.pinned (.plain (OpenSpec.upto pathValidSpec)) pathValidUptoCard

/-- THE SECOND FORM's CARD OF 'flightdecklaw27.PathTurns'. -/
def pathTurnsUptoCard : Claim7 := { stood := { row := pathTurnsUptoRow, standIns := [], harness := (true, "a69cdee3d492ee88cc83c7d034d50cee047f3cf5273f06f188e3eacc958edbfd"), looks := false }, kinds := [], alts := [], laidByText := true, laidKinds := [.data], laidTests := true, laidLooks := .later }
def PathTurnsUptoCardSaid : Prop := Claim7.holds Tryz.pinned (.plain (OpenSpec.upto pathTurnsSpec)) pathTurnsUptoCard

/-- THE SECOND FORM's CARD OF 'flightdecktop.TopSequence'. -/
def topSequenceUptoCard : Claim7 := { stood := { row := topSequenceUptoRow, standIns := [], harness := (true, "a69cdee3d492ee88cc83c7d034d50cee047f3cf5273f06f188e3eacc958edbfd"), looks := false }, kinds := [], alts := [], laidByText := true, laidKinds := [.data], laidTests := true, laidLooks := .later }
def TopSequenceUptoCardSaid : Prop := Claim7.holds Tryz.pinned (.plain (OpenSpec.upto topSequenceSpec)) topSequenceUptoCard
end Rows
end Go.Proofs.YtbhpklpkcgcmfaaGreatDoor
