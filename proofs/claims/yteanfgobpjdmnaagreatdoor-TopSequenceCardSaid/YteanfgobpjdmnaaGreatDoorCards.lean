/-
  DERIVED. GIVEN WITH THE SEED: THE CARDS: each row of YteanfgobpjdmnaaGreatDoorRows.lean that lists a variable, with what it lists TIED to the program's text (the seventh form; the later family's looks); each row that meets fmt, with fmt's text TOLD by the authors' own Lean function (tested against real Go, not proved from fmt's source: count such statements apart). THE CARD IS WHAT COUNTS. Prove the row's statement (the work); the ties are given (YteanfgobpjdmnaaGreatDoorTie.lean); close each card by the builder's one call (the guide's Derived/Test/ToyasCard.lean, 'card_holds'). Laid BY PROGRAM, IN A SANDBOX (cutbox-door.mjs). By AI agents, Wed Nov 11 2026. No macro, syntax, notation, axiom, sorry.
-/
import Derived.Test.YteanfgobpjdmnaaGreatDoorRows
import GoSem.ClaimSeven
namespace Go.Proofs.YteanfgobpjdmnaaGreatDoor
namespace Rows

/-- THE TIED CARD OF 'flightdecktop.TopSequence'. -/
def topSequenceCard : Claim7 := { stood := { row := topSequenceRow, standIns := [], harness := (true, "c93c9328fe9ed68b2efc8dce07eaeec329a51aaaa1d53e952d89e8f18b78dbea"), looks := false }, kinds := [], alts := [], laidByText := true, laidKinds := [.data], laidTests := true, laidLooks := .later }
def TopSequenceCardSaid : Prop := Claim7.holds Tryz.pinned (.plain (OpenSpec.ofChange topSequenceSpec)) topSequenceCard

/-- THE SECOND FORM's CARD OF 'flightdecktop.TopSequence'. -/
def topSequenceUptoCard : Claim7 := { stood := { row := topSequenceUptoRow, standIns := [], harness := (true, "c93c9328fe9ed68b2efc8dce07eaeec329a51aaaa1d53e952d89e8f18b78dbea"), looks := false }, kinds := [], alts := [], laidByText := true, laidKinds := [.data], laidTests := true, laidLooks := .later }
def TopSequenceUptoCardSaid : Prop := Claim7.holds Tryz.pinned (.plain (OpenSpec.upto topSequenceSpec)) topSequenceUptoCard
end Rows
end Go.Proofs.YteanfgobpjdmnaaGreatDoor
