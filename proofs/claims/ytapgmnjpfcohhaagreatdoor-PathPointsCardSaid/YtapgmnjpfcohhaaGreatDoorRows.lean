/-
  NARROWER THAN 'FOR EVERY INPUT', by the rows' own cells (each row's printed sentence says how): PathChecks: laid · PathNodes: laid · PathPoints: laid · PathEnds: laid · PathLocates: laid.
  DERIVED. THE GIVEN ROWS OF THIS SEAT. 5 by the template 'for every input the law returns true; each argument reads behind the call as it read before'; 0 by the template 'total and deterministic' (their statements: YtapgmnjpfcohhaaGreatDoorTotals.lean).
  GIVEN WITH THE SEED: the statements are not yours to turn. If you find one false, say at which input.
  Laid BY PROGRAM, IN A SANDBOX (cutbox-rows.mjs): the forced cells as the released guide's own fill.sh prints them over the translation 9cce12a5b86602f2… (all of the seat's roots in one cut). By AI agents, Wed Nov 11 2026. No macro, syntax, notation, axiom, sorry.
-/
import Derived.Test.YtapgmnjpfcohhaaGreatDoorChecked
import GoSem.Claim
import GoSem.ClaimJoined
import GoSem.ClaimMapViews
import Derived.JoinedTies
import Derived.KernelRfl
namespace Go.Proofs.YtapgmnjpfcohhaaGreatDoor
/- THE CELL 'sum', in the pinned program and in every row, IS THE sha256 OF THE DUMP (.gsa) THAT YtapgmnjpfcohhaaGreatDoorProg.lean LOADS. Nothing in Lean hashes anything: it is a label: what it is worth is what the hold of that sum in a sandbox is worth. -/
noncomputable def Tryz.pinned : Pinned := { name := "ytapgmnjpfcohhaagreatdoor", sum := "9cce12a5b86602f23ecfb64757f9dca5df49975491e341d6c01e6efaf4a032a6", checked := Tryz.checked }
namespace Rows
def none {H : Type} : Left H := { results := [], args := [] }

/- WHAT THE LISTED PACKAGE-LEVEL VARIABLES READ AS WHEN THE CALL BEGINS. Each datum BY PROGRAM (the guide's laid-datum.mjs) off the statement by which the dump's own 'gosem.cut.vars' lays the variable. In a bare row this is a premise. The card (YtapgmnjpfcohhaaGreatDoorCards.lean) ties it to the program's text. -/
def laid_flightdeck_leg_uses {H : Type} : DataW H := .agg [.lit (.int .u16 0), .lit (.int .u16 1), .lit (.int .u16 9), .lit (.int .u16 25), .lit (.int .u16 9), .lit (.int .u16 71), .lit (.int .u16 71), .lit (.int .u16 16), .lit (.int .u16 50), .lit (.int .u16 16), .lit (.int .u16 146), .lit (.int .u16 17), .lit (.int .u16 49), .lit (.int .u16 17), .lit (.int .u16 53), .lit (.int .u16 53), .lit (.int .u16 53), .lit (.int .u16 53)]

/-- 'flightdecklaw27.PathChecks': WHATEVER THE INPUT: true; the input reads as it did. -/
def pathChecksSpec : ChangeSpec := { name := "pathChecks", fn := fun _ => fun
  | [d] => { results := [.lit (.bool true)], args := [d] }
  | _ => none }
def pathChecksRow : OpenClaim := { program := "ytapgmnjpfcohhaagreatdoor", sum := "9cce12a5b86602f23ecfb64757f9dca5df49975491e341d6c01e6efaf4a032a6", func := "flightdeck/flightdecklaw27.PathChecks", spec := "pathChecks", inPlace := ["internal/bytealg.IndexByteString", "internal/bytealg.IndexString", "math/bits.Sub64", "math/bits.Add64"], unfollowed := true, recurses := true, named := ["internal/bytealg.MaxLen", "flightdeck/leg.uses", "math/bits.divideError", "math/bits.overflowError"], apart := false, laid := [("flightdeck/leg.uses", laid_flightdeck_leg_uses)] }
def PathChecksSaid : Prop := pathChecksRow.holds Tryz.pinned (OpenSpec.ofChange pathChecksSpec)

/-- ITS FALSE NEIGHBOUR: 'it returns false'. Refute it at one input. -/
def pathChecksWrong : ChangeSpec := { name := "pathChecks", fn := fun _ => fun
  | [d] => { results := [.lit (.bool false)], args := [d] }
  | _ => none }
def PathChecksWrongFalsely : Prop := pathChecksRow.holds Tryz.pinned (OpenSpec.ofChange pathChecksWrong)

/-- 'flightdecklaw27.PathNodes': WHATEVER THE INPUT: true; the input reads as it did. -/
def pathNodesSpec : ChangeSpec := { name := "pathNodes", fn := fun _ => fun
  | [d1, d2] => { results := [.lit (.bool true)], args := [d1, d2] }
  | _ => none }
def pathNodesRow : OpenClaim := { program := "ytapgmnjpfcohhaagreatdoor", sum := "9cce12a5b86602f23ecfb64757f9dca5df49975491e341d6c01e6efaf4a032a6", func := "flightdeck/flightdecklaw27.PathNodes", spec := "pathNodes", inPlace := ["internal/bytealg.IndexByteString", "internal/bytealg.IndexString", "math/bits.Sub64", "math/bits.Add64"], unfollowed := true, recurses := true, named := ["internal/bytealg.MaxLen", "flightdeck/leg.uses", "math/bits.divideError", "math/bits.overflowError"], apart := false, laid := [("flightdeck/leg.uses", laid_flightdeck_leg_uses)] }
def PathNodesSaid : Prop := pathNodesRow.holds Tryz.pinned (OpenSpec.ofChange pathNodesSpec)

/-- ITS FALSE NEIGHBOUR: 'it returns false'. Refute it at one input. -/
def pathNodesWrong : ChangeSpec := { name := "pathNodes", fn := fun _ => fun
  | [d1, d2] => { results := [.lit (.bool false)], args := [d1, d2] }
  | _ => none }
def PathNodesWrongFalsely : Prop := pathNodesRow.holds Tryz.pinned (OpenSpec.ofChange pathNodesWrong)

/-- 'flightdecklaw27.PathPoints': WHATEVER THE INPUT: true; the input reads as it did. -/
def pathPointsSpec : ChangeSpec := { name := "pathPoints", fn := fun _ => fun
  | [d1, d2] => { results := [.lit (.bool true)], args := [d1, d2] }
  | _ => none }
def pathPointsRow : OpenClaim := { program := "ytapgmnjpfcohhaagreatdoor", sum := "9cce12a5b86602f23ecfb64757f9dca5df49975491e341d6c01e6efaf4a032a6", func := "flightdeck/flightdecklaw27.PathPoints", spec := "pathPoints", inPlace := ["internal/bytealg.IndexByteString", "internal/bytealg.IndexString", "math/bits.Sub64", "math/bits.Add64"], unfollowed := true, recurses := true, named := ["internal/bytealg.MaxLen", "flightdeck/leg.uses", "math/bits.divideError", "math/bits.overflowError"], apart := false, laid := [("flightdeck/leg.uses", laid_flightdeck_leg_uses)] }
def PathPointsSaid : Prop := pathPointsRow.holds Tryz.pinned (OpenSpec.ofChange pathPointsSpec)

/-- ITS FALSE NEIGHBOUR: 'it returns false'. Refute it at one input. -/
def pathPointsWrong : ChangeSpec := { name := "pathPoints", fn := fun _ => fun
  | [d1, d2] => { results := [.lit (.bool false)], args := [d1, d2] }
  | _ => none }
def PathPointsWrongFalsely : Prop := pathPointsRow.holds Tryz.pinned (OpenSpec.ofChange pathPointsWrong)

/-- 'flightdecklaw27.PathEnds': WHATEVER THE INPUT: true; the input reads as it did. -/
def pathEndsSpec : ChangeSpec := { name := "pathEnds", fn := fun _ => fun
  | [d] => { results := [.lit (.bool true)], args := [d] }
  | _ => none }
def pathEndsRow : OpenClaim := { program := "ytapgmnjpfcohhaagreatdoor", sum := "9cce12a5b86602f23ecfb64757f9dca5df49975491e341d6c01e6efaf4a032a6", func := "flightdeck/flightdecklaw27.PathEnds", spec := "pathEnds", inPlace := ["internal/bytealg.IndexByteString", "internal/bytealg.IndexString", "math/bits.Sub64", "math/bits.Add64"], unfollowed := true, recurses := true, named := ["internal/bytealg.MaxLen", "flightdeck/leg.uses", "math/bits.divideError", "math/bits.overflowError"], apart := false, laid := [("flightdeck/leg.uses", laid_flightdeck_leg_uses)] }
def PathEndsSaid : Prop := pathEndsRow.holds Tryz.pinned (OpenSpec.ofChange pathEndsSpec)

/-- ITS FALSE NEIGHBOUR: 'it returns false'. Refute it at one input. -/
def pathEndsWrong : ChangeSpec := { name := "pathEnds", fn := fun _ => fun
  | [d] => { results := [.lit (.bool false)], args := [d] }
  | _ => none }
def PathEndsWrongFalsely : Prop := pathEndsRow.holds Tryz.pinned (OpenSpec.ofChange pathEndsWrong)

/-- 'flightdecklaw27.PathLocates': WHATEVER THE INPUT: true; the input reads as it did. -/
def pathLocatesSpec : ChangeSpec := { name := "pathLocates", fn := fun _ => fun
  | [d1, d2] => { results := [.lit (.bool true)], args := [d1, d2] }
  | _ => none }
def pathLocatesRow : OpenClaim := { program := "ytapgmnjpfcohhaagreatdoor", sum := "9cce12a5b86602f23ecfb64757f9dca5df49975491e341d6c01e6efaf4a032a6", func := "flightdeck/flightdecklaw27.PathLocates", spec := "pathLocates", inPlace := ["internal/bytealg.IndexByteString", "internal/bytealg.IndexString", "math/bits.Sub64", "math/bits.Add64"], unfollowed := true, recurses := true, named := ["internal/bytealg.MaxLen", "flightdeck/leg.uses", "math/bits.divideError", "math/bits.overflowError"], apart := false, laid := [("flightdeck/leg.uses", laid_flightdeck_leg_uses)] }
def PathLocatesSaid : Prop := pathLocatesRow.holds Tryz.pinned (OpenSpec.ofChange pathLocatesSpec)

/-- ITS FALSE NEIGHBOUR: 'it returns false'. Refute it at one input. -/
def pathLocatesWrong : ChangeSpec := { name := "pathLocates", fn := fun _ => fun
  | [d1, d2] => { results := [.lit (.bool false)], args := [d1, d2] }
  | _ => none }
def PathLocatesWrongFalsely : Prop := pathLocatesRow.holds Tryz.pinned (OpenSpec.ofChange pathLocatesWrong)

/- THE SECOND FORM. 'bulk': how many values and letters a reading holds, each counted each time it is reached (what is shared counts as often as it is met; a slice's spare places count too). A statement '..UptoSaid' is the law's where the arguments, and the package variables that the reading takes, are together of bulk at most 1048576: NARROWER than '..Said'. Prove '..Said' where nothing that the law and all that it calls make is longer than what came in: it says more and counts as full. Else prove '..UptoSaid'. A law counts once. -/
mutual
def uptoBulk {H : Type} : DataW H → Nat
  | .lit (.string bytes) => bytes.length + 1
  | .lit _ => 1
  | .nil => 1
  | .ptr d => uptoBulk d + 1
  | .slice elems spare => uptoBulkAll elems + uptoBulkAll spare + 1
  | .agg parts => uptoBulkAll parts + 1
  | .iface _ d => uptoBulk d + 1
  | .map entries => uptoBulkEntries entries + 1
  | .held _ => 1
def uptoBulkAll {H : Type} : List (DataW H) → Nat
  | [] => 0
  | d :: r => uptoBulk d + uptoBulkAll r
def uptoBulkEntries {H : Type} : List (Lit × DataW H) → Nat
  | [] => 0
  | x :: r => uptoBulkEntry x + uptoBulkEntries r
def uptoBulkEntry {H : Type} : Lit × DataW H → Nat
  | (.string bytes, d) => bytes.length + uptoBulk d + 1
  | (_, d) => uptoBulk d + 1
 end
def uptoSmall : (H : Type) → List (DataW H) → Bool := fun _ ds => decide (uptoBulkAll ds ≤ 1048576)
def OpenSpec.upto (s : _root_.Go.ChangeSpec) : _root_.Go.OpenSpec := { _root_.Go.OpenSpec.ofChange s with cond := some uptoSmall }

/-- 'flightdecklaw27.PathChecks', WHERE WHAT IT READS IS OF BULK AT MOST 1048576: true; the input reads as it did. -/
def pathChecksUptoRow : OpenClaim := { program := "ytapgmnjpfcohhaagreatdoor", sum := "9cce12a5b86602f23ecfb64757f9dca5df49975491e341d6c01e6efaf4a032a6", func := "flightdeck/flightdecklaw27.PathChecks", spec := "pathChecks", inPlace := ["internal/bytealg.IndexByteString", "internal/bytealg.IndexString", "math/bits.Sub64", "math/bits.Add64"], unfollowed := true, recurses := true, named := ["internal/bytealg.MaxLen", "flightdeck/leg.uses", "math/bits.divideError", "math/bits.overflowError"], apart := false, laid := [("flightdeck/leg.uses", laid_flightdeck_leg_uses)], narrowed := true }
def PathChecksUptoSaid : Prop := pathChecksUptoRow.holds Tryz.pinned (OpenSpec.upto pathChecksSpec)

/-- 'flightdecklaw27.PathNodes', WHERE WHAT IT READS IS OF BULK AT MOST 1048576: true; the input reads as it did. -/
def pathNodesUptoRow : OpenClaim := { program := "ytapgmnjpfcohhaagreatdoor", sum := "9cce12a5b86602f23ecfb64757f9dca5df49975491e341d6c01e6efaf4a032a6", func := "flightdeck/flightdecklaw27.PathNodes", spec := "pathNodes", inPlace := ["internal/bytealg.IndexByteString", "internal/bytealg.IndexString", "math/bits.Sub64", "math/bits.Add64"], unfollowed := true, recurses := true, named := ["internal/bytealg.MaxLen", "flightdeck/leg.uses", "math/bits.divideError", "math/bits.overflowError"], apart := false, laid := [("flightdeck/leg.uses", laid_flightdeck_leg_uses)], narrowed := true }
def PathNodesUptoSaid : Prop := pathNodesUptoRow.holds Tryz.pinned (OpenSpec.upto pathNodesSpec)

/-- 'flightdecklaw27.PathPoints', WHERE WHAT IT READS IS OF BULK AT MOST 1048576: true; the input reads as it did. -/
def pathPointsUptoRow : OpenClaim := { program := "ytapgmnjpfcohhaagreatdoor", sum := "9cce12a5b86602f23ecfb64757f9dca5df49975491e341d6c01e6efaf4a032a6", func := "flightdeck/flightdecklaw27.PathPoints", spec := "pathPoints", inPlace := ["internal/bytealg.IndexByteString", "internal/bytealg.IndexString", "math/bits.Sub64", "math/bits.Add64"], unfollowed := true, recurses := true, named := ["internal/bytealg.MaxLen", "flightdeck/leg.uses", "math/bits.divideError", "math/bits.overflowError"], apart := false, laid := [("flightdeck/leg.uses", laid_flightdeck_leg_uses)], narrowed := true }
def PathPointsUptoSaid : Prop := pathPointsUptoRow.holds Tryz.pinned (OpenSpec.upto pathPointsSpec)

/-- 'flightdecklaw27.PathEnds', WHERE WHAT IT READS IS OF BULK AT MOST 1048576: true; the input reads as it did. -/
def pathEndsUptoRow : OpenClaim := { program := "ytapgmnjpfcohhaagreatdoor", sum := "9cce12a5b86602f23ecfb64757f9dca5df49975491e341d6c01e6efaf4a032a6", func := "flightdeck/flightdecklaw27.PathEnds", spec := "pathEnds", inPlace := ["internal/bytealg.IndexByteString", "internal/bytealg.IndexString", "math/bits.Sub64", "math/bits.Add64"], unfollowed := true, recurses := true, named := ["internal/bytealg.MaxLen", "flightdeck/leg.uses", "math/bits.divideError", "math/bits.overflowError"], apart := false, laid := [("flightdeck/leg.uses", laid_flightdeck_leg_uses)], narrowed := true }
def PathEndsUptoSaid : Prop := pathEndsUptoRow.holds Tryz.pinned (OpenSpec.upto pathEndsSpec)

/-- 'flightdecklaw27.PathLocates', WHERE WHAT IT READS IS OF BULK AT MOST 1048576: true; the input reads as it did. -/
def pathLocatesUptoRow : OpenClaim := { program := "ytapgmnjpfcohhaagreatdoor", sum := "9cce12a5b86602f23ecfb64757f9dca5df49975491e341d6c01e6efaf4a032a6", func := "flightdeck/flightdecklaw27.PathLocates", spec := "pathLocates", inPlace := ["internal/bytealg.IndexByteString", "internal/bytealg.IndexString", "math/bits.Sub64", "math/bits.Add64"], unfollowed := true, recurses := true, named := ["internal/bytealg.MaxLen", "flightdeck/leg.uses", "math/bits.divideError", "math/bits.overflowError"], apart := false, laid := [("flightdeck/leg.uses", laid_flightdeck_leg_uses)], narrowed := true }
def PathLocatesUptoSaid : Prop := pathLocatesUptoRow.holds Tryz.pinned (OpenSpec.upto pathLocatesSpec)

end Rows
end Go.Proofs.YtapgmnjpfcohhaaGreatDoor
