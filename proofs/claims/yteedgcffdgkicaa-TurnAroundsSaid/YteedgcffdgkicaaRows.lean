/-
  No cell of these rows narrows 'for every input' (looked for: loops, veiled, ifaces, maps, wideKeys, modest, calm, conditions, laid).
  DERIVED. THE GIVEN ROWS OF THIS SEAT. 17 by the template 'for every input the law returns true; each argument reads behind the call as it read before'; 0 by the template 'total and deterministic' (their statements: YteedgcffdgkicaaTotals.lean).
  GIVEN WITH THE SEED: the statements are not yours to turn. If you find one false, say at which input.
  Laid BY PROGRAM, IN A SANDBOX (cutbox-rows.mjs): the forced cells as the released guide's own fill.sh prints them over the translation 5b792b5e3b90c903… (all of the seat's roots in one cut). By AI agents, Wed Nov 11 2026. No macro, syntax, notation, axiom, sorry.
-/
import Derived.Test.YteedgcffdgkicaaChecked
import GoSem.Claim
import GoSem.ClaimJoined
import GoSem.ClaimMapViews
import Derived.JoinedTies
import Derived.KernelRfl
namespace Go.Proofs.Yteedgcffdgkicaa
/- THE CELL 'sum', in the pinned program and in every row, IS THE sha256 OF THE DUMP (.gsa) THAT YteedgcffdgkicaaProg.lean LOADS. Nothing in Lean hashes anything: it is a label: what it is worth is what the hold of that sum in a sandbox is worth. -/
noncomputable def Try.pinned : Pinned := { name := "yteedgcffdgkicaa", sum := "5b792b5e3b90c90324d0b566b5243122fd889f3d13ba17fef6edf5b266ec411e", checked := Try.checked }
namespace Rows
def none {H : Type} : Left H := { results := [], args := [] }

/-- 'flightdecklaw12.TurnArcs': WHATEVER THE INPUT: true; the input reads as it did. -/
def turnArcsSpec : ChangeSpec := { name := "turnArcs", fn := fun _ => fun
  | [d1, d2] => { results := [.lit (.bool true)], args := [d1, d2] }
  | _ => none }
def turnArcsRow : OpenClaim := { program := "yteedgcffdgkicaa", sum := "5b792b5e3b90c90324d0b566b5243122fd889f3d13ba17fef6edf5b266ec411e", func := "flightdeck/flightdecklaw12.TurnArcs", spec := "turnArcs", unfollowed := true, recurses := true, named := ["math/bits.divideError", "math/bits.overflowError"], apart := false }
def TurnArcsSaid : Prop := turnArcsRow.holds Try.pinned (OpenSpec.ofChange turnArcsSpec)

/-- ITS FALSE NEIGHBOUR: 'it returns false'. Refute it at one input. -/
def turnArcsWrong : ChangeSpec := { name := "turnArcs", fn := fun _ => fun
  | [d1, d2] => { results := [.lit (.bool false)], args := [d1, d2] }
  | _ => none }
def TurnArcsWrongFalsely : Prop := turnArcsRow.holds Try.pinned (OpenSpec.ofChange turnArcsWrong)

/-- 'flightdecklaw12.TurnSplits': WHATEVER THE INPUT: true; the input reads as it did. -/
def turnSplitsSpec : ChangeSpec := { name := "turnSplits", fn := fun _ => fun
  | [d1, d2] => { results := [.lit (.bool true)], args := [d1, d2] }
  | _ => none }
def turnSplitsRow : OpenClaim := { program := "yteedgcffdgkicaa", sum := "5b792b5e3b90c90324d0b566b5243122fd889f3d13ba17fef6edf5b266ec411e", func := "flightdeck/flightdecklaw12.TurnSplits", spec := "turnSplits", unfollowed := true, recurses := true, named := ["math/bits.divideError", "math/bits.overflowError"], apart := false }
def TurnSplitsSaid : Prop := turnSplitsRow.holds Try.pinned (OpenSpec.ofChange turnSplitsSpec)

/-- ITS FALSE NEIGHBOUR: 'it returns false'. Refute it at one input. -/
def turnSplitsWrong : ChangeSpec := { name := "turnSplits", fn := fun _ => fun
  | [d1, d2] => { results := [.lit (.bool false)], args := [d1, d2] }
  | _ => none }
def TurnSplitsWrongFalsely : Prop := turnSplitsRow.holds Try.pinned (OpenSpec.ofChange turnSplitsWrong)

/-- 'flightdecklaw12.TurnOffsets': WHATEVER THE INPUT: true; the input reads as it did. -/
def turnOffsetsSpec : ChangeSpec := { name := "turnOffsets", fn := fun _ => fun
  | [d1, d2] => { results := [.lit (.bool true)], args := [d1, d2] }
  | _ => none }
def turnOffsetsRow : OpenClaim := { program := "yteedgcffdgkicaa", sum := "5b792b5e3b90c90324d0b566b5243122fd889f3d13ba17fef6edf5b266ec411e", func := "flightdeck/flightdecklaw12.TurnOffsets", spec := "turnOffsets", unfollowed := true, recurses := true, named := ["math/bits.divideError", "math/bits.overflowError"], apart := false }
def TurnOffsetsSaid : Prop := turnOffsetsRow.holds Try.pinned (OpenSpec.ofChange turnOffsetsSpec)

/-- ITS FALSE NEIGHBOUR: 'it returns false'. Refute it at one input. -/
def turnOffsetsWrong : ChangeSpec := { name := "turnOffsets", fn := fun _ => fun
  | [d1, d2] => { results := [.lit (.bool false)], args := [d1, d2] }
  | _ => none }
def TurnOffsetsWrongFalsely : Prop := turnOffsetsRow.holds Try.pinned (OpenSpec.ofChange turnOffsetsWrong)

/-- 'flightdecklaw12.TurnTracks': WHATEVER THE INPUT: true; the input reads as it did. -/
def turnTracksSpec : ChangeSpec := { name := "turnTracks", fn := fun _ => fun
  | [d1, d2] => { results := [.lit (.bool true)], args := [d1, d2] }
  | _ => none }
def turnTracksRow : OpenClaim := { program := "yteedgcffdgkicaa", sum := "5b792b5e3b90c90324d0b566b5243122fd889f3d13ba17fef6edf5b266ec411e", func := "flightdeck/flightdecklaw12.TurnTracks", spec := "turnTracks", unfollowed := true, recurses := true, named := ["math/bits.divideError", "math/bits.overflowError"], apart := false }
def TurnTracksSaid : Prop := turnTracksRow.holds Try.pinned (OpenSpec.ofChange turnTracksSpec)

/-- ITS FALSE NEIGHBOUR: 'it returns false'. Refute it at one input. -/
def turnTracksWrong : ChangeSpec := { name := "turnTracks", fn := fun _ => fun
  | [d1, d2] => { results := [.lit (.bool false)], args := [d1, d2] }
  | _ => none }
def TurnTracksWrongFalsely : Prop := turnTracksRow.holds Try.pinned (OpenSpec.ofChange turnTracksWrong)

/-- 'flightdecklaw12.TurnFlyBys': WHATEVER THE INPUT: true; the input reads as it did. -/
def turnFlyBysSpec : ChangeSpec := { name := "turnFlyBys", fn := fun _ => fun
  | [d] => { results := [.lit (.bool true)], args := [d] }
  | _ => none }
def turnFlyBysRow : OpenClaim := { program := "yteedgcffdgkicaa", sum := "5b792b5e3b90c90324d0b566b5243122fd889f3d13ba17fef6edf5b266ec411e", func := "flightdeck/flightdecklaw12.TurnFlyBys", spec := "turnFlyBys", unfollowed := true, recurses := true, named := ["math/bits.divideError", "math/bits.overflowError"], apart := false }
def TurnFlyBysSaid : Prop := turnFlyBysRow.holds Try.pinned (OpenSpec.ofChange turnFlyBysSpec)

/-- ITS FALSE NEIGHBOUR: 'it returns false'. Refute it at one input. -/
def turnFlyBysWrong : ChangeSpec := { name := "turnFlyBys", fn := fun _ => fun
  | [d] => { results := [.lit (.bool false)], args := [d] }
  | _ => none }
def TurnFlyBysWrongFalsely : Prop := turnFlyBysRow.holds Try.pinned (OpenSpec.ofChange turnFlyBysWrong)

/-- 'flightdecklaw12.TurnGaps': WHATEVER THE INPUT: true; the input reads as it did. -/
def turnGapsSpec : ChangeSpec := { name := "turnGaps", fn := fun _ => fun
  | [d] => { results := [.lit (.bool true)], args := [d] }
  | _ => none }
def turnGapsRow : OpenClaim := { program := "yteedgcffdgkicaa", sum := "5b792b5e3b90c90324d0b566b5243122fd889f3d13ba17fef6edf5b266ec411e", func := "flightdeck/flightdecklaw12.TurnGaps", spec := "turnGaps", unfollowed := true, recurses := true, named := ["math/bits.divideError", "math/bits.overflowError"], apart := false }
def TurnGapsSaid : Prop := turnGapsRow.holds Try.pinned (OpenSpec.ofChange turnGapsSpec)

/-- ITS FALSE NEIGHBOUR: 'it returns false'. Refute it at one input. -/
def turnGapsWrong : ChangeSpec := { name := "turnGaps", fn := fun _ => fun
  | [d] => { results := [.lit (.bool false)], args := [d] }
  | _ => none }
def TurnGapsWrongFalsely : Prop := turnGapsRow.holds Try.pinned (OpenSpec.ofChange turnGapsWrong)

/-- 'flightdecklaw12.TurnTangents': WHATEVER THE INPUT: true; the input reads as it did. -/
def turnTangentsSpec : ChangeSpec := { name := "turnTangents", fn := fun _ => fun
  | [d1, d2] => { results := [.lit (.bool true)], args := [d1, d2] }
  | _ => none }
def turnTangentsRow : OpenClaim := { program := "yteedgcffdgkicaa", sum := "5b792b5e3b90c90324d0b566b5243122fd889f3d13ba17fef6edf5b266ec411e", func := "flightdeck/flightdecklaw12.TurnTangents", spec := "turnTangents", unfollowed := true, recurses := true, named := ["math/bits.divideError", "math/bits.overflowError"], apart := false }
def TurnTangentsSaid : Prop := turnTangentsRow.holds Try.pinned (OpenSpec.ofChange turnTangentsSpec)

/-- ITS FALSE NEIGHBOUR: 'it returns false'. Refute it at one input. -/
def turnTangentsWrong : ChangeSpec := { name := "turnTangents", fn := fun _ => fun
  | [d1, d2] => { results := [.lit (.bool false)], args := [d1, d2] }
  | _ => none }
def TurnTangentsWrongFalsely : Prop := turnTangentsRow.holds Try.pinned (OpenSpec.ofChange turnTangentsWrong)

/-- 'flightdecklaw12.TurnArounds': WHATEVER THE INPUT: true; the input reads as it did. -/
def turnAroundsSpec : ChangeSpec := { name := "turnArounds", fn := fun _ => fun
  | [d1, d2] => { results := [.lit (.bool true)], args := [d1, d2] }
  | _ => none }
def turnAroundsRow : OpenClaim := { program := "yteedgcffdgkicaa", sum := "5b792b5e3b90c90324d0b566b5243122fd889f3d13ba17fef6edf5b266ec411e", func := "flightdeck/flightdecklaw12.TurnArounds", spec := "turnArounds", unfollowed := true, recurses := true, named := ["math/bits.divideError", "math/bits.overflowError"], apart := false }
def TurnAroundsSaid : Prop := turnAroundsRow.holds Try.pinned (OpenSpec.ofChange turnAroundsSpec)

/-- ITS FALSE NEIGHBOUR: 'it returns false'. Refute it at one input. -/
def turnAroundsWrong : ChangeSpec := { name := "turnArounds", fn := fun _ => fun
  | [d1, d2] => { results := [.lit (.bool false)], args := [d1, d2] }
  | _ => none }
def TurnAroundsWrongFalsely : Prop := turnAroundsRow.holds Try.pinned (OpenSpec.ofChange turnAroundsWrong)

/-- 'flightdecklaw12.TurnRadii': WHATEVER THE INPUT: true; the input reads as it did. -/
def turnRadiiSpec : ChangeSpec := { name := "turnRadii", fn := fun _ => fun
  | [d1, d2] => { results := [.lit (.bool true)], args := [d1, d2] }
  | _ => none }
def turnRadiiRow : OpenClaim := { program := "yteedgcffdgkicaa", sum := "5b792b5e3b90c90324d0b566b5243122fd889f3d13ba17fef6edf5b266ec411e", func := "flightdeck/flightdecklaw12.TurnRadii", spec := "turnRadii", unfollowed := true, recurses := true, named := ["math/bits.divideError", "math/bits.overflowError"], apart := false }
def TurnRadiiSaid : Prop := turnRadiiRow.holds Try.pinned (OpenSpec.ofChange turnRadiiSpec)

/-- ITS FALSE NEIGHBOUR: 'it returns false'. Refute it at one input. -/
def turnRadiiWrong : ChangeSpec := { name := "turnRadii", fn := fun _ => fun
  | [d1, d2] => { results := [.lit (.bool false)], args := [d1, d2] }
  | _ => none }
def TurnRadiiWrongFalsely : Prop := turnRadiiRow.holds Try.pinned (OpenSpec.ofChange turnRadiiWrong)

/-- 'flightdecklaw12.TurnBanks': WHATEVER THE INPUT: true; the input reads as it did. -/
def turnBanksSpec : ChangeSpec := { name := "turnBanks", fn := fun _ => fun
  | [d1, d2] => { results := [.lit (.bool true)], args := [d1, d2] }
  | _ => none }
def turnBanksRow : OpenClaim := { program := "yteedgcffdgkicaa", sum := "5b792b5e3b90c90324d0b566b5243122fd889f3d13ba17fef6edf5b266ec411e", func := "flightdeck/flightdecklaw12.TurnBanks", spec := "turnBanks", unfollowed := true, recurses := true, named := ["math/bits.divideError", "math/bits.overflowError"], apart := false }
def TurnBanksSaid : Prop := turnBanksRow.holds Try.pinned (OpenSpec.ofChange turnBanksSpec)

/-- ITS FALSE NEIGHBOUR: 'it returns false'. Refute it at one input. -/
def turnBanksWrong : ChangeSpec := { name := "turnBanks", fn := fun _ => fun
  | [d1, d2] => { results := [.lit (.bool false)], args := [d1, d2] }
  | _ => none }
def TurnBanksWrongFalsely : Prop := turnBanksRow.holds Try.pinned (OpenSpec.ofChange turnBanksWrong)

/-- 'flightdecklaw11.LineSides': WHATEVER THE INPUT: true; the input reads as it did. -/
def lineSidesSpec : ChangeSpec := { name := "lineSides", fn := fun _ => fun
  | [d1, d2, d3] => { results := [.lit (.bool true)], args := [d1, d2, d3] }
  | _ => none }
def lineSidesRow : OpenClaim := { program := "yteedgcffdgkicaa", sum := "5b792b5e3b90c90324d0b566b5243122fd889f3d13ba17fef6edf5b266ec411e", func := "flightdeck/flightdecklaw11.LineSides", spec := "lineSides", inPlace := ["math/bits.Sub64", "math/bits.Add64"], unfollowed := true, recurses := true, named := ["math/bits.divideError", "math/bits.overflowError"], apart := false }
def LineSidesSaid : Prop := lineSidesRow.holds Try.pinned (OpenSpec.ofChange lineSidesSpec)

/-- ITS FALSE NEIGHBOUR: 'it returns false'. Refute it at one input. -/
def lineSidesWrong : ChangeSpec := { name := "lineSides", fn := fun _ => fun
  | [d1, d2, d3] => { results := [.lit (.bool false)], args := [d1, d2, d3] }
  | _ => none }
def LineSidesWrongFalsely : Prop := lineSidesRow.holds Try.pinned (OpenSpec.ofChange lineSidesWrong)

/-- 'flightdecklaw11.LineAheads': WHATEVER THE INPUT: true; the input reads as it did. -/
def lineAheadsSpec : ChangeSpec := { name := "lineAheads", fn := fun _ => fun
  | [d1, d2, d3] => { results := [.lit (.bool true)], args := [d1, d2, d3] }
  | _ => none }
def lineAheadsRow : OpenClaim := { program := "yteedgcffdgkicaa", sum := "5b792b5e3b90c90324d0b566b5243122fd889f3d13ba17fef6edf5b266ec411e", func := "flightdeck/flightdecklaw11.LineAheads", spec := "lineAheads", inPlace := ["math/bits.Sub64", "math/bits.Add64"], unfollowed := true, recurses := true, named := ["math/bits.divideError", "math/bits.overflowError"], apart := false }
def LineAheadsSaid : Prop := lineAheadsRow.holds Try.pinned (OpenSpec.ofChange lineAheadsSpec)

/-- ITS FALSE NEIGHBOUR: 'it returns false'. Refute it at one input. -/
def lineAheadsWrong : ChangeSpec := { name := "lineAheads", fn := fun _ => fun
  | [d1, d2, d3] => { results := [.lit (.bool false)], args := [d1, d2, d3] }
  | _ => none }
def LineAheadsWrongFalsely : Prop := lineAheadsRow.holds Try.pinned (OpenSpec.ofChange lineAheadsWrong)

/-- 'flightdecklaw11.LineOffsets': WHATEVER THE INPUT: true; the input reads as it did. -/
def lineOffsetsSpec : ChangeSpec := { name := "lineOffsets", fn := fun _ => fun
  | [d1, d2, d3] => { results := [.lit (.bool true)], args := [d1, d2, d3] }
  | _ => none }
def lineOffsetsRow : OpenClaim := { program := "yteedgcffdgkicaa", sum := "5b792b5e3b90c90324d0b566b5243122fd889f3d13ba17fef6edf5b266ec411e", func := "flightdeck/flightdecklaw11.LineOffsets", spec := "lineOffsets", inPlace := ["math/bits.Sub64", "math/bits.Add64"], unfollowed := true, recurses := true, named := ["math/bits.divideError", "math/bits.overflowError"], apart := false }
def LineOffsetsSaid : Prop := lineOffsetsRow.holds Try.pinned (OpenSpec.ofChange lineOffsetsSpec)

/-- ITS FALSE NEIGHBOUR: 'it returns false'. Refute it at one input. -/
def lineOffsetsWrong : ChangeSpec := { name := "lineOffsets", fn := fun _ => fun
  | [d1, d2, d3] => { results := [.lit (.bool false)], args := [d1, d2, d3] }
  | _ => none }
def LineOffsetsWrongFalsely : Prop := lineOffsetsRow.holds Try.pinned (OpenSpec.ofChange lineOffsetsWrong)

/-- 'flightdecklaw11.LineFeet': WHATEVER THE INPUT: true; the input reads as it did. -/
def lineFeetSpec : ChangeSpec := { name := "lineFeet", fn := fun _ => fun
  | [d1, d2, d3] => { results := [.lit (.bool true)], args := [d1, d2, d3] }
  | _ => none }
def lineFeetRow : OpenClaim := { program := "yteedgcffdgkicaa", sum := "5b792b5e3b90c90324d0b566b5243122fd889f3d13ba17fef6edf5b266ec411e", func := "flightdeck/flightdecklaw11.LineFeet", spec := "lineFeet", inPlace := ["math/bits.Sub64", "math/bits.Add64"], unfollowed := true, recurses := true, named := ["math/bits.divideError", "math/bits.overflowError"], apart := false }
def LineFeetSaid : Prop := lineFeetRow.holds Try.pinned (OpenSpec.ofChange lineFeetSpec)

/-- ITS FALSE NEIGHBOUR: 'it returns false'. Refute it at one input. -/
def lineFeetWrong : ChangeSpec := { name := "lineFeet", fn := fun _ => fun
  | [d1, d2, d3] => { results := [.lit (.bool false)], args := [d1, d2, d3] }
  | _ => none }
def LineFeetWrongFalsely : Prop := lineFeetRow.holds Try.pinned (OpenSpec.ofChange lineFeetWrong)

/-- 'flightdecklaw11.LineMeets': WHATEVER THE INPUT: true; the input reads as it did. -/
def lineMeetsSpec : ChangeSpec := { name := "lineMeets", fn := fun _ => fun
  | [d] => { results := [.lit (.bool true)], args := [d] }
  | _ => none }
def lineMeetsRow : OpenClaim := { program := "yteedgcffdgkicaa", sum := "5b792b5e3b90c90324d0b566b5243122fd889f3d13ba17fef6edf5b266ec411e", func := "flightdeck/flightdecklaw11.LineMeets", spec := "lineMeets", inPlace := ["math/bits.Sub64", "math/bits.Add64"], unfollowed := true, recurses := true, named := ["math/bits.divideError", "math/bits.overflowError"], apart := false }
def LineMeetsSaid : Prop := lineMeetsRow.holds Try.pinned (OpenSpec.ofChange lineMeetsSpec)

/-- ITS FALSE NEIGHBOUR: 'it returns false'. Refute it at one input. -/
def lineMeetsWrong : ChangeSpec := { name := "lineMeets", fn := fun _ => fun
  | [d] => { results := [.lit (.bool false)], args := [d] }
  | _ => none }
def LineMeetsWrongFalsely : Prop := lineMeetsRow.holds Try.pinned (OpenSpec.ofChange lineMeetsWrong)

/-- 'flightdecklaw11.LinePasts': WHATEVER THE INPUT: true; the input reads as it did. -/
def linePastsSpec : ChangeSpec := { name := "linePasts", fn := fun _ => fun
  | [d] => { results := [.lit (.bool true)], args := [d] }
  | _ => none }
def linePastsRow : OpenClaim := { program := "yteedgcffdgkicaa", sum := "5b792b5e3b90c90324d0b566b5243122fd889f3d13ba17fef6edf5b266ec411e", func := "flightdeck/flightdecklaw11.LinePasts", spec := "linePasts", inPlace := ["math/bits.Sub64", "math/bits.Add64"], unfollowed := true, recurses := true, named := ["math/bits.divideError", "math/bits.overflowError"], apart := false }
def LinePastsSaid : Prop := linePastsRow.holds Try.pinned (OpenSpec.ofChange linePastsSpec)

/-- ITS FALSE NEIGHBOUR: 'it returns false'. Refute it at one input. -/
def linePastsWrong : ChangeSpec := { name := "linePasts", fn := fun _ => fun
  | [d] => { results := [.lit (.bool false)], args := [d] }
  | _ => none }
def LinePastsWrongFalsely : Prop := linePastsRow.holds Try.pinned (OpenSpec.ofChange linePastsWrong)

/-- 'flightdecklaw12.TurnTouches': WHATEVER THE INPUT: true; the input reads as it did. -/
def turnTouchesSpec : ChangeSpec := { name := "turnTouches", fn := fun _ => fun
  | [d1, d2] => { results := [.lit (.bool true)], args := [d1, d2] }
  | _ => none }
def turnTouchesRow : OpenClaim := { program := "yteedgcffdgkicaa", sum := "5b792b5e3b90c90324d0b566b5243122fd889f3d13ba17fef6edf5b266ec411e", func := "flightdeck/flightdecklaw12.TurnTouches", spec := "turnTouches", inPlace := ["math/bits.Sub64", "math/bits.Add64"], unfollowed := true, recurses := true, named := ["math/bits.divideError", "math/bits.overflowError"], apart := false }
def TurnTouchesSaid : Prop := turnTouchesRow.holds Try.pinned (OpenSpec.ofChange turnTouchesSpec)

/-- ITS FALSE NEIGHBOUR: 'it returns false'. Refute it at one input. -/
def turnTouchesWrong : ChangeSpec := { name := "turnTouches", fn := fun _ => fun
  | [d1, d2] => { results := [.lit (.bool false)], args := [d1, d2] }
  | _ => none }
def TurnTouchesWrongFalsely : Prop := turnTouchesRow.holds Try.pinned (OpenSpec.ofChange turnTouchesWrong)

/- THE SECOND FORM. 'bulk': how many values and letters a reading holds, each counted each time it is reached (what is shared counts as often as it is met; a slice's spare places count too). A statement '..UptoSaid' is the law's where the arguments, and the package variables that the reading takes, are together of bulk at most 1048576: NARROWER than '..Said'. Prove '..Said' where nothing that the law and all that it calls make is longer than what came in: it says more and counts as full. Else prove '..UptoSaid'. A law counts once. -/
mutual
def uptoBulk {H : Type} : DataW H → Nat
  | .lit (.string bytes) => bytes.length + 1
  | .lit _ => 1
  | .nil => 1
  | .ptr d => uptoBulk d + 1
  | .slice elems spare => uptoBulkAll elems + uptoBulkAll spare + 1
  | .agg parts => uptoBulkAll parts + 1
  | .iface _ d => uptoBulk d + 1
  | .map entries => uptoBulkEntries entries + 1
  | .held _ => 1
def uptoBulkAll {H : Type} : List (DataW H) → Nat
  | [] => 0
  | d :: r => uptoBulk d + uptoBulkAll r
def uptoBulkEntries {H : Type} : List (Lit × DataW H) → Nat
  | [] => 0
  | x :: r => uptoBulkEntry x + uptoBulkEntries r
def uptoBulkEntry {H : Type} : Lit × DataW H → Nat
  | (.string bytes, d) => bytes.length + uptoBulk d + 1
  | (_, d) => uptoBulk d + 1
 end
def uptoSmall : (H : Type) → List (DataW H) → Bool := fun _ ds => decide (uptoBulkAll ds ≤ 1048576)
def OpenSpec.upto (s : _root_.Go.ChangeSpec) : _root_.Go.OpenSpec := { _root_.Go.OpenSpec.ofChange s with cond := some uptoSmall }

/-- 'flightdecklaw12.TurnArcs', WHERE WHAT IT READS IS OF BULK AT MOST 1048576: true; the input reads as it did. -/
def turnArcsUptoRow : OpenClaim := { program := "yteedgcffdgkicaa", sum := "5b792b5e3b90c90324d0b566b5243122fd889f3d13ba17fef6edf5b266ec411e", func := "flightdeck/flightdecklaw12.TurnArcs", spec := "turnArcs", unfollowed := true, recurses := true, named := ["math/bits.divideError", "math/bits.overflowError"], apart := false, narrowed := true }
def TurnArcsUptoSaid : Prop := turnArcsUptoRow.holds Try.pinned (OpenSpec.upto turnArcsSpec)

/-- 'flightdecklaw12.TurnSplits', WHERE WHAT IT READS IS OF BULK AT MOST 1048576: true; the input reads as it did. -/
def turnSplitsUptoRow : OpenClaim := { program := "yteedgcffdgkicaa", sum := "5b792b5e3b90c90324d0b566b5243122fd889f3d13ba17fef6edf5b266ec411e", func := "flightdeck/flightdecklaw12.TurnSplits", spec := "turnSplits", unfollowed := true, recurses := true, named := ["math/bits.divideError", "math/bits.overflowError"], apart := false, narrowed := true }
def TurnSplitsUptoSaid : Prop := turnSplitsUptoRow.holds Try.pinned (OpenSpec.upto turnSplitsSpec)

/-- 'flightdecklaw12.TurnOffsets', WHERE WHAT IT READS IS OF BULK AT MOST 1048576: true; the input reads as it did. -/
def turnOffsetsUptoRow : OpenClaim := { program := "yteedgcffdgkicaa", sum := "5b792b5e3b90c90324d0b566b5243122fd889f3d13ba17fef6edf5b266ec411e", func := "flightdeck/flightdecklaw12.TurnOffsets", spec := "turnOffsets", unfollowed := true, recurses := true, named := ["math/bits.divideError", "math/bits.overflowError"], apart := false, narrowed := true }
def TurnOffsetsUptoSaid : Prop := turnOffsetsUptoRow.holds Try.pinned (OpenSpec.upto turnOffsetsSpec)

/-- 'flightdecklaw12.TurnTracks', WHERE WHAT IT READS IS OF BULK AT MOST 1048576: true; the input reads as it did. -/
def turnTracksUptoRow : OpenClaim := { program := "yteedgcffdgkicaa", sum := "5b792b5e3b90c90324d0b566b5243122fd889f3d13ba17fef6edf5b266ec411e", func := "flightdeck/flightdecklaw12.TurnTracks", spec := "turnTracks", unfollowed := true, recurses := true, named := ["math/bits.divideError", "math/bits.overflowError"], apart := false, narrowed := true }
def TurnTracksUptoSaid : Prop := turnTracksUptoRow.holds Try.pinned (OpenSpec.upto turnTracksSpec)

/-- 'flightdecklaw12.TurnFlyBys', WHERE WHAT IT READS IS OF BULK AT MOST 1048576: true; the input reads as it did. -/
def turnFlyBysUptoRow : OpenClaim := { program := "yteedgcffdgkicaa", sum := "5b792b5e3b90c90324d0b566b5243122fd889f3d13ba17fef6edf5b266ec411e", func := "flightdeck/flightdecklaw12.TurnFlyBys", spec := "turnFlyBys", unfollowed := true, recurses := true, named := ["math/bits.divideError", "math/bits.overflowError"], apart := false, narrowed := true }
def TurnFlyBysUptoSaid : Prop := turnFlyBysUptoRow.holds Try.pinned (OpenSpec.upto turnFlyBysSpec)

/-- 'flightdecklaw12.TurnGaps', WHERE WHAT IT READS IS OF BULK AT MOST 1048576: true; the input reads as it did. -/
def turnGapsUptoRow : OpenClaim := { program := "yteedgcffdgkicaa", sum := "5b792b5e3b90c90324d0b566b5243122fd889f3d13ba17fef6edf5b266ec411e", func := "flightdeck/flightdecklaw12.TurnGaps", spec := "turnGaps", unfollowed := true, recurses := true, named := ["math/bits.divideError", "math/bits.overflowError"], apart := false, narrowed := true }
def TurnGapsUptoSaid : Prop := turnGapsUptoRow.holds Try.pinned (OpenSpec.upto turnGapsSpec)

/-- 'flightdecklaw12.TurnTangents', WHERE WHAT IT READS IS OF BULK AT MOST 1048576: true; the input reads as it did. -/
def turnTangentsUptoRow : OpenClaim := { program := "yteedgcffdgkicaa", sum := "5b792b5e3b90c90324d0b566b5243122fd889f3d13ba17fef6edf5b266ec411e", func := "flightdeck/flightdecklaw12.TurnTangents", spec := "turnTangents", unfollowed := true, recurses := true, named := ["math/bits.divideError", "math/bits.overflowError"], apart := false, narrowed := true }
def TurnTangentsUptoSaid : Prop := turnTangentsUptoRow.holds Try.pinned (OpenSpec.upto turnTangentsSpec)

/-- 'flightdecklaw12.TurnArounds', WHERE WHAT IT READS IS OF BULK AT MOST 1048576: true; the input reads as it did. -/
def turnAroundsUptoRow : OpenClaim := { program := "yteedgcffdgkicaa", sum := "5b792b5e3b90c90324d0b566b5243122fd889f3d13ba17fef6edf5b266ec411e", func := "flightdeck/flightdecklaw12.TurnArounds", spec := "turnArounds", unfollowed := true, recurses := true, named := ["math/bits.divideError", "math/bits.overflowError"], apart := false, narrowed := true }
def TurnAroundsUptoSaid : Prop := turnAroundsUptoRow.holds Try.pinned (OpenSpec.upto turnAroundsSpec)

/-- 'flightdecklaw12.TurnRadii', WHERE WHAT IT READS IS OF BULK AT MOST 1048576: true; the input reads as it did. -/
def turnRadiiUptoRow : OpenClaim := { program := "yteedgcffdgkicaa", sum := "5b792b5e3b90c90324d0b566b5243122fd889f3d13ba17fef6edf5b266ec411e", func := "flightdeck/flightdecklaw12.TurnRadii", spec := "turnRadii", unfollowed := true, recurses := true, named := ["math/bits.divideError", "math/bits.overflowError"], apart := false, narrowed := true }
def TurnRadiiUptoSaid : Prop := turnRadiiUptoRow.holds Try.pinned (OpenSpec.upto turnRadiiSpec)

/-- 'flightdecklaw12.TurnBanks', WHERE WHAT IT READS IS OF BULK AT MOST 1048576: true; the input reads as it did. -/
def turnBanksUptoRow : OpenClaim := { program := "yteedgcffdgkicaa", sum := "5b792b5e3b90c90324d0b566b5243122fd889f3d13ba17fef6edf5b266ec411e", func := "flightdeck/flightdecklaw12.TurnBanks", spec := "turnBanks", unfollowed := true, recurses := true, named := ["math/bits.divideError", "math/bits.overflowError"], apart := false, narrowed := true }
def TurnBanksUptoSaid : Prop := turnBanksUptoRow.holds Try.pinned (OpenSpec.upto turnBanksSpec)

/-- 'flightdecklaw11.LineSides', WHERE WHAT IT READS IS OF BULK AT MOST 1048576: true; the input reads as it did. -/
def lineSidesUptoRow : OpenClaim := { program := "yteedgcffdgkicaa", sum := "5b792b5e3b90c90324d0b566b5243122fd889f3d13ba17fef6edf5b266ec411e", func := "flightdeck/flightdecklaw11.LineSides", spec := "lineSides", inPlace := ["math/bits.Sub64", "math/bits.Add64"], unfollowed := true, recurses := true, named := ["math/bits.divideError", "math/bits.overflowError"], apart := false, narrowed := true }
def LineSidesUptoSaid : Prop := lineSidesUptoRow.holds Try.pinned (OpenSpec.upto lineSidesSpec)

/-- 'flightdecklaw11.LineAheads', WHERE WHAT IT READS IS OF BULK AT MOST 1048576: true; the input reads as it did. -/
def lineAheadsUptoRow : OpenClaim := { program := "yteedgcffdgkicaa", sum := "5b792b5e3b90c90324d0b566b5243122fd889f3d13ba17fef6edf5b266ec411e", func := "flightdeck/flightdecklaw11.LineAheads", spec := "lineAheads", inPlace := ["math/bits.Sub64", "math/bits.Add64"], unfollowed := true, recurses := true, named := ["math/bits.divideError", "math/bits.overflowError"], apart := false, narrowed := true }
def LineAheadsUptoSaid : Prop := lineAheadsUptoRow.holds Try.pinned (OpenSpec.upto lineAheadsSpec)

/-- 'flightdecklaw11.LineOffsets', WHERE WHAT IT READS IS OF BULK AT MOST 1048576: true; the input reads as it did. -/
def lineOffsetsUptoRow : OpenClaim := { program := "yteedgcffdgkicaa", sum := "5b792b5e3b90c90324d0b566b5243122fd889f3d13ba17fef6edf5b266ec411e", func := "flightdeck/flightdecklaw11.LineOffsets", spec := "lineOffsets", inPlace := ["math/bits.Sub64", "math/bits.Add64"], unfollowed := true, recurses := true, named := ["math/bits.divideError", "math/bits.overflowError"], apart := false, narrowed := true }
def LineOffsetsUptoSaid : Prop := lineOffsetsUptoRow.holds Try.pinned (OpenSpec.upto lineOffsetsSpec)

/-- 'flightdecklaw11.LineFeet', WHERE WHAT IT READS IS OF BULK AT MOST 1048576: true; the input reads as it did. -/
def lineFeetUptoRow : OpenClaim := { program := "yteedgcffdgkicaa", sum := "5b792b5e3b90c90324d0b566b5243122fd889f3d13ba17fef6edf5b266ec411e", func := "flightdeck/flightdecklaw11.LineFeet", spec := "lineFeet", inPlace := ["math/bits.Sub64", "math/bits.Add64"], unfollowed := true, recurses := true, named := ["math/bits.divideError", "math/bits.overflowError"], apart := false, narrowed := true }
def LineFeetUptoSaid : Prop := lineFeetUptoRow.holds Try.pinned (OpenSpec.upto lineFeetSpec)

/-- 'flightdecklaw11.LineMeets', WHERE WHAT IT READS IS OF BULK AT MOST 1048576: true; the input reads as it did. -/
def lineMeetsUptoRow : OpenClaim := { program := "yteedgcffdgkicaa", sum := "5b792b5e3b90c90324d0b566b5243122fd889f3d13ba17fef6edf5b266ec411e", func := "flightdeck/flightdecklaw11.LineMeets", spec := "lineMeets", inPlace := ["math/bits.Sub64", "math/bits.Add64"], unfollowed := true, recurses := true, named := ["math/bits.divideError", "math/bits.overflowError"], apart := false, narrowed := true }
def LineMeetsUptoSaid : Prop := lineMeetsUptoRow.holds Try.pinned (OpenSpec.upto lineMeetsSpec)

/-- 'flightdecklaw11.LinePasts', WHERE WHAT IT READS IS OF BULK AT MOST 1048576: true; the input reads as it did. -/
def linePastsUptoRow : OpenClaim := { program := "yteedgcffdgkicaa", sum := "5b792b5e3b90c90324d0b566b5243122fd889f3d13ba17fef6edf5b266ec411e", func := "flightdeck/flightdecklaw11.LinePasts", spec := "linePasts", inPlace := ["math/bits.Sub64", "math/bits.Add64"], unfollowed := true, recurses := true, named := ["math/bits.divideError", "math/bits.overflowError"], apart := false, narrowed := true }
def LinePastsUptoSaid : Prop := linePastsUptoRow.holds Try.pinned (OpenSpec.upto linePastsSpec)

/-- 'flightdecklaw12.TurnTouches', WHERE WHAT IT READS IS OF BULK AT MOST 1048576: true; the input reads as it did. -/
def turnTouchesUptoRow : OpenClaim := { program := "yteedgcffdgkicaa", sum := "5b792b5e3b90c90324d0b566b5243122fd889f3d13ba17fef6edf5b266ec411e", func := "flightdeck/flightdecklaw12.TurnTouches", spec := "turnTouches", inPlace := ["math/bits.Sub64", "math/bits.Add64"], unfollowed := true, recurses := true, named := ["math/bits.divideError", "math/bits.overflowError"], apart := false, narrowed := true }
def TurnTouchesUptoSaid : Prop := turnTouchesUptoRow.holds Try.pinned (OpenSpec.upto turnTouchesSpec)

end Rows
end Go.Proofs.Yteedgcffdgkicaa
