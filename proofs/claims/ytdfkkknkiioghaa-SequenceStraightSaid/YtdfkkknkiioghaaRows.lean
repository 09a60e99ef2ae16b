/-
  No cell of these rows narrows 'for every input' (looked for: loops, veiled, ifaces, maps, wideKeys, modest, calm, conditions, laid).
  DERIVED. THE GIVEN ROWS OF THIS SEAT. 6 by the template 'for every input the law returns true; each argument reads behind the call as it read before'; 0 by the template 'total and deterministic' (their statements: YtdfkkknkiioghaaTotals.lean).
  GIVEN WITH THE SEED: the statements are not yours to turn. If you find one false, say at which input.
  Laid BY PROGRAM, IN A SANDBOX (cutbox-rows.mjs): the forced cells as the released guide's own fill.sh prints them over the translation c87c767db9baad60… (all of the seat's roots in one cut). By AI agents, Wed Nov 11 2026. No macro, syntax, notation, axiom, sorry.
-/
import Derived.Test.YtdfkkknkiioghaaChecked
import GoSem.Claim
import GoSem.ClaimJoined
import GoSem.ClaimMapViews
import Derived.JoinedTies
import Derived.KernelRfl
namespace Go.Proofs.Ytdfkkknkiioghaa
/- THE CELL 'sum', in the pinned program and in every row, IS THE sha256 OF THE DUMP (.gsa) THAT YtdfkkknkiioghaaProg.lean LOADS. Nothing in Lean hashes anything: it is a label: what it is worth is what the hold of that sum in a sandbox is worth. -/
noncomputable def Try.pinned : Pinned := { name := "ytdfkkknkiioghaa", sum := "c87c767db9baad60d131a077ac457e2da6da9e54ecb6647484f0f161ce86cca2", checked := Try.checked }
namespace Rows
def none {H : Type} : Left H := { results := [], args := [] }

/-- 'flightdecktop.TopCentered': WHATEVER THE INPUT: true; the input reads as it did. -/
def topCenteredSpec : ChangeSpec := { name := "topCentered", fn := fun _ => fun
  | [d1, d2, d3] => { results := [.lit (.bool true)], args := [d1, d2, d3] }
  | _ => none }
def topCenteredRow : OpenClaim := { program := "ytdfkkknkiioghaa", sum := "c87c767db9baad60d131a077ac457e2da6da9e54ecb6647484f0f161ce86cca2", func := "flightdeck/flightdecktop.TopCentered", spec := "topCentered", inPlace := ["math/bits.Sub64", "math/bits.Add64"], unfollowed := true, recurses := true, named := ["math/bits.divideError", "math/bits.overflowError"], apart := false }
def TopCenteredSaid : Prop := topCenteredRow.holds Try.pinned (OpenSpec.ofChange topCenteredSpec)

/-- ITS FALSE NEIGHBOUR: 'it returns false'. Refute it at one input. -/
def topCenteredWrong : ChangeSpec := { name := "topCentered", fn := fun _ => fun
  | [d1, d2, d3] => { results := [.lit (.bool false)], args := [d1, d2, d3] }
  | _ => none }
def TopCenteredWrongFalsely : Prop := topCenteredRow.holds Try.pinned (OpenSpec.ofChange topCenteredWrong)

/-- 'flightdecklaw28.SequencePasts': WHATEVER THE INPUT: true; the input reads as it did. -/
def sequencePastsSpec : ChangeSpec := { name := "sequencePasts", fn := fun _ => fun
  | [d1, d2] => { results := [.lit (.bool true)], args := [d1, d2] }
  | _ => none }
def sequencePastsRow : OpenClaim := { program := "ytdfkkknkiioghaa", sum := "c87c767db9baad60d131a077ac457e2da6da9e54ecb6647484f0f161ce86cca2", func := "flightdeck/flightdecklaw28.SequencePasts", spec := "sequencePasts", inPlace := ["math/bits.Sub64", "math/bits.Add64"], unfollowed := true, recurses := true, named := ["math/bits.divideError", "math/bits.overflowError"], apart := false }
def SequencePastsSaid : Prop := sequencePastsRow.holds Try.pinned (OpenSpec.ofChange sequencePastsSpec)

/-- ITS FALSE NEIGHBOUR: 'it returns false'. Refute it at one input. -/
def sequencePastsWrong : ChangeSpec := { name := "sequencePasts", fn := fun _ => fun
  | [d1, d2] => { results := [.lit (.bool false)], args := [d1, d2] }
  | _ => none }
def SequencePastsWrongFalsely : Prop := sequencePastsRow.holds Try.pinned (OpenSpec.ofChange sequencePastsWrong)

/-- 'flightdecklaw28.SequencePlays': WHATEVER THE INPUT: true; the input reads as it did. -/
def sequencePlaysSpec : ChangeSpec := { name := "sequencePlays", fn := fun _ => fun
  | [d1, d2] => { results := [.lit (.bool true)], args := [d1, d2] }
  | _ => none }
def sequencePlaysRow : OpenClaim := { program := "ytdfkkknkiioghaa", sum := "c87c767db9baad60d131a077ac457e2da6da9e54ecb6647484f0f161ce86cca2", func := "flightdeck/flightdecklaw28.SequencePlays", spec := "sequencePlays", inPlace := ["math/bits.Sub64", "math/bits.Add64"], unfollowed := true, recurses := true, named := ["math/bits.divideError", "math/bits.overflowError"], apart := false }
def SequencePlaysSaid : Prop := sequencePlaysRow.holds Try.pinned (OpenSpec.ofChange sequencePlaysSpec)

/-- ITS FALSE NEIGHBOUR: 'it returns false'. Refute it at one input. -/
def sequencePlaysWrong : ChangeSpec := { name := "sequencePlays", fn := fun _ => fun
  | [d1, d2] => { results := [.lit (.bool false)], args := [d1, d2] }
  | _ => none }
def SequencePlaysWrongFalsely : Prop := sequencePlaysRow.holds Try.pinned (OpenSpec.ofChange sequencePlaysWrong)

/-- 'flightdecklaw28.SequenceStraight': WHATEVER THE INPUT: true; the input reads as it did. -/
def sequenceStraightSpec : ChangeSpec := { name := "sequenceStraight", fn := fun _ => fun
  | [d] => { results := [.lit (.bool true)], args := [d] }
  | _ => none }
def sequenceStraightRow : OpenClaim := { program := "ytdfkkknkiioghaa", sum := "c87c767db9baad60d131a077ac457e2da6da9e54ecb6647484f0f161ce86cca2", func := "flightdeck/flightdecklaw28.SequenceStraight", spec := "sequenceStraight", inPlace := ["math/bits.Sub64", "math/bits.Add64"], unfollowed := true, recurses := true, named := ["math/bits.divideError", "math/bits.overflowError"], apart := false }
def SequenceStraightSaid : Prop := sequenceStraightRow.holds Try.pinned (OpenSpec.ofChange sequenceStraightSpec)

/-- ITS FALSE NEIGHBOUR: 'it returns false'. Refute it at one input. -/
def sequenceStraightWrong : ChangeSpec := { name := "sequenceStraight", fn := fun _ => fun
  | [d] => { results := [.lit (.bool false)], args := [d] }
  | _ => none }
def SequenceStraightWrongFalsely : Prop := sequenceStraightRow.holds Try.pinned (OpenSpec.ofChange sequenceStraightWrong)

/-- 'flightdecklaw28.SequenceWhole': WHATEVER THE INPUT: true; the input reads as it did. -/
def sequenceWholeSpec : ChangeSpec := { name := "sequenceWhole", fn := fun _ => fun
  | [d] => { results := [.lit (.bool true)], args := [d] }
  | _ => none }
def sequenceWholeRow : OpenClaim := { program := "ytdfkkknkiioghaa", sum := "c87c767db9baad60d131a077ac457e2da6da9e54ecb6647484f0f161ce86cca2", func := "flightdeck/flightdecklaw28.SequenceWhole", spec := "sequenceWhole", inPlace := ["math/bits.Sub64", "math/bits.Add64"], unfollowed := true, recurses := true, named := ["math/bits.divideError", "math/bits.overflowError"], apart := false }
def SequenceWholeSaid : Prop := sequenceWholeRow.holds Try.pinned (OpenSpec.ofChange sequenceWholeSpec)

/-- ITS FALSE NEIGHBOUR: 'it returns false'. Refute it at one input. -/
def sequenceWholeWrong : ChangeSpec := { name := "sequenceWhole", fn := fun _ => fun
  | [d] => { results := [.lit (.bool false)], args := [d] }
  | _ => none }
def SequenceWholeWrongFalsely : Prop := sequenceWholeRow.holds Try.pinned (OpenSpec.ofChange sequenceWholeWrong)

/-- 'flightdecklaw50.LateralCentered': WHATEVER THE INPUT: true; the input reads as it did. -/
def lateralCenteredSpec : ChangeSpec := { name := "lateralCentered", fn := fun _ => fun
  | [d1, d2, d3] => { results := [.lit (.bool true)], args := [d1, d2, d3] }
  | _ => none }
def lateralCenteredRow : OpenClaim := { program := "ytdfkkknkiioghaa", sum := "c87c767db9baad60d131a077ac457e2da6da9e54ecb6647484f0f161ce86cca2", func := "flightdeck/flightdecklaw50.LateralCentered", spec := "lateralCentered", inPlace := ["math/bits.Sub64", "math/bits.Add64"], unfollowed := true, recurses := true, named := ["math/bits.divideError", "math/bits.overflowError"], apart := false }
def LateralCenteredSaid : Prop := lateralCenteredRow.holds Try.pinned (OpenSpec.ofChange lateralCenteredSpec)

/-- ITS FALSE NEIGHBOUR: 'it returns false'. Refute it at one input. -/
def lateralCenteredWrong : ChangeSpec := { name := "lateralCentered", fn := fun _ => fun
  | [d1, d2, d3] => { results := [.lit (.bool false)], args := [d1, d2, d3] }
  | _ => none }
def LateralCenteredWrongFalsely : Prop := lateralCenteredRow.holds Try.pinned (OpenSpec.ofChange lateralCenteredWrong)

/- THE SECOND FORM. 'bulk': how many values and letters a reading holds, each counted each time it is reached (what is shared counts as often as it is met; a slice's spare places count too). A statement '..UptoSaid' is the law's where the arguments, and the package variables that the reading takes, are together of bulk at most 1048576: NARROWER than '..Said'. Prove '..Said' where nothing that the law and all that it calls make is longer than what came in: it says more and counts as full. Else prove '..UptoSaid'. A law counts once. -/
mutual
def uptoBulk {H : Type} : DataW H → Nat
  | .lit (.string bytes) => bytes.length + 1
  | .lit _ => 1
  | .nil => 1
  | .ptr d => uptoBulk d + 1
  | .slice elems spare => uptoBulkAll elems + uptoBulkAll spare + 1
  | .agg parts => uptoBulkAll parts + 1
  | .iface _ d => uptoBulk d + 1
  | .map entries => uptoBulkEntries entries + 1
  | .held _ => 1
def uptoBulkAll {H : Type} : List (DataW H) → Nat
  | [] => 0
  | d :: r => uptoBulk d + uptoBulkAll r
def uptoBulkEntries {H : Type} : List (Lit × DataW H) → Nat
  | [] => 0
  | x :: r => uptoBulkEntry x + uptoBulkEntries r
def uptoBulkEntry {H : Type} : Lit × DataW H → Nat
  | (.string bytes, d) => bytes.length + uptoBulk d + 1
  | (_, d) => uptoBulk d + 1
 end
def uptoSmall : (H : Type) → List (DataW H) → Bool := fun _ ds => decide (uptoBulkAll ds ≤ 1048576)
def OpenSpec.upto (s : _root_.Go.ChangeSpec) : _root_.Go.OpenSpec := { _root_.Go.OpenSpec.ofChange s with cond := some uptoSmall }

/-- 'flightdecktop.TopCentered', WHERE WHAT IT READS IS OF BULK AT MOST 1048576: true; the input reads as it did. -/
def topCenteredUptoRow : OpenClaim := { program := "ytdfkkknkiioghaa", sum := "c87c767db9baad60d131a077ac457e2da6da9e54ecb6647484f0f161ce86cca2", func := "flightdeck/flightdecktop.TopCentered", spec := "topCentered", inPlace := ["math/bits.Sub64", "math/bits.Add64"], unfollowed := true, recurses := true, named := ["math/bits.divideError", "math/bits.overflowError"], apart := false, narrowed := true }
def TopCenteredUptoSaid : Prop := topCenteredUptoRow.holds Try.pinned (OpenSpec.upto topCenteredSpec)

/-- 'flightdecklaw28.SequencePasts', WHERE WHAT IT READS IS OF BULK AT MOST 1048576: true; the input reads as it did. -/
def sequencePastsUptoRow : OpenClaim := { program := "ytdfkkknkiioghaa", sum := "c87c767db9baad60d131a077ac457e2da6da9e54ecb6647484f0f161ce86cca2", func := "flightdeck/flightdecklaw28.SequencePasts", spec := "sequencePasts", inPlace := ["math/bits.Sub64", "math/bits.Add64"], unfollowed := true, recurses := true, named := ["math/bits.divideError", "math/bits.overflowError"], apart := false, narrowed := true }
def SequencePastsUptoSaid : Prop := sequencePastsUptoRow.holds Try.pinned (OpenSpec.upto sequencePastsSpec)

/-- 'flightdecklaw28.SequencePlays', WHERE WHAT IT READS IS OF BULK AT MOST 1048576: true; the input reads as it did. -/
def sequencePlaysUptoRow : OpenClaim := { program := "ytdfkkknkiioghaa", sum := "c87c767db9baad60d131a077ac457e2da6da9e54ecb6647484f0f161ce86cca2", func := "flightdeck/flightdecklaw28.SequencePlays", spec := "sequencePlays", inPlace := ["math/bits.Sub64", "math/bits.Add64"], unfollowed := true, recurses := true, named := ["math/bits.divideError", "math/bits.overflowError"], apart := false, narrowed := true }
def SequencePlaysUptoSaid : Prop := sequencePlaysUptoRow.holds Try.pinned (OpenSpec.upto sequencePlaysSpec)

/-- 'flightdecklaw28.SequenceStraight', WHERE WHAT IT READS IS OF BULK AT MOST 1048576: true; the input reads as it did. -/
def sequenceStraightUptoRow : OpenClaim := { program := "ytdfkkknkiioghaa", sum := "c87c767db9baad60d131a077ac457e2da6da9e54ecb6647484f0f161ce86cca2", func := "flightdeck/flightdecklaw28.SequenceStraight", spec := "sequenceStraight", inPlace := ["math/bits.Sub64", "math/bits.Add64"], unfollowed := true, recurses := true, named := ["math/bits.divideError", "math/bits.overflowError"], apart := false, narrowed := true }
def SequenceStraightUptoSaid : Prop := sequenceStraightUptoRow.holds Try.pinned (OpenSpec.upto sequenceStraightSpec)

/-- 'flightdecklaw28.SequenceWhole', WHERE WHAT IT READS IS OF BULK AT MOST 1048576: true; the input reads as it did. -/
def sequenceWholeUptoRow : OpenClaim := { program := "ytdfkkknkiioghaa", sum := "c87c767db9baad60d131a077ac457e2da6da9e54ecb6647484f0f161ce86cca2", func := "flightdeck/flightdecklaw28.SequenceWhole", spec := "sequenceWhole", inPlace := ["math/bits.Sub64", "math/bits.Add64"], unfollowed := true, recurses := true, named := ["math/bits.divideError", "math/bits.overflowError"], apart := false, narrowed := true }
def SequenceWholeUptoSaid : Prop := sequenceWholeUptoRow.holds Try.pinned (OpenSpec.upto sequenceWholeSpec)

/-- 'flightdecklaw50.LateralCentered', WHERE WHAT IT READS IS OF BULK AT MOST 1048576: true; the input reads as it did. -/
def lateralCenteredUptoRow : OpenClaim := { program := "ytdfkkknkiioghaa", sum := "c87c767db9baad60d131a077ac457e2da6da9e54ecb6647484f0f161ce86cca2", func := "flightdeck/flightdecklaw50.LateralCentered", spec := "lateralCentered", inPlace := ["math/bits.Sub64", "math/bits.Add64"], unfollowed := true, recurses := true, named := ["math/bits.divideError", "math/bits.overflowError"], apart := false, narrowed := true }
def LateralCenteredUptoSaid : Prop := lateralCenteredUptoRow.holds Try.pinned (OpenSpec.upto lateralCenteredSpec)

end Rows
end Go.Proofs.Ytdfkkknkiioghaa
