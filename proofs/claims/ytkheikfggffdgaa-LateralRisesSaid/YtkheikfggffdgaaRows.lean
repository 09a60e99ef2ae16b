/-
  No cell of these rows narrows 'for every input' (looked for: loops, veiled, ifaces, maps, wideKeys, modest, calm, conditions, laid).
  DERIVED. THE GIVEN ROWS OF THIS SEAT. 5 by the template 'for every input the law returns true; each argument reads behind the call as it read before'; 0 by the template 'total and deterministic' (their statements: YtkheikfggffdgaaTotals.lean).
  GIVEN WITH THE SEED: the statements are not yours to turn. If you find one false, say at which input.
  Laid BY PROGRAM, IN A SANDBOX (cutbox-rows.mjs): the forced cells as the released guide's own fill.sh prints them over the translation 559fe0ac2d04db84… (all of the seat's roots in one cut). By AI agents, Wed Nov 11 2026. No macro, syntax, notation, axiom, sorry.
-/
import Derived.Test.YtkheikfggffdgaaChecked
import GoSem.Claim
import GoSem.ClaimJoined
import GoSem.ClaimMapViews
import Derived.JoinedTies
import Derived.KernelRfl
namespace Go.Proofs.Ytkheikfggffdgaa
/- THE CELL 'sum', in the pinned program and in every row, IS THE sha256 OF THE DUMP (.gsa) THAT YtkheikfggffdgaaProg.lean LOADS. Nothing in Lean hashes anything: it is a label: what it is worth is what the hold of that sum in a sandbox is worth. -/
noncomputable def Try.pinned : Pinned := { name := "ytkheikfggffdgaa", sum := "559fe0ac2d04db844f9a411d292b50cddbb274e2df82964968d31c37b6e97915", checked := Try.checked }
namespace Rows
def none {H : Type} : Left H := { results := [], args := [] }

/-- 'flightdecklaw50.LateralCommands': WHATEVER THE INPUT: true; the input reads as it did. -/
def lateralCommandsSpec : ChangeSpec := { name := "lateralCommands", fn := fun _ => fun
  | [d1, d2, d3] => { results := [.lit (.bool true)], args := [d1, d2, d3] }
  | _ => none }
def lateralCommandsRow : OpenClaim := { program := "ytkheikfggffdgaa", sum := "559fe0ac2d04db844f9a411d292b50cddbb274e2df82964968d31c37b6e97915", func := "flightdeck/flightdecklaw50.LateralCommands", spec := "lateralCommands", apart := false }
def LateralCommandsSaid : Prop := lateralCommandsRow.holds Try.pinned (OpenSpec.ofChange lateralCommandsSpec)

/-- ITS FALSE NEIGHBOUR: 'it returns false'. Refute it at one input. -/
def lateralCommandsWrong : ChangeSpec := { name := "lateralCommands", fn := fun _ => fun
  | [d1, d2, d3] => { results := [.lit (.bool false)], args := [d1, d2, d3] }
  | _ => none }
def LateralCommandsWrongFalsely : Prop := lateralCommandsRow.holds Try.pinned (OpenSpec.ofChange lateralCommandsWrong)

/-- 'flightdecklaw50.LateralLimits': WHATEVER THE INPUT: true; the input reads as it did. -/
def lateralLimitsSpec : ChangeSpec := { name := "lateralLimits", fn := fun _ => fun
  | [d1, d2, d3] => { results := [.lit (.bool true)], args := [d1, d2, d3] }
  | _ => none }
def lateralLimitsRow : OpenClaim := { program := "ytkheikfggffdgaa", sum := "559fe0ac2d04db844f9a411d292b50cddbb274e2df82964968d31c37b6e97915", func := "flightdeck/flightdecklaw50.LateralLimits", spec := "lateralLimits", apart := false }
def LateralLimitsSaid : Prop := lateralLimitsRow.holds Try.pinned (OpenSpec.ofChange lateralLimitsSpec)

/-- ITS FALSE NEIGHBOUR: 'it returns false'. Refute it at one input. -/
def lateralLimitsWrong : ChangeSpec := { name := "lateralLimits", fn := fun _ => fun
  | [d1, d2, d3] => { results := [.lit (.bool false)], args := [d1, d2, d3] }
  | _ => none }
def LateralLimitsWrongFalsely : Prop := lateralLimitsRow.holds Try.pinned (OpenSpec.ofChange lateralLimitsWrong)

/-- 'flightdecklaw50.LateralBounds': WHATEVER THE INPUT: true; the input reads as it did. -/
def lateralBoundsSpec : ChangeSpec := { name := "lateralBounds", fn := fun _ => fun
  | [d1, d2, d3] => { results := [.lit (.bool true)], args := [d1, d2, d3] }
  | _ => none }
def lateralBoundsRow : OpenClaim := { program := "ytkheikfggffdgaa", sum := "559fe0ac2d04db844f9a411d292b50cddbb274e2df82964968d31c37b6e97915", func := "flightdeck/flightdecklaw50.LateralBounds", spec := "lateralBounds", apart := false }
def LateralBoundsSaid : Prop := lateralBoundsRow.holds Try.pinned (OpenSpec.ofChange lateralBoundsSpec)

/-- ITS FALSE NEIGHBOUR: 'it returns false'. Refute it at one input. -/
def lateralBoundsWrong : ChangeSpec := { name := "lateralBounds", fn := fun _ => fun
  | [d1, d2, d3] => { results := [.lit (.bool false)], args := [d1, d2, d3] }
  | _ => none }
def LateralBoundsWrongFalsely : Prop := lateralBoundsRow.holds Try.pinned (OpenSpec.ofChange lateralBoundsWrong)

/-- 'flightdecklaw50.LateralMirrors': WHATEVER THE INPUT: true; the input reads as it did. -/
def lateralMirrorsSpec : ChangeSpec := { name := "lateralMirrors", fn := fun _ => fun
  | [d1, d2, d3] => { results := [.lit (.bool true)], args := [d1, d2, d3] }
  | _ => none }
def lateralMirrorsRow : OpenClaim := { program := "ytkheikfggffdgaa", sum := "559fe0ac2d04db844f9a411d292b50cddbb274e2df82964968d31c37b6e97915", func := "flightdeck/flightdecklaw50.LateralMirrors", spec := "lateralMirrors", apart := false }
def LateralMirrorsSaid : Prop := lateralMirrorsRow.holds Try.pinned (OpenSpec.ofChange lateralMirrorsSpec)

/-- ITS FALSE NEIGHBOUR: 'it returns false'. Refute it at one input. -/
def lateralMirrorsWrong : ChangeSpec := { name := "lateralMirrors", fn := fun _ => fun
  | [d1, d2, d3] => { results := [.lit (.bool false)], args := [d1, d2, d3] }
  | _ => none }
def LateralMirrorsWrongFalsely : Prop := lateralMirrorsRow.holds Try.pinned (OpenSpec.ofChange lateralMirrorsWrong)

/-- 'flightdecklaw50.LateralRises': WHATEVER THE INPUT: true; the input reads as it did. -/
def lateralRisesSpec : ChangeSpec := { name := "lateralRises", fn := fun _ => fun
  | [d1, d2, d3] => { results := [.lit (.bool true)], args := [d1, d2, d3] }
  | _ => none }
def lateralRisesRow : OpenClaim := { program := "ytkheikfggffdgaa", sum := "559fe0ac2d04db844f9a411d292b50cddbb274e2df82964968d31c37b6e97915", func := "flightdeck/flightdecklaw50.LateralRises", spec := "lateralRises", apart := false }
def LateralRisesSaid : Prop := lateralRisesRow.holds Try.pinned (OpenSpec.ofChange lateralRisesSpec)

/-- ITS FALSE NEIGHBOUR: 'it returns false'. Refute it at one input. -/
def lateralRisesWrong : ChangeSpec := { name := "lateralRises", fn := fun _ => fun
  | [d1, d2, d3] => { results := [.lit (.bool false)], args := [d1, d2, d3] }
  | _ => none }
def LateralRisesWrongFalsely : Prop := lateralRisesRow.holds Try.pinned (OpenSpec.ofChange lateralRisesWrong)

/- THE SECOND FORM. 'bulk': how many values and letters a reading holds, each counted each time it is reached (what is shared counts as often as it is met; a slice's spare places count too). A statement '..UptoSaid' is the law's where the arguments, and the package variables that the reading takes, are together of bulk at most 1048576: NARROWER than '..Said'. Prove '..Said' where nothing that the law and all that it calls make is longer than what came in: it says more and counts as full. Else prove '..UptoSaid'. A law counts once. -/
mutual
def uptoBulk {H : Type} : DataW H → Nat
  | .lit (.string bytes) => bytes.length + 1
  | .lit _ => 1
  | .nil => 1
  | .ptr d => uptoBulk d + 1
  | .slice elems spare => uptoBulkAll elems + uptoBulkAll spare + 1
  | .agg parts => uptoBulkAll parts + 1
  | .iface _ d => uptoBulk d + 1
  | .map entries => uptoBulkEntries entries + 1
  | .held _ => 1
def uptoBulkAll {H : Type} : List (DataW H) → Nat
  | [] => 0
  | d :: r => uptoBulk d + uptoBulkAll r
def uptoBulkEntries {H : Type} : List (Lit × DataW H) → Nat
  | [] => 0
  | x :: r => uptoBulkEntry x + uptoBulkEntries r
def uptoBulkEntry {H : Type} : Lit × DataW H → Nat
  | (.string bytes, d) => bytes.length + uptoBulk d + 1
  | (_, d) => uptoBulk d + 1
 end
def uptoSmall : (H : Type) → List (DataW H) → Bool := fun _ ds => decide (uptoBulkAll ds ≤ 1048576)
def OpenSpec.upto (s : _root_.Go.ChangeSpec) : _root_.Go.OpenSpec := { _root_.Go.OpenSpec.ofChange s with cond := some uptoSmall }

/-- 'flightdecklaw50.LateralCommands', WHERE WHAT IT READS IS OF BULK AT MOST 1048576: true; the input reads as it did. -/
def lateralCommandsUptoRow : OpenClaim := { program := "ytkheikfggffdgaa", sum := "559fe0ac2d04db844f9a411d292b50cddbb274e2df82964968d31c37b6e97915", func := "flightdeck/flightdecklaw50.LateralCommands", spec := "lateralCommands", apart := false, narrowed := true }
def LateralCommandsUptoSaid : Prop := lateralCommandsUptoRow.holds Try.pinned (OpenSpec.upto lateralCommandsSpec)

/-- 'flightdecklaw50.LateralLimits', WHERE WHAT IT READS IS OF BULK AT MOST 1048576: true; the input reads as it did. -/
def lateralLimitsUptoRow : OpenClaim := { program := "ytkheikfggffdgaa", sum := "559fe0ac2d04db844f9a411d292b50cddbb274e2df82964968d31c37b6e97915", func := "flightdeck/flightdecklaw50.LateralLimits", spec := "lateralLimits", apart := false, narrowed := true }
def LateralLimitsUptoSaid : Prop := lateralLimitsUptoRow.holds Try.pinned (OpenSpec.upto lateralLimitsSpec)

/-- 'flightdecklaw50.LateralBounds', WHERE WHAT IT READS IS OF BULK AT MOST 1048576: true; the input reads as it did. -/
def lateralBoundsUptoRow : OpenClaim := { program := "ytkheikfggffdgaa", sum := "559fe0ac2d04db844f9a411d292b50cddbb274e2df82964968d31c37b6e97915", func := "flightdeck/flightdecklaw50.LateralBounds", spec := "lateralBounds", apart := false, narrowed := true }
def LateralBoundsUptoSaid : Prop := lateralBoundsUptoRow.holds Try.pinned (OpenSpec.upto lateralBoundsSpec)

/-- 'flightdecklaw50.LateralMirrors', WHERE WHAT IT READS IS OF BULK AT MOST 1048576: true; the input reads as it did. -/
def lateralMirrorsUptoRow : OpenClaim := { program := "ytkheikfggffdgaa", sum := "559fe0ac2d04db844f9a411d292b50cddbb274e2df82964968d31c37b6e97915", func := "flightdeck/flightdecklaw50.LateralMirrors", spec := "lateralMirrors", apart := false, narrowed := true }
def LateralMirrorsUptoSaid : Prop := lateralMirrorsUptoRow.holds Try.pinned (OpenSpec.upto lateralMirrorsSpec)

/-- 'flightdecklaw50.LateralRises', WHERE WHAT IT READS IS OF BULK AT MOST 1048576: true; the input reads as it did. -/
def lateralRisesUptoRow : OpenClaim := { program := "ytkheikfggffdgaa", sum := "559fe0ac2d04db844f9a411d292b50cddbb274e2df82964968d31c37b6e97915", func := "flightdeck/flightdecklaw50.LateralRises", spec := "lateralRises", apart := false, narrowed := true }
def LateralRisesUptoSaid : Prop := lateralRisesUptoRow.holds Try.pinned (OpenSpec.upto lateralRisesSpec)

end Rows
end Go.Proofs.Ytkheikfggffdgaa
