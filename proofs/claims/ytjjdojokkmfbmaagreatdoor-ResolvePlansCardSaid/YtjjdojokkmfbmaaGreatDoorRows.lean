/-
  NARROWER THAN 'FOR EVERY INPUT', by the rows' own cells (each row's printed sentence says how): ResolveChecks: laid · ResolveLegs: laid · ResolveStraight: laid · ResolveClimbs: laid · ResolveDistances: laid · ResolvePlans: laid · ResolveMeets: laid · ResolveOrder: laid.
  DERIVED. THE GIVEN ROWS OF THIS SEAT. 8 by the template 'for every input the law returns true; each argument reads behind the call as it read before'; 0 by the template 'total and deterministic' (their statements: YtjjdojokkmfbmaaGreatDoorTotals.lean).
  GIVEN WITH THE SEED: the statements are not yours to turn. If you find one false, say at which input.
  Laid BY PROGRAM, IN A SANDBOX (cutbox-rows.mjs): the forced cells as the released guide's own fill.sh prints them over the translation 0d4af22026ee3a7e… (all of the seat's roots in one cut). By AI agents, Wed Nov 11 2026. No macro, syntax, notation, axiom, sorry.
-/
import Derived.Test.YtjjdojokkmfbmaaGreatDoorChecked
import GoSem.Claim
import GoSem.ClaimJoined
import GoSem.ClaimMapViews
import Derived.JoinedTies
import Derived.KernelRfl
namespace Go.Proofs.YtjjdojokkmfbmaaGreatDoor
/- THE CELL 'sum', in the pinned program and in every row, IS THE sha256 OF THE DUMP (.gsa) THAT YtjjdojokkmfbmaaGreatDoorProg.lean LOADS. Nothing in Lean hashes anything: it is a label: what it is worth is what the hold of that sum in a sandbox is worth. -/
noncomputable def Tryz.pinned : Pinned := { name := "ytjjdojokkmfbmaagreatdoor", sum := "0d4af22026ee3a7eae1ce9606862191b41f4ba2c028ca47c2f989ee9c5240e09", checked := Tryz.checked }
namespace Rows
def none {H : Type} : Left H := { results := [], args := [] }

/- WHAT THE LISTED PACKAGE-LEVEL VARIABLES READ AS WHEN THE CALL BEGINS. Each datum BY PROGRAM (the guide's laid-datum.mjs) off the statement by which the dump's own 'gosem.cut.vars' lays the variable. In a bare row this is a premise. The card (YtjjdojokkmfbmaaGreatDoorCards.lean) ties it to the program's text. -/
def laid_flightdeck_leg_uses {H : Type} : DataW H := .agg [.lit (.int .u16 0), .lit (.int .u16 1), .lit (.int .u16 9), .lit (.int .u16 25), .lit (.int .u16 9), .lit (.int .u16 71), .lit (.int .u16 71), .lit (.int .u16 16), .lit (.int .u16 50), .lit (.int .u16 16), .lit (.int .u16 146), .lit (.int .u16 17), .lit (.int .u16 49), .lit (.int .u16 17), .lit (.int .u16 53), .lit (.int .u16 53), .lit (.int .u16 53), .lit (.int .u16 53)]
def laid_flightdeck_flightdecklaw25_usual {H : Type} : DataW H := .agg [.lit (.int .i64 250), .lit (.int .i64 2500), .lit (.int .i64 100000), .lit (.int .i64 20000)]

/-- 'flightdecklaw25.ResolveChecks': WHATEVER THE INPUT: true; the input reads as it did. -/
def resolveChecksSpec : ChangeSpec := { name := "resolveChecks", fn := fun _ => fun
  | [d] => { results := [.lit (.bool true)], args := [d] }
  | _ => none }
def resolveChecksRow : OpenClaim := { program := "ytjjdojokkmfbmaagreatdoor", sum := "0d4af22026ee3a7eae1ce9606862191b41f4ba2c028ca47c2f989ee9c5240e09", func := "flightdeck/flightdecklaw25.ResolveChecks", spec := "resolveChecks", inPlace := ["internal/bytealg.IndexByteString", "internal/bytealg.IndexString", "math/bits.Sub64", "math/bits.Add64"], unfollowed := true, recurses := true, named := ["flightdeck/flightdecklaw25.usual", "flightdeck/leg.uses", "internal/bytealg.MaxLen", "math/bits.divideError", "math/bits.overflowError"], apart := false, laid := [("flightdeck/leg.uses", laid_flightdeck_leg_uses), ("flightdeck/flightdecklaw25.usual", laid_flightdeck_flightdecklaw25_usual)] }
def ResolveChecksSaid : Prop := resolveChecksRow.holds Tryz.pinned (OpenSpec.ofChange resolveChecksSpec)

/-- ITS FALSE NEIGHBOUR: 'it returns false'. Refute it at one input. -/
def resolveChecksWrong : ChangeSpec := { name := "resolveChecks", fn := fun _ => fun
  | [d] => { results := [.lit (.bool false)], args := [d] }
  | _ => none }
def ResolveChecksWrongFalsely : Prop := resolveChecksRow.holds Tryz.pinned (OpenSpec.ofChange resolveChecksWrong)

/-- 'flightdecklaw25.ResolveLegs': WHATEVER THE INPUT: true; the input reads as it did. -/
def resolveLegsSpec : ChangeSpec := { name := "resolveLegs", fn := fun _ => fun
  | [d1, d2, d3] => { results := [.lit (.bool true)], args := [d1, d2, d3] }
  | _ => none }
def resolveLegsRow : OpenClaim := { program := "ytjjdojokkmfbmaagreatdoor", sum := "0d4af22026ee3a7eae1ce9606862191b41f4ba2c028ca47c2f989ee9c5240e09", func := "flightdeck/flightdecklaw25.ResolveLegs", spec := "resolveLegs", inPlace := ["internal/bytealg.IndexByteString", "internal/bytealg.IndexString", "math/bits.Sub64", "math/bits.Add64"], unfollowed := true, recurses := true, named := ["flightdeck/flightdecklaw25.usual", "flightdeck/leg.uses", "internal/bytealg.MaxLen", "math/bits.divideError", "math/bits.overflowError"], apart := false, laid := [("flightdeck/leg.uses", laid_flightdeck_leg_uses), ("flightdeck/flightdecklaw25.usual", laid_flightdeck_flightdecklaw25_usual)] }
def ResolveLegsSaid : Prop := resolveLegsRow.holds Tryz.pinned (OpenSpec.ofChange resolveLegsSpec)

/-- ITS FALSE NEIGHBOUR: 'it returns false'. Refute it at one input. -/
def resolveLegsWrong : ChangeSpec := { name := "resolveLegs", fn := fun _ => fun
  | [d1, d2, d3] => { results := [.lit (.bool false)], args := [d1, d2, d3] }
  | _ => none }
def ResolveLegsWrongFalsely : Prop := resolveLegsRow.holds Tryz.pinned (OpenSpec.ofChange resolveLegsWrong)

/-- 'flightdecklaw25.ResolveStraight': WHATEVER THE INPUT: true; the input reads as it did. -/
def resolveStraightSpec : ChangeSpec := { name := "resolveStraight", fn := fun _ => fun
  | [d1, d2] => { results := [.lit (.bool true)], args := [d1, d2] }
  | _ => none }
def resolveStraightRow : OpenClaim := { program := "ytjjdojokkmfbmaagreatdoor", sum := "0d4af22026ee3a7eae1ce9606862191b41f4ba2c028ca47c2f989ee9c5240e09", func := "flightdeck/flightdecklaw25.ResolveStraight", spec := "resolveStraight", inPlace := ["internal/bytealg.IndexByteString", "internal/bytealg.IndexString", "math/bits.Sub64", "math/bits.Add64"], unfollowed := true, recurses := true, named := ["flightdeck/flightdecklaw25.usual", "flightdeck/leg.uses", "internal/bytealg.MaxLen", "math/bits.divideError", "math/bits.overflowError"], apart := false, laid := [("flightdeck/leg.uses", laid_flightdeck_leg_uses), ("flightdeck/flightdecklaw25.usual", laid_flightdeck_flightdecklaw25_usual)] }
def ResolveStraightSaid : Prop := resolveStraightRow.holds Tryz.pinned (OpenSpec.ofChange resolveStraightSpec)

/-- ITS FALSE NEIGHBOUR: 'it returns false'. Refute it at one input. -/
def resolveStraightWrong : ChangeSpec := { name := "resolveStraight", fn := fun _ => fun
  | [d1, d2] => { results := [.lit (.bool false)], args := [d1, d2] }
  | _ => none }
def ResolveStraightWrongFalsely : Prop := resolveStraightRow.holds Tryz.pinned (OpenSpec.ofChange resolveStraightWrong)

/-- 'flightdecklaw25.ResolveClimbs': WHATEVER THE INPUT: true; the input reads as it did. -/
def resolveClimbsSpec : ChangeSpec := { name := "resolveClimbs", fn := fun _ => fun
  | [d1, d2] => { results := [.lit (.bool true)], args := [d1, d2] }
  | _ => none }
def resolveClimbsRow : OpenClaim := { program := "ytjjdojokkmfbmaagreatdoor", sum := "0d4af22026ee3a7eae1ce9606862191b41f4ba2c028ca47c2f989ee9c5240e09", func := "flightdeck/flightdecklaw25.ResolveClimbs", spec := "resolveClimbs", inPlace := ["internal/bytealg.IndexByteString", "internal/bytealg.IndexString", "math/bits.Sub64", "math/bits.Add64"], unfollowed := true, recurses := true, named := ["flightdeck/flightdecklaw25.usual", "flightdeck/leg.uses", "internal/bytealg.MaxLen", "math/bits.divideError", "math/bits.overflowError"], apart := false, laid := [("flightdeck/leg.uses", laid_flightdeck_leg_uses), ("flightdeck/flightdecklaw25.usual", laid_flightdeck_flightdecklaw25_usual)] }
def ResolveClimbsSaid : Prop := resolveClimbsRow.holds Tryz.pinned (OpenSpec.ofChange resolveClimbsSpec)

/-- ITS FALSE NEIGHBOUR: 'it returns false'. Refute it at one input. -/
def resolveClimbsWrong : ChangeSpec := { name := "resolveClimbs", fn := fun _ => fun
  | [d1, d2] => { results := [.lit (.bool false)], args := [d1, d2] }
  | _ => none }
def ResolveClimbsWrongFalsely : Prop := resolveClimbsRow.holds Tryz.pinned (OpenSpec.ofChange resolveClimbsWrong)

/-- 'flightdecklaw25.ResolveDistances': WHATEVER THE INPUT: true; the input reads as it did. -/
def resolveDistancesSpec : ChangeSpec := { name := "resolveDistances", fn := fun _ => fun
  | [d1, d2] => { results := [.lit (.bool true)], args := [d1, d2] }
  | _ => none }
def resolveDistancesRow : OpenClaim := { program := "ytjjdojokkmfbmaagreatdoor", sum := "0d4af22026ee3a7eae1ce9606862191b41f4ba2c028ca47c2f989ee9c5240e09", func := "flightdeck/flightdecklaw25.ResolveDistances", spec := "resolveDistances", inPlace := ["internal/bytealg.IndexByteString", "internal/bytealg.IndexString", "math/bits.Sub64", "math/bits.Add64"], unfollowed := true, recurses := true, named := ["flightdeck/flightdecklaw25.usual", "flightdeck/leg.uses", "internal/bytealg.MaxLen", "math/bits.divideError", "math/bits.overflowError"], apart := false, laid := [("flightdeck/leg.uses", laid_flightdeck_leg_uses), ("flightdeck/flightdecklaw25.usual", laid_flightdeck_flightdecklaw25_usual)] }
def ResolveDistancesSaid : Prop := resolveDistancesRow.holds Tryz.pinned (OpenSpec.ofChange resolveDistancesSpec)

/-- ITS FALSE NEIGHBOUR: 'it returns false'. Refute it at one input. -/
def resolveDistancesWrong : ChangeSpec := { name := "resolveDistances", fn := fun _ => fun
  | [d1, d2] => { results := [.lit (.bool false)], args := [d1, d2] }
  | _ => none }
def ResolveDistancesWrongFalsely : Prop := resolveDistancesRow.holds Tryz.pinned (OpenSpec.ofChange resolveDistancesWrong)

/-- 'flightdecklaw25.ResolvePlans': WHATEVER THE INPUT: true; the input reads as it did. -/
def resolvePlansSpec : ChangeSpec := { name := "resolvePlans", fn := fun _ => fun
  | [d1, d2] => { results := [.lit (.bool true)], args := [d1, d2] }
  | _ => none }
def resolvePlansRow : OpenClaim := { program := "ytjjdojokkmfbmaagreatdoor", sum := "0d4af22026ee3a7eae1ce9606862191b41f4ba2c028ca47c2f989ee9c5240e09", func := "flightdeck/flightdecklaw25.ResolvePlans", spec := "resolvePlans", inPlace := ["internal/bytealg.IndexByteString", "internal/bytealg.IndexString", "math/bits.Sub64", "math/bits.Add64"], unfollowed := true, recurses := true, named := ["flightdeck/flightdecklaw25.usual", "flightdeck/leg.uses", "internal/bytealg.MaxLen", "math/bits.divideError", "math/bits.overflowError"], apart := false, laid := [("flightdeck/leg.uses", laid_flightdeck_leg_uses), ("flightdeck/flightdecklaw25.usual", laid_flightdeck_flightdecklaw25_usual)] }
def ResolvePlansSaid : Prop := resolvePlansRow.holds Tryz.pinned (OpenSpec.ofChange resolvePlansSpec)

/-- ITS FALSE NEIGHBOUR: 'it returns false'. Refute it at one input. -/
def resolvePlansWrong : ChangeSpec := { name := "resolvePlans", fn := fun _ => fun
  | [d1, d2] => { results := [.lit (.bool false)], args := [d1, d2] }
  | _ => none }
def ResolvePlansWrongFalsely : Prop := resolvePlansRow.holds Tryz.pinned (OpenSpec.ofChange resolvePlansWrong)

/-- 'flightdecklaw25.ResolveMeets': WHATEVER THE INPUT: true; the input reads as it did. -/
def resolveMeetsSpec : ChangeSpec := { name := "resolveMeets", fn := fun _ => fun
  | [d1, d2] => { results := [.lit (.bool true)], args := [d1, d2] }
  | _ => none }
def resolveMeetsRow : OpenClaim := { program := "ytjjdojokkmfbmaagreatdoor", sum := "0d4af22026ee3a7eae1ce9606862191b41f4ba2c028ca47c2f989ee9c5240e09", func := "flightdeck/flightdecklaw25.ResolveMeets", spec := "resolveMeets", inPlace := ["internal/bytealg.IndexByteString", "internal/bytealg.IndexString", "math/bits.Sub64", "math/bits.Add64"], unfollowed := true, recurses := true, named := ["flightdeck/flightdecklaw25.usual", "flightdeck/leg.uses", "internal/bytealg.MaxLen", "math/bits.divideError", "math/bits.overflowError"], apart := false, laid := [("flightdeck/leg.uses", laid_flightdeck_leg_uses), ("flightdeck/flightdecklaw25.usual", laid_flightdeck_flightdecklaw25_usual)] }
def ResolveMeetsSaid : Prop := resolveMeetsRow.holds Tryz.pinned (OpenSpec.ofChange resolveMeetsSpec)

/-- ITS FALSE NEIGHBOUR: 'it returns false'. Refute it at one input. -/
def resolveMeetsWrong : ChangeSpec := { name := "resolveMeets", fn := fun _ => fun
  | [d1, d2] => { results := [.lit (.bool false)], args := [d1, d2] }
  | _ => none }
def ResolveMeetsWrongFalsely : Prop := resolveMeetsRow.holds Tryz.pinned (OpenSpec.ofChange resolveMeetsWrong)

/-- 'flightdecklaw25.ResolveOrder': WHATEVER THE INPUT: true; the input reads as it did. -/
def resolveOrderSpec : ChangeSpec := { name := "resolveOrder", fn := fun _ => fun
  | [d1, d2] => { results := [.lit (.bool true)], args := [d1, d2] }
  | _ => none }
def resolveOrderRow : OpenClaim := { program := "ytjjdojokkmfbmaagreatdoor", sum := "0d4af22026ee3a7eae1ce9606862191b41f4ba2c028ca47c2f989ee9c5240e09", func := "flightdeck/flightdecklaw25.ResolveOrder", spec := "resolveOrder", inPlace := ["internal/bytealg.IndexByteString", "internal/bytealg.IndexString", "math/bits.Sub64", "math/bits.Add64"], unfollowed := true, recurses := true, named := ["flightdeck/flightdecklaw25.usual", "flightdeck/leg.uses", "internal/bytealg.MaxLen", "math/bits.divideError", "math/bits.overflowError"], apart := false, laid := [("flightdeck/leg.uses", laid_flightdeck_leg_uses), ("flightdeck/flightdecklaw25.usual", laid_flightdeck_flightdecklaw25_usual)] }
def ResolveOrderSaid : Prop := resolveOrderRow.holds Tryz.pinned (OpenSpec.ofChange resolveOrderSpec)

/-- ITS FALSE NEIGHBOUR: 'it returns false'. Refute it at one input. -/
def resolveOrderWrong : ChangeSpec := { name := "resolveOrder", fn := fun _ => fun
  | [d1, d2] => { results := [.lit (.bool false)], args := [d1, d2] }
  | _ => none }
def ResolveOrderWrongFalsely : Prop := resolveOrderRow.holds Tryz.pinned (OpenSpec.ofChange resolveOrderWrong)

/- THE SECOND FORM. 'bulk': how many values and letters a reading holds, each counted each time it is reached (what is shared counts as often as it is met; a slice's spare places count too). A statement '..UptoSaid' is the law's where the arguments, and the package variables that the reading takes, are together of bulk at most 1048576: NARROWER than '..Said'. Prove '..Said' where nothing that the law and all that it calls make is longer than what came in: it says more and counts as full. Else prove '..UptoSaid'. A law counts once. -/
mutual
def uptoBulk {H : Type} : DataW H → Nat
  | .lit (.string bytes) => bytes.length + 1
  | .lit _ => 1
  | .nil => 1
  | .ptr d => uptoBulk d + 1
  | .slice elems spare => uptoBulkAll elems + uptoBulkAll spare + 1
  | .agg parts => uptoBulkAll parts + 1
  | .iface _ d => uptoBulk d + 1
  | .map entries => uptoBulkEntries entries + 1
  | .held _ => 1
def uptoBulkAll {H : Type} : List (DataW H) → Nat
  | [] => 0
  | d :: r => uptoBulk d + uptoBulkAll r
def uptoBulkEntries {H : Type} : List (Lit × DataW H) → Nat
  | [] => 0
  | x :: r => uptoBulkEntry x + uptoBulkEntries r
def uptoBulkEntry {H : Type} : Lit × DataW H → Nat
  | (.string bytes, d) => bytes.length + uptoBulk d + 1
  | (_, d) => uptoBulk d + 1
 end
def uptoSmall : (H : Type) → List (DataW H) → Bool := fun _ ds => decide (uptoBulkAll ds ≤ 1048576)
def OpenSpec.upto (s : _root_.Go.ChangeSpec) : _root_.Go.OpenSpec := { _root_.Go.OpenSpec.ofChange s with cond := some uptoSmall }

/-- 'flightdecklaw25.ResolveChecks', WHERE WHAT IT READS IS OF BULK AT MOST 1048576: true; the input reads as it did. -/
def resolveChecksUptoRow : OpenClaim := { program := "ytjjdojokkmfbmaagreatdoor", sum := "0d4af22026ee3a7eae1ce9606862191b41f4ba2c028ca47c2f989ee9c5240e09", func := "flightdeck/flightdecklaw25.ResolveChecks", spec := "resolveChecks", inPlace := ["internal/bytealg.IndexByteString", "internal/bytealg.IndexString", "math/bits.Sub64", "math/bits.Add64"], unfollowed := true, recurses := true, named := ["flightdeck/flightdecklaw25.usual", "flightdeck/leg.uses", "internal/bytealg.MaxLen", "math/bits.divideError", "math/bits.overflowError"], apart := false, laid := [("flightdeck/leg.uses", laid_flightdeck_leg_uses), ("flightdeck/flightdecklaw25.usual", laid_flightdeck_flightdecklaw25_usual)], narrowed := true }
def ResolveChecksUptoSaid : Prop := resolveChecksUptoRow.holds Tryz.pinned (OpenSpec.upto resolveChecksSpec)

/-- 'flightdecklaw25.ResolveLegs', WHERE WHAT IT READS IS OF BULK AT MOST 1048576: true; the input reads as it did. -/
def resolveLegsUptoRow : OpenClaim := { program := "ytjjdojokkmfbmaagreatdoor", sum := "0d4af22026ee3a7eae1ce9606862191b41f4ba2c028ca47c2f989ee9c5240e09", func := "flightdeck/flightdecklaw25.ResolveLegs", spec := "resolveLegs", inPlace := ["internal/bytealg.IndexByteString", "internal/bytealg.IndexString", "math/bits.Sub64", "math/bits.Add64"], unfollowed := true, recurses := true, named := ["flightdeck/flightdecklaw25.usual", "flightdeck/leg.uses", "internal/bytealg.MaxLen", "math/bits.divideError", "math/bits.overflowError"], apart := false, laid := [("flightdeck/leg.uses", laid_flightdeck_leg_uses), ("flightdeck/flightdecklaw25.usual", laid_flightdeck_flightdecklaw25_usual)], narrowed := true }
def ResolveLegsUptoSaid : Prop := resolveLegsUptoRow.holds Tryz.pinned (OpenSpec.upto resolveLegsSpec)

/-- 'flightdecklaw25.ResolveStraight', WHERE WHAT IT READS IS OF BULK AT MOST 1048576: true; the input reads as it did. -/
def resolveStraightUptoRow : OpenClaim := { program := "ytjjdojokkmfbmaagreatdoor", sum := "0d4af22026ee3a7eae1ce9606862191b41f4ba2c028ca47c2f989ee9c5240e09", func := "flightdeck/flightdecklaw25.ResolveStraight", spec := "resolveStraight", inPlace := ["internal/bytealg.IndexByteString", "internal/bytealg.IndexString", "math/bits.Sub64", "math/bits.Add64"], unfollowed := true, recurses := true, named := ["flightdeck/flightdecklaw25.usual", "flightdeck/leg.uses", "internal/bytealg.MaxLen", "math/bits.divideError", "math/bits.overflowError"], apart := false, laid := [("flightdeck/leg.uses", laid_flightdeck_leg_uses), ("flightdeck/flightdecklaw25.usual", laid_flightdeck_flightdecklaw25_usual)], narrowed := true }
def ResolveStraightUptoSaid : Prop := resolveStraightUptoRow.holds Tryz.pinned (OpenSpec.upto resolveStraightSpec)

/-- 'flightdecklaw25.ResolveClimbs', WHERE WHAT IT READS IS OF BULK AT MOST 1048576: true; the input reads as it did. -/
def resolveClimbsUptoRow : OpenClaim := { program := "ytjjdojokkmfbmaagreatdoor", sum := "0d4af22026ee3a7eae1ce9606862191b41f4ba2c028ca47c2f989ee9c5240e09", func := "flightdeck/flightdecklaw25.ResolveClimbs", spec := "resolveClimbs", inPlace := ["internal/bytealg.IndexByteString", "internal/bytealg.IndexString", "math/bits.Sub64", "math/bits.Add64"], unfollowed := true, recurses := true, named := ["flightdeck/flightdecklaw25.usual", "flightdeck/leg.uses", "internal/bytealg.MaxLen", "math/bits.divideError", "math/bits.overflowError"], apart := false, laid := [("flightdeck/leg.uses", laid_flightdeck_leg_uses), ("flightdeck/flightdecklaw25.usual", laid_flightdeck_flightdecklaw25_usual)], narrowed := true }
def ResolveClimbsUptoSaid : Prop := resolveClimbsUptoRow.holds Tryz.pinned (OpenSpec.upto resolveClimbsSpec)

/-- 'flightdecklaw25.ResolveDistances', WHERE WHAT IT READS IS OF BULK AT MOST 1048576: true; the input reads as it did. -/
def resolveDistancesUptoRow : OpenClaim := { program := "ytjjdojokkmfbmaagreatdoor", sum := "0d4af22026ee3a7eae1ce9606862191b41f4ba2c028ca47c2f989ee9c5240e09", func := "flightdeck/flightdecklaw25.ResolveDistances", spec := "resolveDistances", inPlace := ["internal/bytealg.IndexByteString", "internal/bytealg.IndexString", "math/bits.Sub64", "math/bits.Add64"], unfollowed := true, recurses := true, named := ["flightdeck/flightdecklaw25.usual", "flightdeck/leg.uses", "internal/bytealg.MaxLen", "math/bits.divideError", "math/bits.overflowError"], apart := false, laid := [("flightdeck/leg.uses", laid_flightdeck_leg_uses), ("flightdeck/flightdecklaw25.usual", laid_flightdeck_flightdecklaw25_usual)], narrowed := true }
def ResolveDistancesUptoSaid : Prop := resolveDistancesUptoRow.holds Tryz.pinned (OpenSpec.upto resolveDistancesSpec)

/-- 'flightdecklaw25.ResolvePlans', WHERE WHAT IT READS IS OF BULK AT MOST 1048576: true; the input reads as it did. -/
def resolvePlansUptoRow : OpenClaim := { program := "ytjjdojokkmfbmaagreatdoor", sum := "0d4af22026ee3a7eae1ce9606862191b41f4ba2c028ca47c2f989ee9c5240e09", func := "flightdeck/flightdecklaw25.ResolvePlans", spec := "resolvePlans", inPlace := ["internal/bytealg.IndexByteString", "internal/bytealg.IndexString", "math/bits.Sub64", "math/bits.Add64"], unfollowed := true, recurses := true, named := ["flightdeck/flightdecklaw25.usual", "flightdeck/leg.uses", "internal/bytealg.MaxLen", "math/bits.divideError", "math/bits.overflowError"], apart := false, laid := [("flightdeck/leg.uses", laid_flightdeck_leg_uses), ("flightdeck/flightdecklaw25.usual", laid_flightdeck_flightdecklaw25_usual)], narrowed := true }
def ResolvePlansUptoSaid : Prop := resolvePlansUptoRow.holds Tryz.pinned (OpenSpec.upto resolvePlansSpec)

/-- 'flightdecklaw25.ResolveMeets', WHERE WHAT IT READS IS OF BULK AT MOST 1048576: true; the input reads as it did. -/
def resolveMeetsUptoRow : OpenClaim := { program := "ytjjdojokkmfbmaagreatdoor", sum := "0d4af22026ee3a7eae1ce9606862191b41f4ba2c028ca47c2f989ee9c5240e09", func := "flightdeck/flightdecklaw25.ResolveMeets", spec := "resolveMeets", inPlace := ["internal/bytealg.IndexByteString", "internal/bytealg.IndexString", "math/bits.Sub64", "math/bits.Add64"], unfollowed := true, recurses := true, named := ["flightdeck/flightdecklaw25.usual", "flightdeck/leg.uses", "internal/bytealg.MaxLen", "math/bits.divideError", "math/bits.overflowError"], apart := false, laid := [("flightdeck/leg.uses", laid_flightdeck_leg_uses), ("flightdeck/flightdecklaw25.usual", laid_flightdeck_flightdecklaw25_usual)], narrowed := true }
def ResolveMeetsUptoSaid : Prop := resolveMeetsUptoRow.holds Tryz.pinned (OpenSpec.upto resolveMeetsSpec)

/-- 'flightdecklaw25.ResolveOrder', WHERE WHAT IT READS IS OF BULK AT MOST 1048576: true; the input reads as it did. -/
def resolveOrderUptoRow : OpenClaim := { program := "ytjjdojokkmfbmaagreatdoor", sum := "0d4af22026ee3a7eae1ce9606862191b41f4ba2c028ca47c2f989ee9c5240e09", func := "flightdeck/flightdecklaw25.ResolveOrder", spec := "resolveOrder", inPlace := ["internal/bytealg.IndexByteString", "internal/bytealg.IndexString", "math/bits.Sub64", "math/bits.Add64"], unfollowed := true, recurses := true, named := ["flightdeck/flightdecklaw25.usual", "flightdeck/leg.uses", "internal/bytealg.MaxLen", "math/bits.divideError", "math/bits.overflowError"], apart := false, laid := [("flightdeck/leg.uses", laid_flightdeck_leg_uses), ("flightdeck/flightdecklaw25.usual", laid_flightdeck_flightdecklaw25_usual)], narrowed := true }
def ResolveOrderUptoSaid : Prop := resolveOrderUptoRow.holds Tryz.pinned (OpenSpec.upto resolveOrderSpec)

end Rows
end Go.Proofs.YtjjdojokkmfbmaaGreatDoor
