/-
  DERIVED. GIVEN WITH THE SEED: THE CARDS: each row of YtjjdojokkmfbmaaGreatDoorRows.lean that lists a variable, with what it lists TIED to the program's text (the seventh form; the later family's looks); each row that meets fmt, with fmt's text TOLD by the authors' own Lean function (tested against real Go, not proved from fmt's source: count such statements apart). THE CARD IS WHAT COUNTS. Prove the row's statement (the work); the ties are given (YtjjdojokkmfbmaaGreatDoorTie.lean); close each card by the builder's one call (the guide's Derived/Test/ToyasCard.lean, 'card_holds'). Laid BY PROGRAM, IN A SANDBOX (cutbox-door.mjs). By AI agents, Wed Nov 11 2026. No macro, syntax, notation, axiom, sorry.
-/
import Derived.Test.YtjjdojokkmfbmaaGreatDoorRows
import GoSem.ClaimSeven
namespace Go.Proofs.YtjjdojokkmfbmaaGreatDoor
namespace Rows

/-- THE TIED CARD OF 'flightdecklaw25.ResolveChecks'. -/
def resolveChecksCard : Claim7 := { stood := { row := resolveChecksRow, standIns := [], harness := (true, "b9b376812f329f43c376adc0e371088882322a95da042c49ca2c32346854805a"), looks := false }, kinds := [], alts := [], laidByText := true, laidKinds := [.data, .data], laidTests := true, laidLooks := .later }
def ResolveChecksCardSaid : Prop := Claim7.holds Tryz.pinned (.plain (OpenSpec.ofChange resolveChecksSpec)) resolveChecksCard

/-- THE TIED CARD OF 'flightdecklaw25.ResolveLegs'. -/
def resolveLegsCard : Claim7 := { stood := { row := resolveLegsRow, standIns := [], harness := (true, "b9b376812f329f43c376adc0e371088882322a95da042c49ca2c32346854805a"), looks := false }, kinds := [], alts := [], laidByText := true, laidKinds := [.data, .data], laidTests := true, laidLooks := .later }
def ResolveLegsCardSaid : Prop := Claim7.holds Tryz.pinned (.plain (OpenSpec.ofChange resolveLegsSpec)) resolveLegsCard

/-- THE TIED CARD OF 'flightdecklaw25.ResolveStraight'. -/
def resolveStraightCard : Claim7 := { stood := { row := resolveStraightRow, standIns := [], harness := (true, "b9b376812f329f43c376adc0e371088882322a95da042c49ca2c32346854805a"), looks := false }, kinds := [], alts := [], laidByText := true, laidKinds := [.data, .data], laidTests := true, laidLooks := .later }
def ResolveStraightCardSaid : Prop := Claim7.holds Tryz.pinned (.plain (OpenSpec.ofChange resolveStraightSpec)) resolveStraightCard

/-- THE TIED CARD OF 'flightdecklaw25.ResolveClimbs'. -/
def resolveClimbsCard : Claim7 := { stood := { row := resolveClimbsRow, standIns := [], harness := (true, "b9b376812f329f43c376adc0e371088882322a95da042c49ca2c32346854805a"), looks := false }, kinds := [], alts := [], laidByText := true, laidKinds := [.data, .data], laidTests := true, laidLooks := .later }
def ResolveClimbsCardSaid : Prop := Claim7.holds Tryz.pinned (.plain (OpenSpec.ofChange resolveClimbsSpec)) resolveClimbsCard

/-- THE TIED CARD OF 'flightdecklaw25.ResolveDistances'. -/
def resolveDistancesCard : Claim7 := { stood := { row := resolveDistancesRow, standIns := [], harness := (true, "b9b376812f329f43c376adc0e371088882322a95da042c49ca2c32346854805a"), looks := false }, kinds := [], alts := [], laidByText := true, laidKinds := [.data, .data], laidTests := true, laidLooks := .later }
def ResolveDistancesCardSaid : Prop := Claim7.holds Tryz.pinned (.plain (OpenSpec.ofChange resolveDistancesSpec)) resolveDistancesCard

/-- THE TIED CARD OF 'flightdecklaw25.ResolvePlans'. -/
def resolvePlansCard : Claim7 := { stood := { row := resolvePlansRow, standIns := [], harness := (true, "b9b376812f329f43c376adc0e371088882322a95da042c49ca2c32346854805a"), looks := false }, kinds := [], alts := [], laidByText := true, laidKinds := [.data, .data], laidTests := true, laidLooks := .later }
def ResolvePlansCardSaid : Prop := Claim7.holds Tryz.pinned (.plain (OpenSpec.ofChange resolvePlansSpec)) resolvePlansCard

/-- THE TIED CARD OF 'flightdecklaw25.ResolveMeets'. -/
def resolveMeetsCard : Claim7 := { stood := { row := resolveMeetsRow, standIns := [], harness := (true, "b9b376812f329f43c376adc0e371088882322a95da042c49ca2c32346854805a"), looks := false }, kinds := [], alts := [], laidByText := true, laidKinds := [.data, .data], laidTests := true, laidLooks := .later }
def ResolveMeetsCardSaid : Prop := Claim7.holds Tryz.pinned (.plain (OpenSpec.ofChange resolveMeetsSpec)) resolveMeetsCard

/-- THE TIED CARD OF 'flightdecklaw25.ResolveOrder'. -/
def resolveOrderCard : Claim7 := { stood := { row := resolveOrderRow, standIns := [], harness := (true, "b9b376812f329f43c376adc0e371088882322a95da042c49ca2c32346854805a"), looks := false }, kinds := [], alts := [], laidByText := true, laidKinds := [.data, .data], laidTests := true, laidLooks := .later }
def ResolveOrderCardSaid : Prop := Claim7.holds Tryz.pinned (.plain (OpenSpec.ofChange resolveOrderSpec)) resolveOrderCard

/-- THE SECOND FORM's CARD OF 'flightdecklaw25.ResolveChecks'. -/
def resolveChecksUptoCard : Claim7 := { stood := { row := resolveChecksUptoRow, standIns := [], harness := (true, "b9b376812f329f43c376adc0e371088882322a95da042c49ca2c32346854805a"), looks := false }, kinds := [], alts := [], laidByText := true, laidKinds := [.data, .data], laidTests := true, laidLooks := .later }
def ResolveChecksUptoCardSaid : Prop := Claim7.holds Tryz.pinned (.plain (OpenSpec.upto resolveChecksSpec)) resolveChecksUptoCard

/-- THE SECOND FORM's CARD OF 'flightdecklaw25.ResolveLegs'. -/
def resolveLegsUptoCard : Claim7 := { stood := { row := resolveLegsUptoRow, standIns := [], harness := (true, "b9b376812f329f43c376adc0e371088882322a95da042c49ca2c32346854805a"), looks := false }, kinds := [], alts := [], laidByText := true, laidKinds := [.data, .data], laidTests := true, laidLooks := .later }
def ResolveLegsUptoCardSaid : Prop := Claim7.holds Tryz.pinned (.plain (OpenSpec.upto resolveLegsSpec)) resolveLegsUptoCard

/-- THE SECOND FORM's CARD OF 'flightdecklaw25.ResolveStraight'. -/
def resolveStraightUptoCard : Claim7 := { stood := { row := resolveStraightUptoRow, standIns := [], harness := (true, "b9b376812f329f43c376adc0e371088882322a95da042c49ca2c32346854805a"), looks := false }, kinds := [], alts := [], laidByText := true, laidKinds := [.data, .data], laidTests := true, laidLooks := .later }
def ResolveStraightUptoCardSaid : Prop := Claim7.holds Tryz.pinned (.plain (OpenSpec.upto resolveStraightSpec)) resolveStraightUptoCard

/-- THE SECOND FORM's CARD OF 'flightdecklaw25.ResolveClimbs'. -/
def resolveClimbsUptoCard : Claim7 := { stood := { row := resolveClimbsUptoRow, standIns := [], harness := (true, "b9b376812f329f43c376adc0e371088882322a95da042c49ca2c32346854805a"), looks := false }, kinds := [], alts := [], laidByText := true, laidKinds := [.data, .data], laidTests := true, laidLooks := .later }
def ResolveClimbsUptoCardSaid : Prop := Claim7.holds Tryz.pinned (.plain (OpenSpec.upto resolveClimbsSpec)) resolveClimbsUptoCard

/-- THE SECOND FORM's CARD OF 'flightdecklaw25.ResolveDistances'. -/
def resolveDistancesUptoCard : Claim7 := { stood := { row := resolveDistancesUptoRow, standIns := [], harness := (true, "b9b376812f329f43c376adc0e371088882322a95da042c49ca2c32346854805a"), looks := false }, kinds := [], alts := [], laidByText := true, laidKinds := [.data, .data], laidTests := true, laidLooks := .later }
def ResolveDistancesUptoCardSaid : Prop := Claim7.holds Tryz.pinned (.plain (OpenSpec.upto resolveDistancesSpec)) resolveDistancesUptoCard

/-- THE SECOND FORM's CARD OF 'flightdecklaw25.ResolvePlans'. -/
def resolvePlansUptoCard : Claim7 := { stood := { row := resolvePlansUptoRow, standIns := [], harness := (true, "b9b376812f329f43c376adc0e371088882322a95da042c49ca2c32346854805a"), looks := false }, kinds := [], alts := [], laidByText := true, laidKinds := [.data, .data], laidTests := true, laidLooks := .later }
def ResolvePlansUptoCardSaid : Prop := Claim7.holds Tryz.pinned (.plain (OpenSpec.upto resolvePlansSpec)) resolvePlansUptoCard

/-- THE SECOND FORM's CARD OF 'flightdecklaw25.ResolveMeets'. -/
def resolveMeetsUptoCard : Claim7 := { stood := { row := resolveMeetsUptoRow, standIns := [], harness := (true, "b9b376812f329f43c376adc0e371088882322a95da042c49ca2c32346854805a"), looks := false }, kinds := [], alts := [], laidByText := true, laidKinds := [.data, .data], laidTests := true, laidLooks := .later }
def ResolveMeetsUptoCardSaid : Prop := Claim7.holds Tryz.pinned (.plain (OpenSpec.upto resolveMeetsSpec)) resolveMeetsUptoCard

/-- THE SECOND FORM's CARD OF 'flightdecklaw25.ResolveOrder'. -/
def resolveOrderUptoCard : Claim7 := { stood := { row := resolveOrderUptoRow, standIns := [], harness := (true, "b9b376812f329f43c376adc0e371088882322a95da042c49ca2c32346854805a"), looks := false }, kinds := [], alts := [], laidByText := true, laidKinds := [.data, .data], laidTests := true, laidLooks := .later }
def ResolveOrderUptoCardSaid : Prop := Claim7.holds Tryz.pinned (.plain (OpenSpec.upto resolveOrderSpec)) resolveOrderUptoCard
end Rows
end Go.Proofs.YtjjdojokkmfbmaaGreatDoor
