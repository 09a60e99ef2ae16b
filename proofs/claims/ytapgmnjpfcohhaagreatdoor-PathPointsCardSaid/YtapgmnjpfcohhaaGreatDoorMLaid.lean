/-
  What the listed package variable holds when the call begins: the table of the fields that leg types use.
-/
import Derived.Test.YtapgmnjpfcohhaaGreatDoorRows
import Derived.LaidMore
import Derived.LaidLaws
import Derived.LaidHandle
import Derived.MakeChecks
import Derived.OpenShut
import Derived.ProofKit
namespace Go.Proofs.YtapgmnjpfcohhaaGreatDoor
open Go.ChangeShapes Go.WideShapes Go.ChangeAt Go.RowKit Go.WideElems
set_option linter.unusedVariables false
def laidL : List (String × DataW Unit) := [("flightdeck/leg.uses", Rows.laid_flightdeck_leg_uses)]
theorem door_met (os : Os) (args : Array Value) : laidMetH Tryz.prog laidL ((World.doorLaid Tryz.prog 400 os).forCall (fun _ _ => 0) ⟨#[], args, []⟩).memory :=
  laidMetH_of_parts3 (fuel := 8) (laidMet_of_run' 8 (by kernel_rfl) (by kernel_rfl)) (by kernel_rfl) (by kernel_rfl)
def usesL : List Int := [0, 1, 9, 25, 9, 71, 71, 16, 50, 16, 146, 17, 49, 17, 53, 53, 53, 53]
theorem gU : Tryz.prog.globalNamed "flightdeck/leg.uses" = some 2 := by kernel_rfl
theorem tU : (Tryz.prog.globals[2]?).map (·.type) = some 175 := by kernel_rfl
theorem cU : Tryz.prog.cellsOf 174 = 1 := by kernel_rfl
/-- the table in memory -/
def usesAt (w : World) : Prop := ∀ (i : Nat) (n : Int), usesL[i]? = some n → w.cell? ⟨2, i, none⟩ = some (.int .u16 n)
theorem usesAt_below {W w1 : World} (hb : Below W.heap.size W w1) (h : usesAt W) : usesAt w1 := by
  intro i n hi
  have hc := h i n hi
  exact (hb.cell (World.block_lt_of_cell? _ _ hc)).trans hc
theorem uses_of {W : World} (h : laidMetH Tryz.prog laidL W) : usesAt W := by
  rw [MakeChecks.laidMetH_plain _ _ _ (by kernel_rfl)] at h
  obtain ⟨ps, ⟨g0, t0, cs0, f0, p0, q0, hg0, ht0, hv0, hd0, _⟩, _⟩ := h
  obtain rfl := Option.some.inj (gU.symm.trans hg0)
  obtain rfl := Option.some.inj (tU.symm.trans ht0)
  obtain ⟨xs, m1, _, hx1, hlen, hn3, hel⟩ := DataW.trod_array Tryz.underlying175 hd0
  intro i n hi
  have hi2 : i < 18 := by
    have := (List.getElem?_eq_some_iff.1 hi).1
    simpa [usesL] using this
  have hc := World.var?_cell hg0 hv0 i
  have hm := hel i hi2
  rw [cU, Nat.mul_one] at hm
  obtain ⟨y, hy⟩ : ∃ y, xs[i]? = some y := ⟨_, List.getElem?_eq_getElem (by omega)⟩
  rw [hy] at hm
  have hl : cs0.toList.length = 18 := hlen.trans (by kernel_rfl)
  obtain ⟨c, hcc⟩ : ∃ c, cs0.toList[i]? = some c := ⟨_, List.getElem?_eq_getElem (by omega)⟩
  have e1 : (cs0.toList.drop i).take 1 = [c] := by
    obtain ⟨h1, h2⟩ := List.getElem?_eq_some_iff.1 hcc
    rw [List.drop_eq_getElem_cons h1, h2]
    rfl
  rw [e1] at hm
  obtain ⟨k, ec, ey, _⟩ := DataW.trod_int Tryz.underlying174 hm
  injection ec with ec
  have hx := congrArg (fun t => t.1) hx1
  dsimp only at hx
  rw [show (Rows.laid_flightdeck_leg_uses : DataW Unit) = .agg (usesL.map fun n => DataW.lit (.int .u16 n)) from rfl] at hx
  injection hx with hx
  have hz : (usesL.map fun n => (DataW.lit (.int .u16 n) : DataW Unit))[i]? = (xs.map fun x => x.1)[i]? := by rw [hx]
  rw [List.getElem?_map, List.getElem?_map, hi, hy, ey] at hz
  injection hz with hz
  injection hz with hz
  injection hz with _ hz
  rw [hc, hz, ← ec]
  simpa using hcc
end Go.Proofs.YtapgmnjpfcohhaaGreatDoor
