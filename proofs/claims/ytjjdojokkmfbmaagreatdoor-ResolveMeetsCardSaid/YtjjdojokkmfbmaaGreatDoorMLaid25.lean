/-
  What the listed package variables hold when the call begins: the table of the fields that leg types use; the ordinary options.
-/
import Derived.Test.YtjjdojokkmfbmaaGreatDoorRows
import Derived.LaidMore
import Derived.LaidLaws
import Derived.LaidHandle
import Derived.MakeChecks
import Derived.OpenShut
import Derived.ProofKit
namespace Go.Proofs.YtjjdojokkmfbmaaGreatDoor
open Go.ChangeShapes Go.WideShapes Go.ChangeAt Go.RowKit Go.WideElems
set_option linter.unusedVariables false
def laidL : List (String × DataW Unit) := [("flightdeck/leg.uses", Rows.laid_flightdeck_leg_uses), ("flightdeck/flightdecklaw25.usual", Rows.laid_flightdeck_flightdecklaw25_usual)]
theorem door_met (os : Os) (args : Array Value) : laidMetH Tryz.prog laidL ((World.doorLaid Tryz.prog 400 os).forCall (fun _ _ => 0) ⟨#[], args, []⟩).memory :=
  laidMetH_of_parts3 (fuel := 8) (laidMet_of_run' 8 (by kernel_rfl) (by kernel_rfl)) (by kernel_rfl) (by kernel_rfl)
def usesL : List Int := [0, 1, 9, 25, 9, 71, 71, 16, 50, 16, 146, 17, 49, 17, 53, 53, 53, 53]
theorem gU : Tryz.prog.globalNamed "flightdeck/leg.uses" = some 1 := by kernel_rfl
theorem tU : (Tryz.prog.globals[1]?).map (·.type) = some 80 := by kernel_rfl
theorem cU : Tryz.prog.cellsOf 79 = 1 := by kernel_rfl
/-- the table in memory -/
def usesAt (w : World) : Prop := ∀ (i : Nat) (n : Int), usesL[i]? = some n → w.cell? ⟨1, i, none⟩ = some (.int .u16 n)
theorem uses_of {W : World} (h : laidMetH Tryz.prog laidL W) : usesAt W := by
  rw [MakeChecks.laidMetH_plain _ _ _ (by kernel_rfl)] at h
  obtain ⟨ps, ⟨g0, t0, cs0, f0, p0, q0, hg0, ht0, hv0, hd0, _⟩, _⟩ := h
  obtain rfl := Option.some.inj (gU.symm.trans hg0)
  obtain rfl := Option.some.inj (tU.symm.trans ht0)
  obtain ⟨xs, m1, _, hx1, hlen, hn3, hel⟩ := DataW.trod_array Tryz.underlying80 hd0
  intro i n hi
  have hi2 : i < 18 := by
    have := (List.getElem?_eq_some_iff.1 hi).1
    simpa [usesL] using this
  have hc := World.var?_cell hg0 hv0 i
  have hm := hel i hi2
  rw [cU, Nat.mul_one] at hm
  obtain ⟨y, hy⟩ : ∃ y, xs[i]? = some y := ⟨_, List.getElem?_eq_getElem (by omega)⟩
  rw [hy] at hm
  have hl : cs0.toList.length = 18 := hlen.trans (by kernel_rfl)
  obtain ⟨c, hcc⟩ : ∃ c, cs0.toList[i]? = some c := ⟨_, List.getElem?_eq_getElem (by omega)⟩
  have e1 : (cs0.toList.drop i).take 1 = [c] := by
    obtain ⟨h1, h2⟩ := List.getElem?_eq_some_iff.1 hcc
    rw [List.drop_eq_getElem_cons h1, h2]
    rfl
  rw [e1] at hm
  obtain ⟨k, ec, ey, _⟩ := DataW.trod_int Tryz.underlying79 hm
  injection ec with ec
  have hx := congrArg (fun t => t.1) hx1
  dsimp only at hx
  rw [show (Rows.laid_flightdeck_leg_uses : DataW Unit) = .agg (usesL.map fun n => DataW.lit (.int .u16 n)) from rfl] at hx
  injection hx with hx
  have hz : (usesL.map fun n => (DataW.lit (.int .u16 n) : DataW Unit))[i]? = (xs.map fun x => x.1)[i]? := by rw [hx]
  rw [List.getElem?_map, List.getElem?_map, hi, hy, ey] at hz
  injection hz with hz
  injection hz with hz
  injection hz with _ hz
  rw [hc, hz, ← ec]
  simpa using hcc
def w_cell (W : World) (g i : Nat) (n : Int) : Prop := W.cell? ⟨g, i, none⟩ = some (.int .i64 n)
theorem gQ : Tryz.prog.globalNamed "flightdeck/flightdecklaw25.usual" = some 0 := by kernel_rfl
theorem tQ : (Tryz.prog.globals[0]?).map (·.type) = some 23 := by kernel_rfl
theorem cQ : Tryz.prog.cellsOf 2 = 1 := by kernel_rfl
def usualL : List Int := [250, 2500, 100000, 20000]
/-- the ordinary options in memory -/
def usualAt (w : World) : Prop := ∀ (i : Nat) (n : Int), usualL[i]? = some n → w.cell? ⟨0, i, none⟩ = some (.int .i64 n)
theorem usual_of {W : World} (h : laidMetH Tryz.prog laidL W) : usualAt W := by
  rw [MakeChecks.laidMetH_plain _ _ _ (by kernel_rfl)] at h
  obtain ⟨ps, ⟨_, _, _, _, _, _, _, _, _, _, hmore, _⟩, _⟩ := h
  obtain ⟨g0, t0, cs0, f0, p0, q0, hg0, ht0, hv0, hd0, _⟩ := hmore
  obtain rfl := Option.some.inj (gQ.symm.trans hg0)
  obtain rfl := Option.some.inj (tQ.symm.trans ht0)
  obtain ⟨xs, m1, _, hx1, hlen, hn3, hel⟩ := DataW.trod_struct Tryz.underlying23 hd0
  have hl : cs0.toList.length = 4 := hlen.trans (by kernel_rfl)
  have hxl : xs.length = 4 := hn3
  have hx := congrArg (fun t => t.1) hx1
  dsimp only at hx
  rw [show (Rows.laid_flightdeck_flightdecklaw25_usual : DataW Unit) = .agg (usualL.map fun n => DataW.lit (.int .i64 n)) from rfl] at hx
  injection hx with hx
  have key : ∀ (i : Nat) (n : Int), usualL[i]? = some n → i < 4 → (∃ y, xs[i]? = some y ∧ DataW.trod (fun _ => ()) Tryz.prog W 0 (fun _ => true) false m1 2 ((cs0.toList.drop i).take 1) = some y) → w_cell W 0 i n := by
    intro i n hi hi4 ⟨y, hy, hm⟩
    have hc := World.var?_cell hg0 hv0 i
    obtain ⟨c, hcc⟩ : ∃ c, cs0.toList[i]? = some c := ⟨_, List.getElem?_eq_getElem (by omega)⟩
    have e1 : (cs0.toList.drop i).take 1 = [c] := by
      obtain ⟨h1, h2⟩ := List.getElem?_eq_some_iff.1 hcc
      rw [List.drop_eq_getElem_cons h1, h2]
      rfl
    rw [e1] at hm
    obtain ⟨k, ec, ey, _⟩ := DataW.trod_int Tryz.underlying2 hm
    injection ec with ec
    have hz : (usualL.map fun n => (DataW.lit (.int .i64 n) : DataW Unit))[i]? = (xs.map fun x => x.1)[i]? := by rw [hx]
    rw [List.getElem?_map, List.getElem?_map, hi, hy, ey] at hz
    injection hz with hz
    injection hz with hz
    injection hz with _ hz
    show W.cell? _ = _
    rw [hc, hz, ← ec]
    simpa using hcc
  intro i n hi
  have hi4 : i < 4 := by
    have := (List.getElem?_eq_some_iff.1 hi).1
    simpa [usualL] using this
  refine key i n hi hi4 ?_
  obtain ⟨y, hy⟩ : ∃ y, xs[i]? = some y := ⟨_, List.getElem?_eq_getElem (by omega)⟩
  refine ⟨y, hy, ?_⟩
  obtain rfl | rfl | rfl | rfl : i = 0 ∨ i = 1 ∨ i = 2 ∨ i = 3 := by omega
  all_goals first
    | (have := hel 0 _ rfl; rw [hy] at this; simpa [cQ] using this)
    | (have := hel 1 _ rfl; rw [hy] at this; simpa [cQ] using this)
    | (have := hel 2 _ rfl; rw [hy] at this; simpa [cQ] using this)
    | (have := hel 3 _ rfl; rw [hy] at this; simpa [cQ] using this)
end Go.Proofs.YtjjdojokkmfbmaaGreatDoor
