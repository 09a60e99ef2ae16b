/-
  The walk of the law PathPoints.
-/
import Derived.Test.YtapgmnjpfcohhaaGreatDoorMAwake27
import Derived.Test.YtapgmnjpfcohhaaGreatDoorMDraw
import Derived.Test.YtapgmnjpfcohhaaGreatDoorMFixed
import Derived.Test.YtapgmnjpfcohhaaGreatDoorMFrame
import Derived.Test.YtapgmnjpfcohhaaGreatDoorMGeo
import Derived.Test.YtapgmnjpfcohhaaGreatDoorMLaid
import Derived.Test.YtapgmnjpfcohhaaGreatDoorMNode
import Derived.Test.YtapgmnjpfcohhaaGreatDoorMPatR
import Derived.Test.YtapgmnjpfcohhaaGreatDoorMPathIn
import Derived.Test.YtapgmnjpfcohhaaGreatDoorMPathM
import Derived.Test.YtapgmnjpfcohhaaGreatDoorMSeqP
import Derived.Test.YtapgmnjpfcohhaaGreatDoorRows
import Derived.Test.YtapgmnjpfcohhaaGreatDoorCards
import Derived.Test.YtapgmnjpfcohhaaGreatDoorTie
import Derived.SevenTiedAt
import Derived.LaidMore
import Derived.LaidLaws
import Derived.LaidHandle
import Derived.JoinedOf
import Derived.Deep.Slices
import Derived.WalkKit
import Derived.ProofKit
import Derived.OpenShut
import Derived.Below
import Derived.ChangeSame
import Derived.Deep.RegionHeld3
import Derived.Test.YtapgmnjpfcohhaaGreatDoorProg
import Derived.WalkSpells
import Derived.WalkLawsBesides
import Derived.Deep.QuietTactic
import Derived.BigQuiet
import Derived.Lib.ItoaNum
import Derived.Shelf.Small.Bits
import Derived.Shelf.Strconv.Itoa0
import Derived.Shelf.Bits.Mul64
import Derived.Shelf.Spec.BitsCarry
import Derived.Deep.DeepCutAuto
import Derived.Laws.BitsAllLaws
import Derived.MakeChecks
import Derived.BigRegion
import Derived.Laws.Tables
import Derived.Deep.WholeRow
import Derived.StillTailTactics
import Derived.Laws.OwnMore
import Derived.Deep.RegionWith
import Derived.Deep.AppendLies
import Derived.Deep.RegionLaw
import Derived.Lib.Bytealg
import Derived.Lib.Strings
import Derived.Deep.Draws
import Derived.Laws.Strings3
namespace Go.Proofs.YtapgmnjpfcohhaaGreatDoor
open Go.RowKit
set_option linter.unusedVariables false
set_option linter.unusedSimpArgs false
set_option maxRecDepth 100000 in
set_option maxHeartbeats 8000000 in
theorem pathPoints_walk0 (w : World) (S : Option Addr) (l : List El) (cap : Nat) (len : Int) (t : Int) (hu : Hid (usesAt w)) (h2 : l.length ≤ 9223372036854775807) (hp : Hid (pathAt w S l)) :
    Calls Tryz.prog 5 #[.agg #[.slice S l.length cap, .int .i64 len], .int .i64 t] w fun e w' => e = .returned (.bool true) ∧ Below w.heap.size w w' := by
  obtain ⟨⟨X, Y, C, E⟩, hR⟩ : ∃ R, R = patF l len t := ⟨_, rfl⟩
  have HR := hide hR
  clear hR
  go_enter Tryz.func5, Tryz.ntmps5
  go_wp2_with fail
  refine (awake27_any _ (hide (usesAt_below (show Below w.heap.size w _ by (repeat (with_reducible (first | assumption | exact Below.refl _ _ | refine Below.drew ?_ | refine below_drewN ?_ _ | refine below_set ?_ (by simp; try omega) _ | refine below_alloc ?_ (Nat.le_refl _) _ | refine below_sub (by assumption) ?_)))) hu.out))).mono ?_
  rintro e w1 ⟨rfl, hb1⟩
  obtain ⟨f1, f2⟩ : w1.cell? ⟨w.heap.size, 0, none⟩ = some (.slice S l.length cap) ∧ w1.cell? ⟨w.heap.size, 1, none⟩ = some (.int .i64 len) := by
    refine ⟨?_, ?_⟩ <;> (refine cell_below hb1 ?_; repeat (first | (with_reducible assumption) | ((with_reducible refine cell_set ?_ ?_ _); (· first | (simp; done) | (simp; omega) | omega)) | ((with_reducible refine cell_new ?_ ?_); (· (simp; done)); (· rfl)) | (with_reducible refine cell_alloc ?_ _) | (with_reducible refine cell_drew ?_) | (with_reducible refine cell_drewN ?_ _) | (with_reducible refine cell_below (by assumption) ?_)))
  have zf1 : w.heap.size < w1.heap.size := World.block_lt_of_cell? _ _ f1
  go_wp2_with fail
  refine (pat_any S l cap len t _ h2 (hide (pathAt_below (show Below w.heap.size w _ by (repeat (with_reducible (first | assumption | exact Below.refl _ _ | refine Below.drew ?_ | refine below_drewN ?_ _ | refine below_set ?_ (by simp; try omega) _ | refine below_alloc ?_ (Nat.le_refl _) _ | refine below_sub (by assumption) ?_)))) hp.out)) (X, Y, C, E) HR.out).mono ?_
  rintro e w2 ⟨rfl, hb2⟩
  obtain ⟨f3, f4⟩ : w2.cell? ⟨w.heap.size, 0, none⟩ = some (.slice S l.length cap) ∧ w2.cell? ⟨w.heap.size, 1, none⟩ = some (.int .i64 len) := by
    refine ⟨?_, ?_⟩ <;> (refine cell_below hb2 ?_; repeat (first | (with_reducible assumption) | ((with_reducible refine cell_set ?_ ?_ _); (· first | (simp; done) | (simp; omega) | omega)) | ((with_reducible refine cell_new ?_ ?_); (· (simp; done)); (· rfl)) | (with_reducible refine cell_alloc ?_ _) | (with_reducible refine cell_drew ?_) | (with_reducible refine cell_drewN ?_ _) | (with_reducible refine cell_below (by assumption) ?_)))
  have zf3 : w.heap.size < w2.heap.size := World.block_lt_of_cell? _ _ f3
  clear f1 zf1 f2
  go_wp2_with fail
  refine (rpat_any S l cap len t _ h2 (hide (pathAt_below (show Below w.heap.size w _ by (repeat (with_reducible (first | assumption | exact Below.refl _ _ | refine Below.drew ?_ | refine below_drewN ?_ _ | refine below_set ?_ (by simp; try omega) _ | refine below_alloc ?_ (Nat.le_refl _) _ | refine below_sub (by assumption) ?_)))) hp.out)) (X, Y, C, E) HR.out).mono ?_
  rintro e w3 ⟨rfl, hb3⟩
  obtain ⟨f5, f6, f7, f8⟩ : w3.cell? ⟨w.heap.size, 0, none⟩ = some (.slice S l.length cap) ∧ w3.cell? ⟨w.heap.size, 1, none⟩ = some (.int .i64 len) ∧ w3.cell? ⟨w2.heap.size, 0, none⟩ = some (.int .i64 X) ∧ w3.cell? ⟨w2.heap.size, 1, none⟩ = some (.int .i64 Y) := by
    refine ⟨?_, ?_, ?_, ?_⟩ <;> (refine cell_below hb3 ?_; repeat (first | (with_reducible assumption) | ((with_reducible refine cell_set ?_ ?_ _); (· first | (simp; done) | (simp; omega) | omega)) | ((with_reducible refine cell_new ?_ ?_); (· (simp; done)); (· rfl)) | (with_reducible refine cell_alloc ?_ _) | (with_reducible refine cell_drew ?_) | (with_reducible refine cell_drewN ?_ _) | (with_reducible refine cell_below (by assumption) ?_)))
  have zf5 : w.heap.size < w3.heap.size := World.block_lt_of_cell? _ _ f5
  have zf7 : w2.heap.size < w3.heap.size := World.block_lt_of_cell? _ _ f7
  clear f3 zf3 f4
  go_wp2_with fail
  all_goals
    go_ret
    exact ⟨rfl, by (repeat (with_reducible (first | assumption | exact Below.refl _ _ | refine Below.drew ?_ | refine below_drewN ?_ _ | refine below_set ?_ (by simp; try omega) _ | refine below_alloc ?_ (Nat.le_refl _) _ | refine below_sub (by assumption) ?_)))⟩
theorem pathPoints_walk {W : World} (S : Option Addr) (l : List El) (cap : Nat) (len : Int) (t : Int) (h2 : l.length ≤ 9223372036854775807) (hp : Hid (pathAt W S l)) (ht : I64 t) (hL : laidMetH Tryz.prog laidL W) (w : World) (hw : w = W := by rfl) :
    Calls Tryz.prog 5 #[.agg #[.slice S l.length cap, .int .i64 len], .int .i64 t] w fun e w' => e = .returned (.bool true) ∧ Below w.heap.size w w' := by
  subst hw
  exact pathPoints_walk0 w S l cap len t (hide (uses_of hL)) h2 hp
end Go.Proofs.YtapgmnjpfcohhaaGreatDoor

/-
  PathPoints: the row's step: the given statement 'PathPointsSaid' out of the walk.
-/
namespace Go.Proofs.YtapgmnjpfcohhaaGreatDoor.pathPoints
open Go.ChangeShapes Go.WideShapes Go.ChangeAt Go.RowKit
set_option linter.unusedVariables false

theorem own : ownKnob Tryz.prog.godebug = none := by kernel_rfl
theorem laidOut : laidOutB Tryz.prog = true := pf_laid
theorem typed : (Tryz.f5.params.toList.all fun t => Tryz.prog.readableRec t && decide (t < Tryz.prog.types.size)) = true := by kernel_rfl
theorem typed' : ∀ t ∈ Tryz.f5.params.toList, Tryz.prog.readableRec t = true ∧ t < Tryz.prog.types.size := by
  intro t ht
  have h := List.all_eq_true.1 typed t ht
  simpa using h
theorem ct24 : Tryz.prog.cellTypes Tryz.prog.depth 24 = some [22, 2] := by kernel_rfl
theorem cn24 : Tryz.prog.cellsOf 24 = ([22, 2] : List TypeId).length := by kernel_rfl
set_option maxRecDepth 100000 in
theorem lifted (os : Os) (started : os.Started) (H : Type) (enc : TypeId × Value → H) :
    ReturnsInHanded {} Tryz.checked os 5 .any (fun w args => (Rows.pathPointsSpec.pre enc Tryz.prog Tryz.f5 Rows.pathPointsRow.domain false w args ∧ laidMetH Tryz.prog laidL w) ∧ sizedMet enc Tryz.prog Tryz.f5 (OpenSpec.ofChange Rows.pathPointsSpec) false w args) (Rows.pathPointsSpec.post enc Tryz.prog Tryz.f5 false true false false) := by
  refine returnsInHanded_of_change_and (C := Tryz.checked) (X := fun w _ => laidMetH Tryz.prog laidL w) (fun _ _ _ hh h => h.of_heap hh) own started (by kernel_rfl) Tryz.func5
    (ChangeSpec.witness_shaped (enc := enc) (C := Tryz.checked) (os := os) (X := fun w _ => laidMetH Tryz.prog laidL w) false (World.doorLaid Tryz.prog 400 os) #[.agg #[.slice none 0 0, .int .i64 0], .int .i64 0] 8 rfl (World.shaped_of_RefB (by kernel_rfl) (by kernel_rfl)) (by kernel_rfl) (by kernel_rfl) (by kernel_rfl) (door_met os _)) ?_
  intro W base args ds gs before hval0 hW hcnd _ hL _
  have hval : ∀ (j : Nat) t v, Tryz.f5.params[j]? = some t → args[j]? = some v → Value.okWide Tryz.prog W .any base t v := hval0
  have hW' := hW
  obtain ⟨p, q, hA0, hV, rfl, hfz, hnd⟩ := hW
  have hlen := trodAll_length _ _ _ _ hA0
  rw [Tryz.params5] at hval hlen
  obtain ⟨v0, v1, rfl⟩ := arr2 hlen.1
  obtain ⟨d0, d1, rfl⟩ := list2 hlen.2
  obtain ⟨lp, rfl, ep, hlp⟩ := ok_agg (Or.inl ⟨_, Tryz.underlying24⟩) ct24 cn24 (hval 0 24 v0 rfl rfl)
  obtain ⟨pc0, pc1, rfl⟩ := list2 (ep.trans (by rfl))
  have hA' := hA0
  rw [Tryz.params5] at hA'
  obtain ⟨_, _, hTp, _⟩ := hA'
  obtain ⟨pS, pl, pcap, plen, hpv, hpl, hpp⟩ := path_in hTp ⟨pc0, pc1, rfl⟩
  obtain ⟨rfl, rfl⟩ : pc0 = .slice pS pl.length pcap ∧ pc1 = .int .i64 plen := by simpa using hpv
  obtain ⟨t, rfl, ht⟩ := ok_i64 Tryz.underlying2 (hval 1 2 v1 rfl rfl)
  refine (pathPoints_walk pS pl pcap plen t hpl (hide hpp) ht hL W).mono fun e W' ⟨he, hb⟩ => ?_
  subst he
  exact ⟨_, rfl, law_post (f := Tryz.f5) (s := Rows.pathPointsSpec) (tb := 4) laidOut typed' rfl (by kernel_rfl) Tryz.underlying4 hW' ⟨rfl, rfl, rfl⟩ hb⟩

theorem k0 : (Rows.pathPointsRow.wf (OpenSpec.ofChange Rows.pathPointsSpec)) = true := by kernel_rfl
theorem k3 : (Tryz.f5.params.all (Tryz.prog.readableRec ·)) = true := by kernel_rfl
theorem k4 : (namedTie Tryz.prog Rows.pathPointsRow.named Rows.pathPointsSpec.vars) = true := by kernel_rfl
theorem k5 : (Rows.pathPointsRow.stops == []) = true := by kernel_rfl
theorem k7 : (Rows.pathPointsRow.knobs == []) = true := by kernel_rfl
theorem k9 : (Rows.pathPointsRow.inPlace == Tryz.prog.inPlace 5) = true := by kernel_rfl
theorem k10 : (Rows.pathPointsRow.unfollowed == Tryz.prog.unfollowed 5) = true := by kernel_rfl
theorem k11 : (Rows.pathPointsRow.recurses == Tryz.prog.recurses 5) = true := by kernel_rfl
theorem k12 : (Rows.pathPointsRow.named == Tryz.prog.varsNamed 5) = true := by kernel_rfl
theorem k13 : (Rows.pathPointsRow.maps == (Tryz.f5.params.toList ++ Rows.pathPointsSpec.plain.varTypes Tryz.prog).any (Tryz.prog.mapsRec ·)) = true := by kernel_rfl
theorem k14 : (Rows.pathPointsRow.ifaces == (Tryz.f5.params.toList ++ Rows.pathPointsSpec.plain.varTypes Tryz.prog).any (Tryz.prog.ifacesRec ·)) = true := by kernel_rfl
theorem k15 : (Rows.pathPointsRow.mapsOut == Tryz.prog.mapsAmong Tryz.f5.resultTypes.toList) = true := by kernel_rfl
theorem k16 : (Rows.pathPointsRow.loops == (Tryz.f5.params.toList ++ Rows.pathPointsSpec.plain.varTypes Tryz.prog).any (Tryz.prog.loopsFrom ·)) = true := by kernel_rfl
theorem k17 : (Rows.pathPointsRow.wideKeys == (Tryz.f5.params.toList ++ Rows.pathPointsSpec.plain.varTypes Tryz.prog ++ Tryz.f5.resultTypes.toList).any (Tryz.prog.wideKeysFrom ·)) = true := by kernel_rfl
theorem k18 : (Rows.pathPointsSpec.vars.all (Tryz.prog.varReadable ·)) = true := by kernel_rfl
theorem k19 : (Tryz.f5.resultTypes.all (fun t => Tryz.prog.readableRec t && decide (t < Tryz.prog.types.size))) = true := by kernel_rfl
theorem k20 : (Rows.pathPointsRow.ifacesOut == Tryz.f5.resultTypes.toList.any (Tryz.prog.ifacesRec ·)) = true := by kernel_rfl
theorem k21 : (Rows.pathPointsRow.loopsOut == Tryz.f5.resultTypes.toList.any (Tryz.prog.loopsFrom ·)) = true := by kernel_rfl
theorem k22 : (Rows.pathPointsRow.plainKeys == Tryz.prog.plainKeys) = true := by kernel_rfl
theorem k23 : (Rows.pathPointsRow.shortTexts.isNone) = true := by kernel_rfl
theorem k26 : (Rows.pathPointsRow.lifted == Tryz.prog.liftsFinal) = true := by rw [pf_lifts]; rfl
theorem k27 : (Tryz.prog.make == some Rows.pathPointsRow.make) = true := by rw [pf_make]; rfl
theorem k28 : (Rows.pathPointsRow.kinds == (if Rows.pathPointsRow.domain.isEmpty then [] else Tryz.f5.params.toList.map fun t => match Tryz.prog.underlying t with | some (.int k) => some k | _ => none)) = true := by kernel_rfl
theorem k29 : (Rows.pathPointsRow.pinned == Rows.pathPointsRow.pinnedBy) = true := by kernel_rfl
theorem k30 : (Rows.pathPointsRow.veiled == (Tryz.f5.params.toList ++ Rows.pathPointsSpec.plain.varTypes Tryz.prog ++ Tryz.f5.resultTypes.toList).any (Tryz.prog.veiledRec ·)) = true := by kernel_rfl
theorem k31 : (Rows.pathPointsRow.veiledFits Tryz.prog Tryz.f5.params.toList (Tryz.f5.params.toList ++ Rows.pathPointsSpec.plain.varTypes Tryz.prog ++ Tryz.f5.resultTypes.toList)) = true := by kernel_rfl
set_option maxRecDepth 100000 in
theorem closed : joinedFacts Tryz.prog 5 Tryz.f5 Rows.pathPointsSpec Rows.pathPointsRow = true := (band (band (band (band (band (band (band (band (band (band (band (band (band (band (band (band (band (band (band (band (band (band (band (band (band (band (band (band (band (band (band k0 pf_laid) pf_maps) k3) k4) k5) pf_stops) k7) pf_knobs) k9) k10) k11) k12) k13) k14) k15) k16) k17) k18) k19) k20) k21) k22) k23) pf_heard) pf_enter) k26) k27) k28) k29) k30) k31)
theorem byName : Tryz.prog.funcNamed Rows.pathPointsRow.func = some 5 := by kernel_rfl
theorem inst : Tryz.f5.isInstance Tryz.prog Rows.pathPointsRow.origin Rows.pathPointsRow.targs := of_decide_eq_true (by kernel_rfl)
theorem over : Rows.pathPointsRow.holds Tryz.pinned (OpenSpec.ofChange Rows.pathPointsSpec) :=
  OpenClaim.holds_of_wide 5 Tryz.f5 rfl rfl rfl rfl rfl rfl rfl ⟨rfl, rfl, rfl, rfl, rfl⟩ rfl rfl rfl rfl rfl byName Tryz.func5 closed
    inst (by unfold Func.isWrapper; rw [if_neg (of_decide_eq_false (by kernel_rfl))]; exact ⟨rfl, rfl⟩)
    (fun os started H enc _ => lifted os started H enc)

/-- The given statement: the tied card. -/
theorem proved : Rows.PathPointsCardSaid :=
  Claim7.holds_tied_plain_at .later [] [.data] true Rows.pathPointsCard.stood.harness false
    over (fun _ h => by cases h) (by kernel_rfl) (fun _ h => by cases h) pathPoints_row_tie rfl ⟨rfl, rfl⟩ (by kernel_rfl) rfl
    (fun f fn hf hfn => by
      obtain rfl : f = 5 := Option.some.inj ((show Tryz.prog.funcNamed "flightdeck/flightdecklaw27.PathPoints" = some 5 by kernel_rfl).symm.trans hf) |>.symm
      obtain rfl : fn = Tryz.f5 := (Option.some.inj (Tryz.func5.symm.trans hfn)).symm
      exact ⟨by kernel_rfl, fun j t ht => by
        have hm : t ∈ Tryz.f5.params.toList := by simpa using Array.mem_of_getElem? ht
        have hall : (Tryz.f5.params.toList.all fun u => !Tryz.prog.wantsStandIn u) = true := by kernel_rfl
        exact (show Tryz.prog.wantsStandIn t = false by simpa using List.all_eq_true.1 hall t hm)⟩)
    (by kernel_rfl)
end Go.Proofs.YtapgmnjpfcohhaaGreatDoor.pathPoints
