/-
  The walk of the example of chapter 27.
-/
import Derived.Test.YtapgmnjpfcohhaaGreatDoorMLawsT
import Derived.Test.YtapgmnjpfcohhaaGreatDoorMBuild
import Derived.Test.YtapgmnjpfcohhaaGreatDoorMDraw
import Derived.Test.YtapgmnjpfcohhaaGreatDoorMFixed
import Derived.Test.YtapgmnjpfcohhaaGreatDoorMGeo
import Derived.Test.YtapgmnjpfcohhaaGreatDoorMLaid
import Derived.Test.YtapgmnjpfcohhaaGreatDoorMNode
import Derived.Test.YtapgmnjpfcohhaaGreatDoorMPathM
import Derived.Test.YtapgmnjpfcohhaaGreatDoorMPlanC
import Derived.Test.YtapgmnjpfcohhaaGreatDoorMPathA
import Derived.Test.YtapgmnjpfcohhaaGreatDoorMStoreN
import Derived.BigRegion
import Derived.Test.YtapgmnjpfcohhaaGreatDoorProg
import Derived.WalkSpells
import Derived.WalkLawsBesides
import Derived.Deep.QuietTactic
import Derived.BigQuiet
import Derived.Lib.ItoaNum
import Derived.Shelf.Small.Bits
import Derived.Shelf.Strconv.Itoa0
import Derived.Shelf.Bits.Mul64
import Derived.Shelf.Spec.BitsCarry
import Derived.WalkKit
import Derived.ProofKit
import Derived.OpenShut
import Derived.Below
import Derived.ChangeSame
import Derived.Test.YtapgmnjpfcohhaaGreatDoorRows
import Derived.Deep.RegionHeld3
import Derived.Deep.DeepCutAuto
import Derived.Laws.BitsAllLaws
import Derived.Laws.Tables
import Derived.Deep.WholeRow
import Derived.StillTailTactics
import Derived.Laws.OwnMore
import Derived.Deep.RegionWith
import Derived.Deep.AppendLies
import Derived.Deep.RegionLaw
import Derived.LaidMore
import Derived.LaidLaws
import Derived.LaidHandle
import Derived.MakeChecks
import Derived.Lib.Bytealg
import Derived.Lib.Strings
import Derived.Deep.Draws
import Derived.Laws.Strings3
namespace Go.Proofs.YtapgmnjpfcohhaaGreatDoor
open Go.RowKit
set_option linter.unusedVariables false
set_option linter.unusedSimpArgs false
set_option maxRecDepth 100000 in
set_option maxHeartbeats 16000000 in
theorem awake27_any (w : World) (hu : Hid (usesAt w)) : Calls Tryz.prog 8 #[] w fun e w' => e = .returned (.bool true) ∧ Below w.heap.size w w' := by
  go_enter Tryz.func8, Tryz.ntmps8
  go_wp2_with fail
  refine (to_any 1 ⟨#[65, 47, 48, 48]⟩ 0 (-30000) _).mono ?_
  rintro e w1 ⟨rfl, hb1⟩
  go_wp2_with fail
  refine (to_any 2 ⟨#[66, 47, 48, 48]⟩ 0 0 _).mono ?_
  rintro e w2 ⟨rfl, hb2⟩
  go_wp2_with fail
  refine (to_any 2 ⟨#[67, 47, 48, 48]⟩ 30000 0 _).mono ?_
  rintro e w3 ⟨rfl, hb3⟩
  go_wp2_with fail
  have hrow : Hid (rowAt (w3.alloc (.cells #[.bool false, .int .u8 1, .string ⟨#[65, 47, 48, 48]⟩, .string ⟨#[]⟩, .int .u8 0, .bool false, .int .i64 0, .int .i64 0, .int .i64 0, .int .i64 0, .int .i64 (-200000), .int .i64 6000000, .int .i64 0, .int .i64 0, .int .i64 0, .int .i64 (-30000), .int .i64 0, .int .i64 0, .int .u8 2, .string ⟨#[]⟩, .bool false, .int .u8 2, .string ⟨#[66, 47, 48, 48]⟩, .string ⟨#[]⟩, .int .u8 0, .bool false, .int .i64 0, .int .i64 0, .int .i64 0, .int .i64 0, .int .i64 (-200000), .int .i64 6000000, .int .i64 0, .int .i64 0, .int .i64 0, .int .i64 0, .int .i64 0, .int .i64 0, .int .u8 2, .string ⟨#[]⟩, .bool false, .int .u8 2, .string ⟨#[67, 47, 48, 48]⟩, .string ⟨#[]⟩, .int .u8 0, .bool false, .int .i64 0, .int .i64 0, .int .i64 0, .int .i64 0, .int .i64 (-200000), .int .i64 6000000, .int .i64 0, .int .i64 0, .int .i64 30000, .int .i64 0, .int .i64 0, .int .i64 0, .int .u8 2, .string ⟨#[]⟩] 52)) w3.heap.size exC) := hide (fun j v hj => cell_new rfl (by simpa [exC] using hj))
  have hB3 : Below w.heap.size w (w3.alloc (.cells #[.bool false, .int .u8 1, .string ⟨#[65, 47, 48, 48]⟩, .string ⟨#[]⟩, .int .u8 0, .bool false, .int .i64 0, .int .i64 0, .int .i64 0, .int .i64 0, .int .i64 (-200000), .int .i64 6000000, .int .i64 0, .int .i64 0, .int .i64 0, .int .i64 (-30000), .int .i64 0, .int .i64 0, .int .u8 2, .string ⟨#[]⟩, .bool false, .int .u8 2, .string ⟨#[66, 47, 48, 48]⟩, .string ⟨#[]⟩, .int .u8 0, .bool false, .int .i64 0, .int .i64 0, .int .i64 0, .int .i64 0, .int .i64 (-200000), .int .i64 6000000, .int .i64 0, .int .i64 0, .int .i64 0, .int .i64 0, .int .i64 0, .int .i64 0, .int .u8 2, .string ⟨#[]⟩, .bool false, .int .u8 2, .string ⟨#[67, 47, 48, 48]⟩, .string ⟨#[]⟩, .int .u8 0, .bool false, .int .i64 0, .int .i64 0, .int .i64 0, .int .i64 0, .int .i64 (-200000), .int .i64 6000000, .int .i64 0, .int .i64 0, .int .i64 30000, .int .i64 0, .int .i64 0, .int .i64 0, .int .u8 2, .string ⟨#[]⟩] 52)) := by (repeat (with_reducible (first | assumption | exact Below.refl _ _ | refine Below.drew ?_ | refine below_drewN ?_ _ | refine below_set ?_ (by simp; try omega) _ | refine below_alloc ?_ (Nat.le_refl _) _ | refine below_sub (by assumption) ?_)))
  have hu3 := hide (usesAt_below hB3 hu.out)
  refine (build_ex w3.heap.size _ (hide (usesAt_below (show Below w.heap.size w _ by (repeat (with_reducible (first | assumption | exact Below.refl _ _ | refine Below.drew ?_ | refine below_drewN ?_ _ | refine below_set ?_ (by simp; try omega) _ | refine below_alloc ?_ (Nat.le_refl _) _ | refine below_sub (by assumption) ?_)))) hu.out)) (hide (rowAt_below ?_ hrow.out))).mono ?_
  · (repeat (with_reducible (first | assumption | exact Below.refl _ _ | refine Below.drew ?_ | refine below_drewN ?_ _ | refine below_set ?_ (by simp; try omega) _ | refine below_alloc ?_ (Nat.le_refl _) _ | refine below_sub (by assumption) ?_)))
  rintro e w5 ⟨gv, cap, rfl, hp, hb5⟩
  go_wp2_with fail
  have CK := fun W h => chk_any (some ⟨gv, 0, none⟩) planL cap 55904 W (by decide) h
  rw [plan_chk] at CK
  refine (CK _ (hide (pathAt_below (show Below w5.heap.size w5 _ by (repeat (with_reducible (first | assumption | exact Below.refl _ _ | refine Below.drew ?_ | refine below_drewN ?_ _ | refine below_set ?_ (by simp; try omega) _ | refine below_alloc ?_ (Nat.le_refl _) _ | refine below_sub (by assumption) ?_)))) hp.out))).mono ?_
  rintro e w6 ⟨rfl, hb6⟩
  obtain ⟨f101, f102⟩ : w6.cell? ⟨w5.heap.size, 0, none⟩ = some (.slice (some ⟨gv, 0, none⟩) 4 cap) ∧ w6.cell? ⟨w5.heap.size, 1, none⟩ = some (.int .i64 55904) := by
    refine ⟨?_, ?_⟩ <;> (refine cell_below hb6 ?_; repeat (first | (with_reducible assumption) | ((with_reducible refine cell_set ?_ ?_ _); (· first | (simp; done) | (simp; omega) | omega)) | ((with_reducible refine cell_new ?_ ?_); (· (simp; done)); (· rfl)) | (with_reducible refine cell_alloc ?_ _) | (with_reducible refine cell_drew ?_) | (with_reducible refine cell_drewN ?_ _) | (with_reducible refine cell_below (by assumption) ?_)))
  have zf101 : w5.heap.size < w6.heap.size := World.block_lt_of_cell? _ _ f101
  have hp6 := hide (pathAt_below (show Below w5.heap.size w5 w6 by (repeat (with_reducible (first | assumption | exact Below.refl _ _ | refine Below.drew ?_ | refine below_drewN ?_ _ | refine below_set ?_ (by simp; try omega) _ | refine below_alloc ?_ (Nat.le_refl _) _ | refine below_sub (by assumption) ?_)))) hp.out)
  have hw6 : Below w.heap.size w w6 := by (repeat (with_reducible (first | assumption | exact Below.refl _ _ | refine Below.drew ?_ | refine below_drewN ?_ _ | refine below_set ?_ (by simp; try omega) _ | refine below_alloc ?_ (Nat.le_refl _) _ | refine below_sub (by assumption) ?_)))
  have at0 : elAt w6 gv (0 + 0 * 13) _ := pathAt_get hp6.out (k := 0) rfl
  have at1 : elAt w6 gv (0 + 1 * 13) _ := pathAt_get hp6.out (k := 1) rfl
  have at2 : elAt w6 gv (0 + 2 * 13) _ := pathAt_get hp6.out (k := 2) rfl
  have at3 : elAt w6 gv (0 + 3 * 13) _ := pathAt_get hp6.out (k := 3) rfl
  have e0 : w6.cell? ⟨gv, 0, none⟩ = some (.bool false) := at0.1
  have e1 : w6.cell? ⟨gv, 1, none⟩ = some (.int .i64 0) := at0.2.1
  have e2 : w6.cell? ⟨gv, 2, none⟩ = some (.int .i64 (-30000)) := at0.2.2.1
  have e3 : w6.cell? ⟨gv, 3, none⟩ = some (.int .i64 0) := at0.2.2.2.1
  have e4 : w6.cell? ⟨gv, 4, none⟩ = some (.int .i64 (-9541)) := at0.2.2.2.2.1
  have e5 : w6.cell? ⟨gv, 5, none⟩ = some (.int .i64 0) := at0.2.2.2.2.2.1
  have e6 : w6.cell? ⟨gv, 6, none⟩ = some (.int .i64 0) := at0.2.2.2.2.2.2.1
  have e7 : w6.cell? ⟨gv, 7, none⟩ = some (.int .i64 0) := at0.2.2.2.2.2.2.2.1
  have e8 : w6.cell? ⟨gv, 8, none⟩ = some (.int .i64 0) := at0.2.2.2.2.2.2.2.2.1
  have e9 : w6.cell? ⟨gv, 9, none⟩ = some (.int .i64 0) := at0.2.2.2.2.2.2.2.2.2.1
  have e10 : w6.cell? ⟨gv, 10, none⟩ = some (.int .i64 20459) := at0.2.2.2.2.2.2.2.2.2.2.1
  have e11 : w6.cell? ⟨gv, 11, none⟩ = some (.int .i64 1) := at0.2.2.2.2.2.2.2.2.2.2.2.1
  have e12 : w6.cell? ⟨gv, 12, none⟩ = some (.bool false) := at0.2.2.2.2.2.2.2.2.2.2.2.2
  have e13 : w6.cell? ⟨gv, 13, none⟩ = some (.bool true) := at1.1
  have e23 : w6.cell? ⟨gv, 23, none⟩ = some (.int .i64 7493) := at1.2.2.2.2.2.2.2.2.2.2.1
  have e26 : w6.cell? ⟨gv, 26, none⟩ = some (.bool true) := at2.1
  have e39 : w6.cell? ⟨gv, 39, none⟩ = some (.bool false) := at3.1
  have e40 : w6.cell? ⟨gv, 40, none⟩ = some (.int .i64 9541) := at3.2.1
  have e41 : w6.cell? ⟨gv, 41, none⟩ = some (.int .i64 0) := at3.2.2.1
  have e42 : w6.cell? ⟨gv, 42, none⟩ = some (.int .i64 30000) := at3.2.2.2.1
  have e43 : w6.cell? ⟨gv, 43, none⟩ = some (.int .i64 0) := at3.2.2.2.2.1
  have e44 : w6.cell? ⟨gv, 44, none⟩ = some (.int .i64 0) := at3.2.2.2.2.2.1
  have e45 : w6.cell? ⟨gv, 45, none⟩ = some (.int .i64 0) := at3.2.2.2.2.2.2.1
  have e46 : w6.cell? ⟨gv, 46, none⟩ = some (.int .i64 0) := at3.2.2.2.2.2.2.2.1
  have e47 : w6.cell? ⟨gv, 47, none⟩ = some (.int .i64 0) := at3.2.2.2.2.2.2.2.2.1
  have e48 : w6.cell? ⟨gv, 48, none⟩ = some (.int .i64 0) := at3.2.2.2.2.2.2.2.2.2.1
  have e49 : w6.cell? ⟨gv, 49, none⟩ = some (.int .i64 20459) := at3.2.2.2.2.2.2.2.2.2.2.1
  have e50 : w6.cell? ⟨gv, 50, none⟩ = some (.int .i64 2) := at3.2.2.2.2.2.2.2.2.2.2.2.1
  have e51 : w6.cell? ⟨gv, 51, none⟩ = some (.bool false) := at3.2.2.2.2.2.2.2.2.2.2.2.2
  clear at0 at1 at2 at3
  have zgv : gv < w6.heap.size := World.block_lt_of_cell? _ _ e0
  go_wp2_with fail
  go_cut [5, 6] (fun sA sB wx => ∃ (a b : Nat) (wz : World), sA = .pointer (some ⟨a, 0, none⟩) ∧ sB = .pointer (some ⟨b, 0, none⟩) ∧ wz = wx ∧ w6.heap.size ≤ a ∧ w6.heap.size ≤ b ∧ wz.cell? ⟨a, 0, none⟩ = some (.bool false) ∧ wz.cell? ⟨a, 1, none⟩ = some (.int .i64 0) ∧ wz.cell? ⟨a, 2, none⟩ = some (.int .i64 (-30000)) ∧ wz.cell? ⟨a, 10, none⟩ = some (.int .i64 20459) ∧ wz.cell? ⟨b, 0, none⟩ = some (.bool false) ∧ wz.cell? ⟨b, 3, none⟩ = some (.int .i64 30000) ∧ wz.cell? ⟨b, 4, none⟩ = some (.int .i64 0) ∧ wz.cell? ⟨b, 10, none⟩ = some (.int .i64 20459) ∧ Below w6.heap.size w6 wz)
  case first =>
    go_region
    all_goals
      go_wp2_with fail
      go_meet
      refine ⟨_, _, _, rfl, rfl, rfl, ?_, ?_, ?_, ?_, ?_, ?_, ?_, ?_, ?_, ?_, ?_⟩
      · first | omega | (simp; done) | (simp; omega)
      · first | omega | (simp; done) | (simp; omega)
      · first | (simp [go_sem]; done) | (simp [go_sem, *]; done) | (repeat (first | (with_reducible assumption) | ((with_reducible refine cell_set ?_ ?_ _); (· first | (simp; done) | (simp; omega) | omega)) | ((with_reducible refine cell_new ?_ ?_); (· (simp; done)); (· rfl)) | (with_reducible refine cell_alloc ?_ _) | (with_reducible refine cell_drew ?_) | (with_reducible refine cell_drewN ?_ _) | (with_reducible refine cell_below (by assumption) ?_)))
      · first | (simp [go_sem]; done) | (simp [go_sem, *]; done) | (repeat (first | (with_reducible assumption) | ((with_reducible refine cell_set ?_ ?_ _); (· first | (simp; done) | (simp; omega) | omega)) | ((with_reducible refine cell_new ?_ ?_); (· (simp; done)); (· rfl)) | (with_reducible refine cell_alloc ?_ _) | (with_reducible refine cell_drew ?_) | (with_reducible refine cell_drewN ?_ _) | (with_reducible refine cell_below (by assumption) ?_)))
      · first | (simp [go_sem]; done) | (simp [go_sem, *]; done) | (repeat (first | (with_reducible assumption) | ((with_reducible refine cell_set ?_ ?_ _); (· first | (simp; done) | (simp; omega) | omega)) | ((with_reducible refine cell_new ?_ ?_); (· (simp; done)); (· rfl)) | (with_reducible refine cell_alloc ?_ _) | (with_reducible refine cell_drew ?_) | (with_reducible refine cell_drewN ?_ _) | (with_reducible refine cell_below (by assumption) ?_)))
      · first | (simp [go_sem]; done) | (simp [go_sem, *]; done) | (repeat (first | (with_reducible assumption) | ((with_reducible refine cell_set ?_ ?_ _); (· first | (simp; done) | (simp; omega) | omega)) | ((with_reducible refine cell_new ?_ ?_); (· (simp; done)); (· rfl)) | (with_reducible refine cell_alloc ?_ _) | (with_reducible refine cell_drew ?_) | (with_reducible refine cell_drewN ?_ _) | (with_reducible refine cell_below (by assumption) ?_)))
      · first | (simp [go_sem]; done) | (simp [go_sem, *]; done) | (repeat (first | (with_reducible assumption) | ((with_reducible refine cell_set ?_ ?_ _); (· first | (simp; done) | (simp; omega) | omega)) | ((with_reducible refine cell_new ?_ ?_); (· (simp; done)); (· rfl)) | (with_reducible refine cell_alloc ?_ _) | (with_reducible refine cell_drew ?_) | (with_reducible refine cell_drewN ?_ _) | (with_reducible refine cell_below (by assumption) ?_)))
      · first | (simp [go_sem]; done) | (simp [go_sem, *]; done) | (repeat (first | (with_reducible assumption) | ((with_reducible refine cell_set ?_ ?_ _); (· first | (simp; done) | (simp; omega) | omega)) | ((with_reducible refine cell_new ?_ ?_); (· (simp; done)); (· rfl)) | (with_reducible refine cell_alloc ?_ _) | (with_reducible refine cell_drew ?_) | (with_reducible refine cell_drewN ?_ _) | (with_reducible refine cell_below (by assumption) ?_)))
      · first | (simp [go_sem]; done) | (simp [go_sem, *]; done) | (repeat (first | (with_reducible assumption) | ((with_reducible refine cell_set ?_ ?_ _); (· first | (simp; done) | (simp; omega) | omega)) | ((with_reducible refine cell_new ?_ ?_); (· (simp; done)); (· rfl)) | (with_reducible refine cell_alloc ?_ _) | (with_reducible refine cell_drew ?_) | (with_reducible refine cell_drewN ?_ _) | (with_reducible refine cell_below (by assumption) ?_)))
      · first | (simp [go_sem]; done) | (simp [go_sem, *]; done) | (repeat (first | (with_reducible assumption) | ((with_reducible refine cell_set ?_ ?_ _); (· first | (simp; done) | (simp; omega) | omega)) | ((with_reducible refine cell_new ?_ ?_); (· (simp; done)); (· rfl)) | (with_reducible refine cell_alloc ?_ _) | (with_reducible refine cell_drew ?_) | (with_reducible refine cell_drewN ?_ _) | (with_reducible refine cell_below (by assumption) ?_)))
      · (repeat (with_reducible (first | assumption | exact Below.refl _ _ | refine Below.drew ?_ | refine below_drewN ?_ _ | refine below_set ?_ (by simp; try omega) _ | refine below_alloc ?_ (Nat.le_refl _) _ | refine below_sub (by assumption) ?_)))
  case rest =>
    obtain ⟨a, b, wz, rfl, rfl, rfl, ha, hb, k0, k1, k2, k3, k4, k5, k6, k7, hbz⟩ := hcut
    have lt1 : w5.heap.size < w6.heap.size := World.block_lt_of_cell? _ _ f101
    have lt2 : gv < w6.heap.size := World.block_lt_of_cell? _ _ e13
    obtain ⟨t103, t104, t105, t106, t107⟩ : wz.cell? ⟨w5.heap.size, 0, none⟩ = some (.slice (some ⟨gv, 0, none⟩) 4 cap) ∧ wz.cell? ⟨w5.heap.size, 1, none⟩ = some (.int .i64 55904) ∧ wz.cell? ⟨gv, 13, none⟩ = some (.bool true) ∧ wz.cell? ⟨gv, 23, none⟩ = some (.int .i64 7493) ∧ wz.cell? ⟨gv, 26, none⟩ = some (.bool true) := by
      refine ⟨?_, ?_, ?_, ?_, ?_⟩ <;> (refine cell_below hbz ?_; repeat (first | (with_reducible assumption) | ((with_reducible refine cell_set ?_ ?_ _); (· first | (simp; done) | (simp; omega) | omega)) | ((with_reducible refine cell_new ?_ ?_); (· (simp; done)); (· rfl)) | (with_reducible refine cell_alloc ?_ _) | (with_reducible refine cell_drew ?_) | (with_reducible refine cell_drewN ?_ _) | (with_reducible refine cell_below (by assumption) ?_)))
    have zt103 : w5.heap.size < wz.heap.size := World.block_lt_of_cell? _ _ t103
    have zt105 : gv < wz.heap.size := World.block_lt_of_cell? _ _ t105
    clear f101 f102 e13 e23 e26
    have za : a < wz.heap.size := World.block_lt_of_cell? _ _ k0
    have zb : b < wz.heap.size := World.block_lt_of_cell? _ _ k4
    go_wp2_with fail
    refine (node_any (some ⟨gv, 0, none⟩) planL cap 55904 1 _ (by decide) (hide (pathAt_below (show Below w6.heap.size w6 _ by (repeat (with_reducible (first | assumption | exact Below.refl _ _ | refine Below.drew ?_ | refine below_drewN ?_ _ | refine below_set ?_ (by simp; try omega) _ | refine below_alloc ?_ (Nat.le_refl _) _ | refine below_sub (by assumption) ?_)))) hp6.out)) (27952, 0) plan_node.symm).mono ?_
    rintro e w7 ⟨rfl, hb7⟩
    obtain ⟨f108, f109, f110, f111, f112, f113, f114, f115, f116, f117, f118, f119, f120⟩ : w7.cell? ⟨w5.heap.size, 0, none⟩ = some (.slice (some ⟨gv, 0, none⟩) 4 cap) ∧ w7.cell? ⟨w5.heap.size, 1, none⟩ = some (.int .i64 55904) ∧ w7.cell? ⟨gv, 13, none⟩ = some (.bool true) ∧ w7.cell? ⟨gv, 23, none⟩ = some (.int .i64 7493) ∧ w7.cell? ⟨gv, 26, none⟩ = some (.bool true) ∧ w7.cell? ⟨a, 0, none⟩ = some (.bool false) ∧ w7.cell? ⟨a, 1, none⟩ = some (.int .i64 0) ∧ w7.cell? ⟨a, 2, none⟩ = some (.int .i64 (-30000)) ∧ w7.cell? ⟨a, 10, none⟩ = some (.int .i64 20459) ∧ w7.cell? ⟨b, 0, none⟩ = some (.bool false) ∧ w7.cell? ⟨b, 3, none⟩ = some (.int .i64 30000) ∧ w7.cell? ⟨b, 4, none⟩ = some (.int .i64 0) ∧ w7.cell? ⟨b, 10, none⟩ = some (.int .i64 20459) := by
      refine ⟨?_, ?_, ?_, ?_, ?_, ?_, ?_, ?_, ?_, ?_, ?_, ?_, ?_⟩ <;> (refine cell_below hb7 ?_; repeat (first | (with_reducible assumption) | ((with_reducible refine cell_set ?_ ?_ _); (· first | (simp; done) | (simp; omega) | omega)) | ((with_reducible refine cell_new ?_ ?_); (· (simp; done)); (· rfl)) | (with_reducible refine cell_alloc ?_ _) | (with_reducible refine cell_drew ?_) | (with_reducible refine cell_drewN ?_ _) | (with_reducible refine cell_below (by assumption) ?_)))
    have zf108 : w5.heap.size < w7.heap.size := World.block_lt_of_cell? _ _ f108
    have zf110 : gv < w7.heap.size := World.block_lt_of_cell? _ _ f110
    have zf113 : a < w7.heap.size := World.block_lt_of_cell? _ _ f113
    have zf117 : b < w7.heap.size := World.block_lt_of_cell? _ _ f117
    clear t103 zt103 t104 t105 zt105 t106 t107 k0 k1 k2 k3 k4 k5 k6 k7
    go_wp2_with fail
    go_quiet (fail)
    go_wp2_with fail
    refine (pat_any (some ⟨gv, 0, none⟩) planL cap 55904 10000 _ (by decide) (hide (pathAt_below (show Below w6.heap.size w6 _ by (repeat (with_reducible (first | assumption | exact Below.refl _ _ | refine Below.drew ?_ | refine below_drewN ?_ _ | refine below_set ?_ (by simp; try omega) _ | refine below_alloc ?_ (Nat.le_refl _) _ | refine below_sub (by assumption) ?_)))) hp6.out)) (0, -20000, 0, 0) plan_at.symm).mono ?_
    rintro e w8 ⟨rfl, hb8⟩
    obtain ⟨f121, f122, f123, f124, f125, f126, f127, f128, f129, f130, f131, f132, f133⟩ : w8.cell? ⟨w5.heap.size, 0, none⟩ = some (.slice (some ⟨gv, 0, none⟩) 4 cap) ∧ w8.cell? ⟨w5.heap.size, 1, none⟩ = some (.int .i64 55904) ∧ w8.cell? ⟨gv, 13, none⟩ = some (.bool true) ∧ w8.cell? ⟨gv, 23, none⟩ = some (.int .i64 7493) ∧ w8.cell? ⟨gv, 26, none⟩ = some (.bool true) ∧ w8.cell? ⟨a, 0, none⟩ = some (.bool false) ∧ w8.cell? ⟨a, 1, none⟩ = some (.int .i64 0) ∧ w8.cell? ⟨a, 2, none⟩ = some (.int .i64 (-30000)) ∧ w8.cell? ⟨a, 10, none⟩ = some (.int .i64 20459) ∧ w8.cell? ⟨b, 0, none⟩ = some (.bool false) ∧ w8.cell? ⟨b, 3, none⟩ = some (.int .i64 30000) ∧ w8.cell? ⟨b, 4, none⟩ = some (.int .i64 0) ∧ w8.cell? ⟨b, 10, none⟩ = some (.int .i64 20459) := by
      refine ⟨?_, ?_, ?_, ?_, ?_, ?_, ?_, ?_, ?_, ?_, ?_, ?_, ?_⟩ <;> (refine cell_below hb8 ?_; repeat (first | (with_reducible assumption) | ((with_reducible refine cell_set ?_ ?_ _); (· first | (simp; done) | (simp; omega) | omega)) | ((with_reducible refine cell_new ?_ ?_); (· (simp; done)); (· rfl)) | (with_reducible refine cell_alloc ?_ _) | (with_reducible refine cell_drew ?_) | (with_reducible refine cell_drewN ?_ _) | (with_reducible refine cell_below (by assumption) ?_)))
    have zf121 : w5.heap.size < w8.heap.size := World.block_lt_of_cell? _ _ f121
    have zf123 : gv < w8.heap.size := World.block_lt_of_cell? _ _ f123
    have zf126 : a < w8.heap.size := World.block_lt_of_cell? _ _ f126
    have zf130 : b < w8.heap.size := World.block_lt_of_cell? _ _ f130
    clear f108 zf108 f109 f110 zf110 f111 f112 f113 zf113 f114 f115 f116 f117 zf117 f118 f119 f120
    go_wp2_with fail
    all_goals
      go_ret
      exact ⟨rfl, by (repeat (with_reducible (first | assumption | exact Below.refl _ _ | refine Below.drew ?_ | refine below_drewN ?_ _ | refine below_set ?_ (by simp; try omega) _ | refine below_alloc ?_ (Nat.le_refl _) _ | refine below_sub (by assumption) ?_)))⟩
end Go.Proofs.YtapgmnjpfcohhaaGreatDoor
