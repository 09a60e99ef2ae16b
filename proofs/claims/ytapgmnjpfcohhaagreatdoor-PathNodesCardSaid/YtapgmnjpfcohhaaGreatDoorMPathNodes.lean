/-
  The walk of the law PathNodes.
-/
import Derived.Test.YtapgmnjpfcohhaaGreatDoorMAwake27
import Derived.Test.YtapgmnjpfcohhaaGreatDoorMDraw
import Derived.Test.YtapgmnjpfcohhaaGreatDoorMFixed
import Derived.Test.YtapgmnjpfcohhaaGreatDoorMFrame
import Derived.Test.YtapgmnjpfcohhaaGreatDoorMGeo
import Derived.Test.YtapgmnjpfcohhaaGreatDoorMLaid
import Derived.Test.YtapgmnjpfcohhaaGreatDoorMNode
import Derived.Test.YtapgmnjpfcohhaaGreatDoorMNodeR
import Derived.Test.YtapgmnjpfcohhaaGreatDoorMPathIn3
import Derived.Test.YtapgmnjpfcohhaaGreatDoorMPathM
import Derived.Test.YtapgmnjpfcohhaaGreatDoorMLawsT
import Derived.Test.YtapgmnjpfcohhaaGreatDoorMSeqP
import Derived.Test.YtapgmnjpfcohhaaGreatDoorRows
import Derived.Test.YtapgmnjpfcohhaaGreatDoorCards
import Derived.Test.YtapgmnjpfcohhaaGreatDoorTie
import Derived.SevenTiedAt
import Derived.LaidMore
import Derived.LaidLaws
import Derived.LaidHandle
import Derived.JoinedOf
import Derived.Deep.Slices
import Derived.WalkKit
import Derived.ProofKit
import Derived.OpenShut
import Derived.Below
import Derived.ChangeSame
import Derived.Deep.RegionHeld3
import Derived.Test.YtapgmnjpfcohhaaGreatDoorProg
import Derived.WalkSpells
import Derived.WalkLawsBesides
import Derived.Deep.QuietTactic
import Derived.BigQuiet
import Derived.Lib.ItoaNum
import Derived.Shelf.Small.Bits
import Derived.Shelf.Strconv.Itoa0
import Derived.Shelf.Bits.Mul64
import Derived.Shelf.Spec.BitsCarry
import Derived.Deep.DeepCutAuto
import Derived.Laws.BitsAllLaws
import Derived.MakeChecks
import Derived.BigRegion
import Derived.Laws.Tables
import Derived.Deep.WholeRow
import Derived.StillTailTactics
import Derived.Laws.OwnMore
import Derived.Deep.RegionWith
import Derived.Deep.AppendLies
import Derived.Deep.RegionLaw
import Derived.Lib.Bytealg
import Derived.Lib.Strings
import Derived.Deep.Draws
import Derived.Laws.Strings3
namespace Go.Proofs.YtapgmnjpfcohhaaGreatDoor
open Go.RowKit
set_option linter.unusedVariables false
set_option linter.unusedSimpArgs false
set_option maxRecDepth 100000 in
set_option maxHeartbeats 8000000 in
theorem pathNodes_walk0 (w : World) (S : Option Addr) (l : List El) (cap : Nat) (len : Int) (t : Int) (hu : Hid (usesAt w)) (h2 : l.length ≤ 9223372036854775807) (hp : Hid (pathAt w S l)) (hn : ∀ x ∈ l, x.n ≤ 9223372036854775807) (ht : I64 t) :
    Calls Tryz.prog 4 #[.agg #[.slice S l.length cap, .int .i64 len], .int .i64 t] w fun e w' => e = .returned (.bool true) ∧ Below w.heap.size w w' := by
  by_cases hc : chkF l len = 0
  rotate_left
  · have T : (chkF l len != 0) = true := bne_iff_ne.2 hc
    have H0 : Hid ((0, chkF l len) = nodeF l len t) := hide (by unfold nodeF; rw [if_pos hc])
    clear hc
    generalize chkF l len = E at *
    go_enter Tryz.func4, Tryz.ntmps4
    go_wp2_with fail
    refine (awake27_any _ (hide (usesAt_below (show Below w.heap.size w _ by (repeat (with_reducible (first | assumption | exact Below.refl _ _ | refine Below.drew ?_ | refine below_drewN ?_ _ | refine below_set ?_ (by simp; try omega) _ | refine below_alloc ?_ (Nat.le_refl _) _ | refine below_sub (by assumption) ?_)))) hu.out))).mono ?_
    rintro e w1 ⟨rfl, hb1⟩
    obtain ⟨f1, f2⟩ : w1.cell? ⟨w.heap.size, 0, none⟩ = some (.slice S l.length cap) ∧ w1.cell? ⟨w.heap.size, 1, none⟩ = some (.int .i64 len) := by
      refine ⟨?_, ?_⟩ <;> (refine cell_below hb1 ?_; repeat (first | (with_reducible assumption) | ((with_reducible refine cell_set ?_ ?_ _); (· first | (simp; done) | (simp; omega) | omega)) | ((with_reducible refine cell_new ?_ ?_); (· (simp; done)); (· rfl)) | (with_reducible refine cell_alloc ?_ _) | (with_reducible refine cell_drew ?_) | (with_reducible refine cell_drewN ?_ _) | (with_reducible refine cell_below (by assumption) ?_)))
    have zf1 : w.heap.size < w1.heap.size := World.block_lt_of_cell? _ _ f1
    go_wp2_with fail
    refine (node_any S l cap len t _ h2 (hide (pathAt_below (show Below w.heap.size w _ by (repeat (with_reducible (first | assumption | exact Below.refl _ _ | refine Below.drew ?_ | refine below_drewN ?_ _ | refine below_set ?_ (by simp; try omega) _ | refine below_alloc ?_ (Nat.le_refl _) _ | refine below_sub (by assumption) ?_)))) hp.out)) (0, E) H0.out).mono ?_
    rintro e w2 ⟨rfl, hb2⟩
    obtain ⟨f3, f4⟩ : w2.cell? ⟨w.heap.size, 0, none⟩ = some (.slice S l.length cap) ∧ w2.cell? ⟨w.heap.size, 1, none⟩ = some (.int .i64 len) := by
      refine ⟨?_, ?_⟩ <;> (refine cell_below hb2 ?_; repeat (first | (with_reducible assumption) | ((with_reducible refine cell_set ?_ ?_ _); (· first | (simp; done) | (simp; omega) | omega)) | ((with_reducible refine cell_new ?_ ?_); (· (simp; done)); (· rfl)) | (with_reducible refine cell_alloc ?_ _) | (with_reducible refine cell_drew ?_) | (with_reducible refine cell_drewN ?_ _) | (with_reducible refine cell_below (by assumption) ?_)))
    have zf3 : w.heap.size < w2.heap.size := World.block_lt_of_cell? _ _ f3
    clear f1 zf1 f2
    go_wp2_with fail
    refine (rnode_any S l cap len t _ h2 (hide (pathAt_below (show Below w.heap.size w _ by (repeat (with_reducible (first | assumption | exact Below.refl _ _ | refine Below.drew ?_ | refine below_drewN ?_ _ | refine below_set ?_ (by simp; try omega) _ | refine below_alloc ?_ (Nat.le_refl _) _ | refine below_sub (by assumption) ?_)))) hp.out)) (0, E) H0.out).mono ?_
    rintro e w3 ⟨rfl, hb3⟩
    obtain ⟨f5, f6⟩ : w3.cell? ⟨w.heap.size, 0, none⟩ = some (.slice S l.length cap) ∧ w3.cell? ⟨w.heap.size, 1, none⟩ = some (.int .i64 len) := by
      refine ⟨?_, ?_⟩ <;> (refine cell_below hb3 ?_; repeat (first | (with_reducible assumption) | ((with_reducible refine cell_set ?_ ?_ _); (· first | (simp; done) | (simp; omega) | omega)) | ((with_reducible refine cell_new ?_ ?_); (· (simp; done)); (· rfl)) | (with_reducible refine cell_alloc ?_ _) | (with_reducible refine cell_drew ?_) | (with_reducible refine cell_drewN ?_ _) | (with_reducible refine cell_below (by assumption) ?_)))
    have zf5 : w.heap.size < w3.heap.size := World.block_lt_of_cell? _ _ f5
    clear f3 zf3 f4
    go_wp2_with fail
    all_goals
      go_ret
      exact ⟨rfl, by (repeat (with_reducible (first | assumption | exact Below.refl _ _ | refine Below.drew ?_ | refine below_drewN ?_ _ | refine below_set ?_ (by simp; try omega) _ | refine below_alloc ?_ (Nat.le_refl _) _ | refine below_sub (by assumption) ?_)))⟩
  obtain ⟨n1, n2, n3, n4, n5⟩ := node_law hc hn t
  have HN : ∀ e, nodeF l len e = (nodeS l e, 0) := fun e => by unfold nodeF; rw [if_neg (by simp [hc])]
  have H1 : Hid ((nodeS l t, (0 : Int)) = nodeF l len t) := hide (HN t).symm
  have H2 : Hid (((0 : Int), (0 : Int)) = nodeF l len (-1)) := hide (by rw [HN, n1])
  have H3 : Hid ((len, (0 : Int)) = nodeF l len 9223372036854775807) := hide (by rw [HN, n2])
  have H4 : Hid ((nodeS l (t - 1), (0 : Int)) = nodeF l len (t - 1)) := hide (HN (t - 1)).symm
  clear n1 n2 HN hc
  generalize nodeS l t = a at *
  generalize nodeS l (t - 1) = a1 at *
  by_cases hm : t = -9223372036854775808
  · skip
    subst hm
    go_enter Tryz.func4, Tryz.ntmps4
    go_wp2_with fail
    refine (awake27_any _ (hide (usesAt_below (show Below w.heap.size w _ by (repeat (with_reducible (first | assumption | exact Below.refl _ _ | refine Below.drew ?_ | refine below_drewN ?_ _ | refine below_set ?_ (by simp; try omega) _ | refine below_alloc ?_ (Nat.le_refl _) _ | refine below_sub (by assumption) ?_)))) hu.out))).mono ?_
    rintro e w1 ⟨rfl, hb1⟩
    obtain ⟨f1, f2⟩ : w1.cell? ⟨w.heap.size, 0, none⟩ = some (.slice S l.length cap) ∧ w1.cell? ⟨w.heap.size, 1, none⟩ = some (.int .i64 len) := by
      refine ⟨?_, ?_⟩ <;> (refine cell_below hb1 ?_; repeat (first | (with_reducible assumption) | ((with_reducible refine cell_set ?_ ?_ _); (· first | (simp; done) | (simp; omega) | omega)) | ((with_reducible refine cell_new ?_ ?_); (· (simp; done)); (· rfl)) | (with_reducible refine cell_alloc ?_ _) | (with_reducible refine cell_drew ?_) | (with_reducible refine cell_drewN ?_ _) | (with_reducible refine cell_below (by assumption) ?_)))
    have zf1 : w.heap.size < w1.heap.size := World.block_lt_of_cell? _ _ f1
    go_wp2_with fail
    refine (node_any S l cap len (-9223372036854775808) _ h2 (hide (pathAt_below (show Below w.heap.size w _ by (repeat (with_reducible (first | assumption | exact Below.refl _ _ | refine Below.drew ?_ | refine below_drewN ?_ _ | refine below_set ?_ (by simp; try omega) _ | refine below_alloc ?_ (Nat.le_refl _) _ | refine below_sub (by assumption) ?_)))) hp.out)) (a, 0) H1.out).mono ?_
    rintro e w2 ⟨rfl, hb2⟩
    obtain ⟨f3, f4⟩ : w2.cell? ⟨w.heap.size, 0, none⟩ = some (.slice S l.length cap) ∧ w2.cell? ⟨w.heap.size, 1, none⟩ = some (.int .i64 len) := by
      refine ⟨?_, ?_⟩ <;> (refine cell_below hb2 ?_; repeat (first | (with_reducible assumption) | ((with_reducible refine cell_set ?_ ?_ _); (· first | (simp; done) | (simp; omega) | omega)) | ((with_reducible refine cell_new ?_ ?_); (· (simp; done)); (· rfl)) | (with_reducible refine cell_alloc ?_ _) | (with_reducible refine cell_drew ?_) | (with_reducible refine cell_drewN ?_ _) | (with_reducible refine cell_below (by assumption) ?_)))
    have zf3 : w.heap.size < w2.heap.size := World.block_lt_of_cell? _ _ f3
    clear f1 zf1 f2
    go_wp2_with fail
    refine (rnode_any S l cap len (-9223372036854775808) _ h2 (hide (pathAt_below (show Below w.heap.size w _ by (repeat (with_reducible (first | assumption | exact Below.refl _ _ | refine Below.drew ?_ | refine below_drewN ?_ _ | refine below_set ?_ (by simp; try omega) _ | refine below_alloc ?_ (Nat.le_refl _) _ | refine below_sub (by assumption) ?_)))) hp.out)) (a, 0) H1.out).mono ?_
    rintro e w3 ⟨rfl, hb3⟩
    obtain ⟨f5, f6⟩ : w3.cell? ⟨w.heap.size, 0, none⟩ = some (.slice S l.length cap) ∧ w3.cell? ⟨w.heap.size, 1, none⟩ = some (.int .i64 len) := by
      refine ⟨?_, ?_⟩ <;> (refine cell_below hb3 ?_; repeat (first | (with_reducible assumption) | ((with_reducible refine cell_set ?_ ?_ _); (· first | (simp; done) | (simp; omega) | omega)) | ((with_reducible refine cell_new ?_ ?_); (· (simp; done)); (· rfl)) | (with_reducible refine cell_alloc ?_ _) | (with_reducible refine cell_drew ?_) | (with_reducible refine cell_drewN ?_ _) | (with_reducible refine cell_below (by assumption) ?_)))
    have zf5 : w.heap.size < w3.heap.size := World.block_lt_of_cell? _ _ f5
    clear f3 zf3 f4
    go_wp2_with fail
    refine (node_any S l cap len (-1) _ h2 (hide (pathAt_below (show Below w.heap.size w _ by (repeat (with_reducible (first | assumption | exact Below.refl _ _ | refine Below.drew ?_ | refine below_drewN ?_ _ | refine below_set ?_ (by simp; try omega) _ | refine below_alloc ?_ (Nat.le_refl _) _ | refine below_sub (by assumption) ?_)))) hp.out)) (0, 0) H2.out).mono ?_
    rintro e w4 ⟨rfl, hb4⟩
    obtain ⟨f7, f8⟩ : w4.cell? ⟨w.heap.size, 0, none⟩ = some (.slice S l.length cap) ∧ w4.cell? ⟨w.heap.size, 1, none⟩ = some (.int .i64 len) := by
      refine ⟨?_, ?_⟩ <;> (refine cell_below hb4 ?_; repeat (first | (with_reducible assumption) | ((with_reducible refine cell_set ?_ ?_ _); (· first | (simp; done) | (simp; omega) | omega)) | ((with_reducible refine cell_new ?_ ?_); (· (simp; done)); (· rfl)) | (with_reducible refine cell_alloc ?_ _) | (with_reducible refine cell_drew ?_) | (with_reducible refine cell_drewN ?_ _) | (with_reducible refine cell_below (by assumption) ?_)))
    have zf7 : w.heap.size < w4.heap.size := World.block_lt_of_cell? _ _ f7
    clear f5 zf5 f6
    go_wp2_with fail
    refine (node_any S l cap len 9223372036854775807 _ h2 (hide (pathAt_below (show Below w.heap.size w _ by (repeat (with_reducible (first | assumption | exact Below.refl _ _ | refine Below.drew ?_ | refine below_drewN ?_ _ | refine below_set ?_ (by simp; try omega) _ | refine below_alloc ?_ (Nat.le_refl _) _ | refine below_sub (by assumption) ?_)))) hp.out)) (len, 0) H3.out).mono ?_
    rintro e w5 ⟨rfl, hb5⟩
    obtain ⟨f9, f10⟩ : w5.cell? ⟨w.heap.size, 0, none⟩ = some (.slice S l.length cap) ∧ w5.cell? ⟨w.heap.size, 1, none⟩ = some (.int .i64 len) := by
      refine ⟨?_, ?_⟩ <;> (refine cell_below hb5 ?_; repeat (first | (with_reducible assumption) | ((with_reducible refine cell_set ?_ ?_ _); (· first | (simp; done) | (simp; omega) | omega)) | ((with_reducible refine cell_new ?_ ?_); (· (simp; done)); (· rfl)) | (with_reducible refine cell_alloc ?_ _) | (with_reducible refine cell_drew ?_) | (with_reducible refine cell_drewN ?_ _) | (with_reducible refine cell_below (by assumption) ?_)))
    have zf9 : w.heap.size < w5.heap.size := World.block_lt_of_cell? _ _ f9
    clear f7 zf7 f8
    go_wp2_with fail
    all_goals
      go_ret
      exact ⟨rfl, by (repeat (with_reducible (first | assumption | exact Below.refl _ _ | refine Below.drew ?_ | refine below_drewN ?_ _ | refine below_set ?_ (by simp; try omega) _ | refine below_alloc ?_ (Nat.le_refl _) _ | refine below_sub (by assumption) ?_)))⟩
  · skip
    have hm2 : -9223372036854775808 ≤ t - 1 := by unfold I64 at ht; omega
    have hm3 : t - 1 ≤ 9223372036854775807 := by unfold I64 at ht; omega
    have hm4 : (t == -9223372036854775808) = false := beq_eq_false_iff_ne.2 hm
    go_enter Tryz.func4, Tryz.ntmps4
    go_wp2_with fail
    refine (awake27_any _ (hide (usesAt_below (show Below w.heap.size w _ by (repeat (with_reducible (first | assumption | exact Below.refl _ _ | refine Below.drew ?_ | refine below_drewN ?_ _ | refine below_set ?_ (by simp; try omega) _ | refine below_alloc ?_ (Nat.le_refl _) _ | refine below_sub (by assumption) ?_)))) hu.out))).mono ?_
    rintro e w1 ⟨rfl, hb1⟩
    obtain ⟨f1, f2⟩ : w1.cell? ⟨w.heap.size, 0, none⟩ = some (.slice S l.length cap) ∧ w1.cell? ⟨w.heap.size, 1, none⟩ = some (.int .i64 len) := by
      refine ⟨?_, ?_⟩ <;> (refine cell_below hb1 ?_; repeat (first | (with_reducible assumption) | ((with_reducible refine cell_set ?_ ?_ _); (· first | (simp; done) | (simp; omega) | omega)) | ((with_reducible refine cell_new ?_ ?_); (· (simp; done)); (· rfl)) | (with_reducible refine cell_alloc ?_ _) | (with_reducible refine cell_drew ?_) | (with_reducible refine cell_drewN ?_ _) | (with_reducible refine cell_below (by assumption) ?_)))
    have zf1 : w.heap.size < w1.heap.size := World.block_lt_of_cell? _ _ f1
    go_wp2_with fail
    refine (node_any S l cap len t _ h2 (hide (pathAt_below (show Below w.heap.size w _ by (repeat (with_reducible (first | assumption | exact Below.refl _ _ | refine Below.drew ?_ | refine below_drewN ?_ _ | refine below_set ?_ (by simp; try omega) _ | refine below_alloc ?_ (Nat.le_refl _) _ | refine below_sub (by assumption) ?_)))) hp.out)) (a, 0) H1.out).mono ?_
    rintro e w2 ⟨rfl, hb2⟩
    obtain ⟨f3, f4⟩ : w2.cell? ⟨w.heap.size, 0, none⟩ = some (.slice S l.length cap) ∧ w2.cell? ⟨w.heap.size, 1, none⟩ = some (.int .i64 len) := by
      refine ⟨?_, ?_⟩ <;> (refine cell_below hb2 ?_; repeat (first | (with_reducible assumption) | ((with_reducible refine cell_set ?_ ?_ _); (· first | (simp; done) | (simp; omega) | omega)) | ((with_reducible refine cell_new ?_ ?_); (· (simp; done)); (· rfl)) | (with_reducible refine cell_alloc ?_ _) | (with_reducible refine cell_drew ?_) | (with_reducible refine cell_drewN ?_ _) | (with_reducible refine cell_below (by assumption) ?_)))
    have zf3 : w.heap.size < w2.heap.size := World.block_lt_of_cell? _ _ f3
    clear f1 zf1 f2
    go_wp2_with fail
    refine (rnode_any S l cap len t _ h2 (hide (pathAt_below (show Below w.heap.size w _ by (repeat (with_reducible (first | assumption | exact Below.refl _ _ | refine Below.drew ?_ | refine below_drewN ?_ _ | refine below_set ?_ (by simp; try omega) _ | refine below_alloc ?_ (Nat.le_refl _) _ | refine below_sub (by assumption) ?_)))) hp.out)) (a, 0) H1.out).mono ?_
    rintro e w3 ⟨rfl, hb3⟩
    obtain ⟨f5, f6⟩ : w3.cell? ⟨w.heap.size, 0, none⟩ = some (.slice S l.length cap) ∧ w3.cell? ⟨w.heap.size, 1, none⟩ = some (.int .i64 len) := by
      refine ⟨?_, ?_⟩ <;> (refine cell_below hb3 ?_; repeat (first | (with_reducible assumption) | ((with_reducible refine cell_set ?_ ?_ _); (· first | (simp; done) | (simp; omega) | omega)) | ((with_reducible refine cell_new ?_ ?_); (· (simp; done)); (· rfl)) | (with_reducible refine cell_alloc ?_ _) | (with_reducible refine cell_drew ?_) | (with_reducible refine cell_drewN ?_ _) | (with_reducible refine cell_below (by assumption) ?_)))
    have zf5 : w.heap.size < w3.heap.size := World.block_lt_of_cell? _ _ f5
    clear f3 zf3 f4
    go_wp2_with fail
    refine (node_any S l cap len (-1) _ h2 (hide (pathAt_below (show Below w.heap.size w _ by (repeat (with_reducible (first | assumption | exact Below.refl _ _ | refine Below.drew ?_ | refine below_drewN ?_ _ | refine below_set ?_ (by simp; try omega) _ | refine below_alloc ?_ (Nat.le_refl _) _ | refine below_sub (by assumption) ?_)))) hp.out)) (0, 0) H2.out).mono ?_
    rintro e w4 ⟨rfl, hb4⟩
    obtain ⟨f7, f8⟩ : w4.cell? ⟨w.heap.size, 0, none⟩ = some (.slice S l.length cap) ∧ w4.cell? ⟨w.heap.size, 1, none⟩ = some (.int .i64 len) := by
      refine ⟨?_, ?_⟩ <;> (refine cell_below hb4 ?_; repeat (first | (with_reducible assumption) | ((with_reducible refine cell_set ?_ ?_ _); (· first | (simp; done) | (simp; omega) | omega)) | ((with_reducible refine cell_new ?_ ?_); (· (simp; done)); (· rfl)) | (with_reducible refine cell_alloc ?_ _) | (with_reducible refine cell_drew ?_) | (with_reducible refine cell_drewN ?_ _) | (with_reducible refine cell_below (by assumption) ?_)))
    have zf7 : w.heap.size < w4.heap.size := World.block_lt_of_cell? _ _ f7
    clear f5 zf5 f6
    go_wp2_with fail
    refine (node_any S l cap len 9223372036854775807 _ h2 (hide (pathAt_below (show Below w.heap.size w _ by (repeat (with_reducible (first | assumption | exact Below.refl _ _ | refine Below.drew ?_ | refine below_drewN ?_ _ | refine below_set ?_ (by simp; try omega) _ | refine below_alloc ?_ (Nat.le_refl _) _ | refine below_sub (by assumption) ?_)))) hp.out)) (len, 0) H3.out).mono ?_
    rintro e w5 ⟨rfl, hb5⟩
    obtain ⟨f9, f10⟩ : w5.cell? ⟨w.heap.size, 0, none⟩ = some (.slice S l.length cap) ∧ w5.cell? ⟨w.heap.size, 1, none⟩ = some (.int .i64 len) := by
      refine ⟨?_, ?_⟩ <;> (refine cell_below hb5 ?_; repeat (first | (with_reducible assumption) | ((with_reducible refine cell_set ?_ ?_ _); (· first | (simp; done) | (simp; omega) | omega)) | ((with_reducible refine cell_new ?_ ?_); (· (simp; done)); (· rfl)) | (with_reducible refine cell_alloc ?_ _) | (with_reducible refine cell_drew ?_) | (with_reducible refine cell_drewN ?_ _) | (with_reducible refine cell_below (by assumption) ?_)))
    have zf9 : w.heap.size < w5.heap.size := World.block_lt_of_cell? _ _ f9
    clear f7 zf7 f8
    go_wp2_with fail
    refine (node_any S l cap len (t - 1) _ h2 (hide (pathAt_below (show Below w.heap.size w _ by (repeat (with_reducible (first | assumption | exact Below.refl _ _ | refine Below.drew ?_ | refine below_drewN ?_ _ | refine below_set ?_ (by simp; try omega) _ | refine below_alloc ?_ (Nat.le_refl _) _ | refine below_sub (by assumption) ?_)))) hp.out)) (a1, 0) H4.out).mono ?_
    rintro e w6 ⟨rfl, hb6⟩
    obtain ⟨f11, f12⟩ : w6.cell? ⟨w.heap.size, 0, none⟩ = some (.slice S l.length cap) ∧ w6.cell? ⟨w.heap.size, 1, none⟩ = some (.int .i64 len) := by
      refine ⟨?_, ?_⟩ <;> (refine cell_below hb6 ?_; repeat (first | (with_reducible assumption) | ((with_reducible refine cell_set ?_ ?_ _); (· first | (simp; done) | (simp; omega) | omega)) | ((with_reducible refine cell_new ?_ ?_); (· (simp; done)); (· rfl)) | (with_reducible refine cell_alloc ?_ _) | (with_reducible refine cell_drew ?_) | (with_reducible refine cell_drewN ?_ _) | (with_reducible refine cell_below (by assumption) ?_)))
    have zf11 : w.heap.size < w6.heap.size := World.block_lt_of_cell? _ _ f11
    clear f9 zf9 f10
    go_wp2_with fail
    all_goals
      go_ret
      exact ⟨rfl, by (repeat (with_reducible (first | assumption | exact Below.refl _ _ | refine Below.drew ?_ | refine below_drewN ?_ _ | refine below_set ?_ (by simp; try omega) _ | refine below_alloc ?_ (Nat.le_refl _) _ | refine below_sub (by assumption) ?_)))⟩
theorem pathNodes_walk {W : World} (S : Option Addr) (l : List El) (cap : Nat) (len : Int) (t : Int) (h2 : l.length ≤ 9223372036854775807)  (hn : ∀ x ∈ l, I64 x.n) (hp : Hid (pathAt W S l)) (ht : I64 t) (hL : laidMetH Tryz.prog laidL W) (w : World) (hw : w = W := by rfl) :
    Calls Tryz.prog 4 #[.agg #[.slice S l.length cap, .int .i64 len], .int .i64 t] w fun e w' => e = .returned (.bool true) ∧ Below w.heap.size w w' := by
  subst hw
  exact pathNodes_walk0 w S l cap len t (hide (uses_of hL)) h2 hp (fun x hx => (hn x hx).2) ht
end Go.Proofs.YtapgmnjpfcohhaaGreatDoor

/-
  PathNodes: the row's step: the given statement 'PathNodesSaid' out of the walk.
-/
namespace Go.Proofs.YtapgmnjpfcohhaaGreatDoor.pathNodes
open Go.ChangeShapes Go.WideShapes Go.ChangeAt Go.RowKit
set_option linter.unusedVariables false

theorem own : ownKnob Tryz.prog.godebug = none := by kernel_rfl
theorem laidOut : laidOutB Tryz.prog = true := pf_laid
theorem typed : (Tryz.f4.params.toList.all fun t => Tryz.prog.readableRec t && decide (t < Tryz.prog.types.size)) = true := by kernel_rfl
theorem typed' : ∀ t ∈ Tryz.f4.params.toList, Tryz.prog.readableRec t = true ∧ t < Tryz.prog.types.size := by
  intro t ht
  have h := List.all_eq_true.1 typed t ht
  simpa using h
theorem ct24 : Tryz.prog.cellTypes Tryz.prog.depth 24 = some [22, 2] := by kernel_rfl
theorem cn24 : Tryz.prog.cellsOf 24 = ([22, 2] : List TypeId).length := by kernel_rfl
set_option maxRecDepth 100000 in
theorem lifted (os : Os) (started : os.Started) (H : Type) (enc : TypeId × Value → H) :
    ReturnsInHanded {} Tryz.checked os 4 .any (fun w args => (Rows.pathNodesSpec.pre enc Tryz.prog Tryz.f4 Rows.pathNodesRow.domain false w args ∧ laidMetH Tryz.prog laidL w) ∧ sizedMet enc Tryz.prog Tryz.f4 (OpenSpec.ofChange Rows.pathNodesSpec) false w args) (Rows.pathNodesSpec.post enc Tryz.prog Tryz.f4 false true false false) := by
  refine returnsInHanded_of_change_and (C := Tryz.checked) (X := fun w _ => laidMetH Tryz.prog laidL w) (fun _ _ _ hh h => h.of_heap hh) own started (by kernel_rfl) Tryz.func4
    (ChangeSpec.witness_shaped (enc := enc) (C := Tryz.checked) (os := os) (X := fun w _ => laidMetH Tryz.prog laidL w) false (World.doorLaid Tryz.prog 400 os) #[.agg #[.slice none 0 0, .int .i64 0], .int .i64 0] 8 rfl (World.shaped_of_RefB (by kernel_rfl) (by kernel_rfl)) (by kernel_rfl) (by kernel_rfl) (by kernel_rfl) (door_met os _)) ?_
  intro W base args ds gs before hval0 hW hcnd _ hL _
  have hval : ∀ (j : Nat) t v, Tryz.f4.params[j]? = some t → args[j]? = some v → Value.okWide Tryz.prog W .any base t v := hval0
  have hW' := hW
  obtain ⟨p, q, hA0, hV, rfl, hfz, hnd⟩ := hW
  have hlen := trodAll_length _ _ _ _ hA0
  rw [Tryz.params4] at hval hlen
  obtain ⟨v0, v1, rfl⟩ := arr2 hlen.1
  obtain ⟨d0, d1, rfl⟩ := list2 hlen.2
  obtain ⟨lp, rfl, ep, hlp⟩ := ok_agg (Or.inl ⟨_, Tryz.underlying24⟩) ct24 cn24 (hval 0 24 v0 rfl rfl)
  obtain ⟨pc0, pc1, rfl⟩ := list2 (ep.trans (by rfl))
  have hA' := hA0
  rw [Tryz.params4] at hA'
  obtain ⟨_, _, hTp, _⟩ := hA'
  obtain ⟨pS, pl, pcap, plen, hpv, hpl, _, hpn, hpp⟩ := path_in3 hTp ⟨pc0, pc1, rfl⟩
  obtain ⟨rfl, rfl⟩ : pc0 = .slice pS pl.length pcap ∧ pc1 = .int .i64 plen := by simpa using hpv
  obtain ⟨t, rfl, ht⟩ := ok_i64 Tryz.underlying3 (hval 1 3 v1 rfl rfl)
  refine (pathNodes_walk pS pl pcap plen t hpl hpn (hide hpp) ht hL W).mono fun e W' ⟨he, hb⟩ => ?_
  subst he
  exact ⟨_, rfl, law_post (f := Tryz.f4) (s := Rows.pathNodesSpec) (tb := 4) laidOut typed' rfl (by kernel_rfl) Tryz.underlying4 hW' ⟨rfl, rfl, rfl⟩ hb⟩

theorem k0 : (Rows.pathNodesRow.wf (OpenSpec.ofChange Rows.pathNodesSpec)) = true := by kernel_rfl
theorem k3 : (Tryz.f4.params.all (Tryz.prog.readableRec ·)) = true := by kernel_rfl
theorem k4 : (namedTie Tryz.prog Rows.pathNodesRow.named Rows.pathNodesSpec.vars) = true := by kernel_rfl
theorem k5 : (Rows.pathNodesRow.stops == []) = true := by kernel_rfl
theorem k7 : (Rows.pathNodesRow.knobs == []) = true := by kernel_rfl
theorem k9 : (Rows.pathNodesRow.inPlace == Tryz.prog.inPlace 4) = true := by kernel_rfl
theorem k10 : (Rows.pathNodesRow.unfollowed == Tryz.prog.unfollowed 4) = true := by kernel_rfl
theorem k11 : (Rows.pathNodesRow.recurses == Tryz.prog.recurses 4) = true := by kernel_rfl
theorem k12 : (Rows.pathNodesRow.named == Tryz.prog.varsNamed 4) = true := by kernel_rfl
theorem k13 : (Rows.pathNodesRow.maps == (Tryz.f4.params.toList ++ Rows.pathNodesSpec.plain.varTypes Tryz.prog).any (Tryz.prog.mapsRec ·)) = true := by kernel_rfl
theorem k14 : (Rows.pathNodesRow.ifaces == (Tryz.f4.params.toList ++ Rows.pathNodesSpec.plain.varTypes Tryz.prog).any (Tryz.prog.ifacesRec ·)) = true := by kernel_rfl
theorem k15 : (Rows.pathNodesRow.mapsOut == Tryz.prog.mapsAmong Tryz.f4.resultTypes.toList) = true := by kernel_rfl
theorem k16 : (Rows.pathNodesRow.loops == (Tryz.f4.params.toList ++ Rows.pathNodesSpec.plain.varTypes Tryz.prog).any (Tryz.prog.loopsFrom ·)) = true := by kernel_rfl
theorem k17 : (Rows.pathNodesRow.wideKeys == (Tryz.f4.params.toList ++ Rows.pathNodesSpec.plain.varTypes Tryz.prog ++ Tryz.f4.resultTypes.toList).any (Tryz.prog.wideKeysFrom ·)) = true := by kernel_rfl
theorem k18 : (Rows.pathNodesSpec.vars.all (Tryz.prog.varReadable ·)) = true := by kernel_rfl
theorem k19 : (Tryz.f4.resultTypes.all (fun t => Tryz.prog.readableRec t && decide (t < Tryz.prog.types.size))) = true := by kernel_rfl
theorem k20 : (Rows.pathNodesRow.ifacesOut == Tryz.f4.resultTypes.toList.any (Tryz.prog.ifacesRec ·)) = true := by kernel_rfl
theorem k21 : (Rows.pathNodesRow.loopsOut == Tryz.f4.resultTypes.toList.any (Tryz.prog.loopsFrom ·)) = true := by kernel_rfl
theorem k22 : (Rows.pathNodesRow.plainKeys == Tryz.prog.plainKeys) = true := by kernel_rfl
theorem k23 : (Rows.pathNodesRow.shortTexts.isNone) = true := by kernel_rfl
theorem k26 : (Rows.pathNodesRow.lifted == Tryz.prog.liftsFinal) = true := by rw [pf_lifts]; rfl
theorem k27 : (Tryz.prog.make == some Rows.pathNodesRow.make) = true := by rw [pf_make]; rfl
theorem k28 : (Rows.pathNodesRow.kinds == (if Rows.pathNodesRow.domain.isEmpty then [] else Tryz.f4.params.toList.map fun t => match Tryz.prog.underlying t with | some (.int k) => some k | _ => none)) = true := by kernel_rfl
theorem k29 : (Rows.pathNodesRow.pinned == Rows.pathNodesRow.pinnedBy) = true := by kernel_rfl
theorem k30 : (Rows.pathNodesRow.veiled == (Tryz.f4.params.toList ++ Rows.pathNodesSpec.plain.varTypes Tryz.prog ++ Tryz.f4.resultTypes.toList).any (Tryz.prog.veiledRec ·)) = true := by kernel_rfl
theorem k31 : (Rows.pathNodesRow.veiledFits Tryz.prog Tryz.f4.params.toList (Tryz.f4.params.toList ++ Rows.pathNodesSpec.plain.varTypes Tryz.prog ++ Tryz.f4.resultTypes.toList)) = true := by kernel_rfl
set_option maxRecDepth 100000 in
theorem closed : joinedFacts Tryz.prog 4 Tryz.f4 Rows.pathNodesSpec Rows.pathNodesRow = true := (band (band (band (band (band (band (band (band (band (band (band (band (band (band (band (band (band (band (band (band (band (band (band (band (band (band (band (band (band (band (band k0 pf_laid) pf_maps) k3) k4) k5) pf_stops) k7) pf_knobs) k9) k10) k11) k12) k13) k14) k15) k16) k17) k18) k19) k20) k21) k22) k23) pf_heard) pf_enter) k26) k27) k28) k29) k30) k31)
theorem byName : Tryz.prog.funcNamed Rows.pathNodesRow.func = some 4 := by kernel_rfl
theorem inst : Tryz.f4.isInstance Tryz.prog Rows.pathNodesRow.origin Rows.pathNodesRow.targs := of_decide_eq_true (by kernel_rfl)
theorem over : Rows.pathNodesRow.holds Tryz.pinned (OpenSpec.ofChange Rows.pathNodesSpec) :=
  OpenClaim.holds_of_wide 4 Tryz.f4 rfl rfl rfl rfl rfl rfl rfl ⟨rfl, rfl, rfl, rfl, rfl⟩ rfl rfl rfl rfl rfl byName Tryz.func4 closed
    inst (by unfold Func.isWrapper; rw [if_neg (of_decide_eq_false (by kernel_rfl))]; exact ⟨rfl, rfl⟩)
    (fun os started H enc _ => lifted os started H enc)

/-- The given statement: the tied card. -/
theorem proved : Rows.PathNodesCardSaid :=
  Claim7.holds_tied_plain_at .later [] [.data] true Rows.pathNodesCard.stood.harness false
    over (fun _ h => by cases h) (by kernel_rfl) (fun _ h => by cases h) pathNodes_row_tie rfl ⟨rfl, rfl⟩ (by kernel_rfl) rfl
    (fun f fn hf hfn => by
      obtain rfl : f = 4 := Option.some.inj ((show Tryz.prog.funcNamed "flightdeck/flightdecklaw27.PathNodes" = some 4 by kernel_rfl).symm.trans hf) |>.symm
      obtain rfl : fn = Tryz.f4 := (Option.some.inj (Tryz.func4.symm.trans hfn)).symm
      exact ⟨by kernel_rfl, fun j t ht => by
        have hm : t ∈ Tryz.f4.params.toList := by simpa using Array.mem_of_getElem? ht
        have hall : (Tryz.f4.params.toList.all fun u => !Tryz.prog.wantsStandIn u) = true := by kernel_rfl
        exact (show Tryz.prog.wantsStandIn t = false by simpa using List.all_eq_true.1 hall t hm)⟩)
    (by kernel_rfl)
end Go.Proofs.YtapgmnjpfcohhaaGreatDoor.pathNodes
