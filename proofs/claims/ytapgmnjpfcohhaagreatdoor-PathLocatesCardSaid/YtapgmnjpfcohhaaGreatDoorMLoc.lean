/-
  The walks of Locate: the deviation of a point from an element.
-/
import Derived.Test.YtapgmnjpfcohhaaGreatDoorMFixed
import Derived.Test.YtapgmnjpfcohhaaGreatDoorMGeo
import Derived.Test.YtapgmnjpfcohhaaGreatDoorMLineE
import Derived.Test.YtapgmnjpfcohhaaGreatDoorMPlain
import Derived.Test.YtapgmnjpfcohhaaGreatDoorMSeqP
import Derived.Test.YtapgmnjpfcohhaaGreatDoorMTurnC
import Derived.Deep.DeepCutAuto
import Derived.Laws.BitsAllLaws
import Derived.Test.YtapgmnjpfcohhaaGreatDoorProg
import Derived.WalkSpells
import Derived.WalkLawsBesides
import Derived.Deep.QuietTactic
import Derived.BigQuiet
import Derived.Lib.ItoaNum
import Derived.Shelf.Small.Bits
import Derived.Shelf.Strconv.Itoa0
import Derived.Shelf.Bits.Mul64
import Derived.Shelf.Spec.BitsCarry
import Derived.WalkKit
import Derived.ProofKit
import Derived.OpenShut
import Derived.Below
import Derived.ChangeSame
import Derived.Test.YtapgmnjpfcohhaaGreatDoorRows
import Derived.Deep.RegionHeld3
namespace Go.Proofs.YtapgmnjpfcohhaaGreatDoor
open Go.RowKit
set_option linter.unusedVariables false
set_option linter.unusedSimpArgs false
set_option maxRecDepth 100000 in
set_option maxHeartbeats 2000000 in
theorem loc_any (c g : Bool) (ax ay bx b_y cx cy r f s L n px py : Int) (w : World) (R : Int × Int × Int) (hR : R = locF c ax ay bx b_y cx cy r f s px py) :
    Calls Tryz.prog 16 #[.agg #[.bool c, .int .i64 ax, .int .i64 ay, .int .i64 bx, .int .i64 b_y, .int .i64 cx, .int .i64 cy, .int .i64 r, .int .i64 f, .int .i64 s, .int .i64 L, .int .i64 n, .bool g], .agg #[.int .i64 px, .int .i64 py]] w fun e w' => e = .returned (.tuple #[.int .i64 R.1, .int .i64 R.2.1, .int .i64 R.2.2]) ∧ Below w.heap.size w w' := by
  rcases c with _ | _
  · have HR : Hid (R = offF ax ay bx b_y px py) := hide (hR.trans (by unfold locF; rfl))
    clear hR
    go_enter Tryz.func16, Tryz.ntmps16
    go_wp2_with fail
    refine (off_any ax ay bx b_y px py _ R HR.out).mono ?_
    rintro e w1 ⟨rfl, hb1⟩
    obtain ⟨f1, f2, f3, f4, f5, f6, f7, f8, f9, f10, f11, f12, f13, f14, f15⟩ : w1.cell? ⟨w.heap.size, 0, none⟩ = some (.bool false) ∧ w1.cell? ⟨w.heap.size, 1, none⟩ = some (.int .i64 ax) ∧ w1.cell? ⟨w.heap.size, 2, none⟩ = some (.int .i64 ay) ∧ w1.cell? ⟨w.heap.size, 3, none⟩ = some (.int .i64 bx) ∧ w1.cell? ⟨w.heap.size, 4, none⟩ = some (.int .i64 b_y) ∧ w1.cell? ⟨w.heap.size, 5, none⟩ = some (.int .i64 cx) ∧ w1.cell? ⟨w.heap.size, 6, none⟩ = some (.int .i64 cy) ∧ w1.cell? ⟨w.heap.size, 7, none⟩ = some (.int .i64 r) ∧ w1.cell? ⟨w.heap.size, 8, none⟩ = some (.int .i64 f) ∧ w1.cell? ⟨w.heap.size, 9, none⟩ = some (.int .i64 s) ∧ w1.cell? ⟨w.heap.size, 10, none⟩ = some (.int .i64 L) ∧ w1.cell? ⟨w.heap.size, 11, none⟩ = some (.int .i64 n) ∧ w1.cell? ⟨w.heap.size, 12, none⟩ = some (.bool g) ∧ w1.cell? ⟨w.heap.size + 1, 0, none⟩ = some (.int .i64 px) ∧ w1.cell? ⟨w.heap.size + 1, 1, none⟩ = some (.int .i64 py) := by
      refine ⟨?_, ?_, ?_, ?_, ?_, ?_, ?_, ?_, ?_, ?_, ?_, ?_, ?_, ?_, ?_⟩ <;> (refine cell_below hb1 ?_; repeat (first | (with_reducible assumption) | ((with_reducible refine cell_set ?_ ?_ _); (· first | (simp; done) | (simp; omega) | omega)) | ((with_reducible refine cell_new ?_ ?_); (· (simp; done)); (· rfl)) | (with_reducible refine cell_alloc ?_ _) | (with_reducible refine cell_drew ?_) | (with_reducible refine cell_drewN ?_ _) | (with_reducible refine cell_below (by assumption) ?_)))
    have zf1 : w.heap.size < w1.heap.size := World.block_lt_of_cell? _ _ f1
    have zf14 : w.heap.size + 1 < w1.heap.size := World.block_lt_of_cell? _ _ f14
    go_wp2_with fail
    exact bodyPost_ret (v := .tuple #[.int .i64 R.1, .int .i64 R.2.1, .int .i64 R.2.2]) (by simp [results, Tryz.results16, go_sem, *]) rfl ⟨rfl, by (repeat (with_reducible (first | assumption | exact Below.refl _ _ | refine Below.drew ?_ | refine below_drewN ?_ _ | refine below_set ?_ (by simp; try omega) _ | refine below_alloc ?_ (Nat.le_refl _) _ | refine below_sub (by assumption) ?_)))⟩
  · have HR : Hid (R = arcOff cx cy r f s px py) := hide (hR.trans (by unfold locF; rfl))
    clear hR
    go_enter Tryz.func16, Tryz.ntmps16
    go_wp2_with fail
    refine (aoff_any cx cy r f s px py _ R HR.out).mono ?_
    rintro e w1 ⟨rfl, hb1⟩
    obtain ⟨f1, f2, f3, f4, f5, f6, f7, f8, f9, f10, f11, f12, f13, f14, f15⟩ : w1.cell? ⟨w.heap.size, 0, none⟩ = some (.bool true) ∧ w1.cell? ⟨w.heap.size, 1, none⟩ = some (.int .i64 ax) ∧ w1.cell? ⟨w.heap.size, 2, none⟩ = some (.int .i64 ay) ∧ w1.cell? ⟨w.heap.size, 3, none⟩ = some (.int .i64 bx) ∧ w1.cell? ⟨w.heap.size, 4, none⟩ = some (.int .i64 b_y) ∧ w1.cell? ⟨w.heap.size, 5, none⟩ = some (.int .i64 cx) ∧ w1.cell? ⟨w.heap.size, 6, none⟩ = some (.int .i64 cy) ∧ w1.cell? ⟨w.heap.size, 7, none⟩ = some (.int .i64 r) ∧ w1.cell? ⟨w.heap.size, 8, none⟩ = some (.int .i64 f) ∧ w1.cell? ⟨w.heap.size, 9, none⟩ = some (.int .i64 s) ∧ w1.cell? ⟨w.heap.size, 10, none⟩ = some (.int .i64 L) ∧ w1.cell? ⟨w.heap.size, 11, none⟩ = some (.int .i64 n) ∧ w1.cell? ⟨w.heap.size, 12, none⟩ = some (.bool g) ∧ w1.cell? ⟨w.heap.size + 1, 0, none⟩ = some (.int .i64 px) ∧ w1.cell? ⟨w.heap.size + 1, 1, none⟩ = some (.int .i64 py) := by
      refine ⟨?_, ?_, ?_, ?_, ?_, ?_, ?_, ?_, ?_, ?_, ?_, ?_, ?_, ?_, ?_⟩ <;> (refine cell_below hb1 ?_; repeat (first | (with_reducible assumption) | ((with_reducible refine cell_set ?_ ?_ _); (· first | (simp; done) | (simp; omega) | omega)) | ((with_reducible refine cell_new ?_ ?_); (· (simp; done)); (· rfl)) | (with_reducible refine cell_alloc ?_ _) | (with_reducible refine cell_drew ?_) | (with_reducible refine cell_drewN ?_ _) | (with_reducible refine cell_below (by assumption) ?_)))
    have zf1 : w.heap.size < w1.heap.size := World.block_lt_of_cell? _ _ f1
    have zf14 : w.heap.size + 1 < w1.heap.size := World.block_lt_of_cell? _ _ f14
    go_wp2_with fail
    exact bodyPost_ret (v := .tuple #[.int .i64 R.1, .int .i64 R.2.1, .int .i64 R.2.2]) (by simp [results, Tryz.results16, go_sem, *]) rfl ⟨rfl, by (repeat (with_reducible (first | assumption | exact Below.refl _ _ | refine Below.drew ?_ | refine below_drewN ?_ _ | refine below_set ?_ (by simp; try omega) _ | refine below_alloc ?_ (Nat.le_refl _) _ | refine below_sub (by assumption) ?_)))⟩
set_option maxRecDepth 100000 in
set_option maxHeartbeats 2000000 in
theorem rloc_any (c g : Bool) (ax ay bx b_y cx cy r f s L n px py : Int) (w : World) (R : Int × Int × Int) (hR : R = locF c ax ay bx b_y cx cy r f s px py) :
    Calls Tryz.prog 17 #[.agg #[.bool c, .int .i64 ax, .int .i64 ay, .int .i64 bx, .int .i64 b_y, .int .i64 cx, .int .i64 cy, .int .i64 r, .int .i64 f, .int .i64 s, .int .i64 L, .int .i64 n, .bool g], .agg #[.int .i64 px, .int .i64 py]] w fun e w' => e = .returned (.tuple #[.int .i64 R.1, .int .i64 R.2.1, .int .i64 R.2.2]) ∧ Below w.heap.size w w' := by
  rcases c with _ | _
  · have HR : Hid (R = offF ax ay bx b_y px py) := hide (hR.trans (by unfold locF; rfl))
    clear hR
    go_enter Tryz.func17, Tryz.ntmps17
    go_wp2_with fail
    refine (roff_any ax ay bx b_y px py _ R HR.out).mono ?_
    rintro e w1 ⟨rfl, hb1⟩
    obtain ⟨f1, f2, f3, f4, f5, f6, f7, f8, f9, f10, f11, f12, f13, f14, f15⟩ : w1.cell? ⟨w.heap.size, 0, none⟩ = some (.bool false) ∧ w1.cell? ⟨w.heap.size, 1, none⟩ = some (.int .i64 ax) ∧ w1.cell? ⟨w.heap.size, 2, none⟩ = some (.int .i64 ay) ∧ w1.cell? ⟨w.heap.size, 3, none⟩ = some (.int .i64 bx) ∧ w1.cell? ⟨w.heap.size, 4, none⟩ = some (.int .i64 b_y) ∧ w1.cell? ⟨w.heap.size, 5, none⟩ = some (.int .i64 cx) ∧ w1.cell? ⟨w.heap.size, 6, none⟩ = some (.int .i64 cy) ∧ w1.cell? ⟨w.heap.size, 7, none⟩ = some (.int .i64 r) ∧ w1.cell? ⟨w.heap.size, 8, none⟩ = some (.int .i64 f) ∧ w1.cell? ⟨w.heap.size, 9, none⟩ = some (.int .i64 s) ∧ w1.cell? ⟨w.heap.size, 10, none⟩ = some (.int .i64 L) ∧ w1.cell? ⟨w.heap.size, 11, none⟩ = some (.int .i64 n) ∧ w1.cell? ⟨w.heap.size, 12, none⟩ = some (.bool g) ∧ w1.cell? ⟨w.heap.size + 1, 0, none⟩ = some (.int .i64 px) ∧ w1.cell? ⟨w.heap.size + 1, 1, none⟩ = some (.int .i64 py) := by
      refine ⟨?_, ?_, ?_, ?_, ?_, ?_, ?_, ?_, ?_, ?_, ?_, ?_, ?_, ?_, ?_⟩ <;> (refine cell_below hb1 ?_; repeat (first | (with_reducible assumption) | ((with_reducible refine cell_set ?_ ?_ _); (· first | (simp; done) | (simp; omega) | omega)) | ((with_reducible refine cell_new ?_ ?_); (· (simp; done)); (· rfl)) | (with_reducible refine cell_alloc ?_ _) | (with_reducible refine cell_drew ?_) | (with_reducible refine cell_drewN ?_ _) | (with_reducible refine cell_below (by assumption) ?_)))
    have zf1 : w.heap.size < w1.heap.size := World.block_lt_of_cell? _ _ f1
    have zf14 : w.heap.size + 1 < w1.heap.size := World.block_lt_of_cell? _ _ f14
    go_wp2_with fail
    exact bodyPost_ret (v := .tuple #[.int .i64 R.1, .int .i64 R.2.1, .int .i64 R.2.2]) (by simp [results, Tryz.results17, go_sem, *]) rfl ⟨rfl, by (repeat (with_reducible (first | assumption | exact Below.refl _ _ | refine Below.drew ?_ | refine below_drewN ?_ _ | refine below_set ?_ (by simp; try omega) _ | refine below_alloc ?_ (Nat.le_refl _) _ | refine below_sub (by assumption) ?_)))⟩
  · have HR : Hid (R = arcOff cx cy r f s px py) := hide (hR.trans (by unfold locF; rfl))
    clear hR
    go_enter Tryz.func17, Tryz.ntmps17
    go_wp2_with fail
    refine (raoff_any cx cy r f s px py _ R HR.out).mono ?_
    rintro e w1 ⟨rfl, hb1⟩
    obtain ⟨f1, f2, f3, f4, f5, f6, f7, f8, f9, f10, f11, f12, f13, f14, f15⟩ : w1.cell? ⟨w.heap.size, 0, none⟩ = some (.bool true) ∧ w1.cell? ⟨w.heap.size, 1, none⟩ = some (.int .i64 ax) ∧ w1.cell? ⟨w.heap.size, 2, none⟩ = some (.int .i64 ay) ∧ w1.cell? ⟨w.heap.size, 3, none⟩ = some (.int .i64 bx) ∧ w1.cell? ⟨w.heap.size, 4, none⟩ = some (.int .i64 b_y) ∧ w1.cell? ⟨w.heap.size, 5, none⟩ = some (.int .i64 cx) ∧ w1.cell? ⟨w.heap.size, 6, none⟩ = some (.int .i64 cy) ∧ w1.cell? ⟨w.heap.size, 7, none⟩ = some (.int .i64 r) ∧ w1.cell? ⟨w.heap.size, 8, none⟩ = some (.int .i64 f) ∧ w1.cell? ⟨w.heap.size, 9, none⟩ = some (.int .i64 s) ∧ w1.cell? ⟨w.heap.size, 10, none⟩ = some (.int .i64 L) ∧ w1.cell? ⟨w.heap.size, 11, none⟩ = some (.int .i64 n) ∧ w1.cell? ⟨w.heap.size, 12, none⟩ = some (.bool g) ∧ w1.cell? ⟨w.heap.size + 1, 0, none⟩ = some (.int .i64 px) ∧ w1.cell? ⟨w.heap.size + 1, 1, none⟩ = some (.int .i64 py) := by
      refine ⟨?_, ?_, ?_, ?_, ?_, ?_, ?_, ?_, ?_, ?_, ?_, ?_, ?_, ?_, ?_⟩ <;> (refine cell_below hb1 ?_; repeat (first | (with_reducible assumption) | ((with_reducible refine cell_set ?_ ?_ _); (· first | (simp; done) | (simp; omega) | omega)) | ((with_reducible refine cell_new ?_ ?_); (· (simp; done)); (· rfl)) | (with_reducible refine cell_alloc ?_ _) | (with_reducible refine cell_drew ?_) | (with_reducible refine cell_drewN ?_ _) | (with_reducible refine cell_below (by assumption) ?_)))
    have zf1 : w.heap.size < w1.heap.size := World.block_lt_of_cell? _ _ f1
    have zf14 : w.heap.size + 1 < w1.heap.size := World.block_lt_of_cell? _ _ f14
    go_wp2_with fail
    exact bodyPost_ret (v := .tuple #[.int .i64 R.1, .int .i64 R.2.1, .int .i64 R.2.2]) (by simp [results, Tryz.results17, go_sem, *]) rfl ⟨rfl, by (repeat (with_reducible (first | assumption | exact Below.refl _ _ | refine Below.drew ?_ | refine below_drewN ?_ _ | refine below_set ?_ (by simp; try omega) _ | refine below_alloc ?_ (Nat.le_refl _) _ | refine below_sub (by assumption) ?_)))⟩
end Go.Proofs.YtapgmnjpfcohhaaGreatDoor
