/-
  resolve.straight; resolve.Check on the options of the example.
-/
import Derived.Test.YtapgmnjpfcohhaaGreatDoorMFixed
import Derived.Test.YtapgmnjpfcohhaaGreatDoorMGeo
import Derived.Test.YtapgmnjpfcohhaaGreatDoorMLineA
import Derived.Test.YtapgmnjpfcohhaaGreatDoorMPathM
import Derived.Test.YtapgmnjpfcohhaaGreatDoorMPlain
import Derived.Test.YtapgmnjpfcohhaaGreatDoorMStoreN
import Derived.WalkKit
import Derived.Below
import Derived.Deep.RegionHeld3
import Derived.Test.YtapgmnjpfcohhaaGreatDoorProg
import Derived.WalkSpells
import Derived.WalkLawsBesides
import Derived.Deep.QuietTactic
import Derived.BigQuiet
import Derived.Lib.ItoaNum
import Derived.Shelf.Small.Bits
import Derived.Shelf.Strconv.Itoa0
import Derived.Shelf.Bits.Mul64
import Derived.Shelf.Spec.BitsCarry
import Derived.ProofKit
import Derived.OpenShut
import Derived.ChangeSame
import Derived.Test.YtapgmnjpfcohhaaGreatDoorRows
import Derived.Laws.Tables
import Derived.Deep.WholeRow
namespace Go.Proofs.YtapgmnjpfcohhaaGreatDoor
open Go.RowKit
set_option linter.unusedVariables false
set_option linter.unusedSimpArgs false
theorem sizeT : (Tryz.prog.info? 77).map (·.size) = some 15 := by kernel_rfl
set_option maxRecDepth 100000 in
set_option maxHeartbeats 8000000 in
theorem straight_eq (ax ay c : Int) (w : World) :
    Calls Tryz.prog 78 #[.agg #[.int .i64 ax, .int .i64 ay], .agg #[.int .i64 ax, .int .i64 ay], .int .i64 c] w fun e w' => e = .returned (.agg #[.int .u8 1, .int .i64 ax, .int .i64 ay, .int .i64 ax, .int .i64 ay, .int .i64 0, .int .i64 0, .int .i64 0, .int .i64 0, .int .i64 0, .int .i64 c, .int .i64 c, .int .i64 0, .int .i64 0, .bool false]) ∧ Below w.heap.size w w' := by
  go_enter Tryz.func78, Tryz.ntmps78
  go_wp2_with (first
    | (refine wpl_store_new (ty := 77) rfl rfl rfl rfl ?_ sizeT rfl rfl (by simp [Value.oneCell']) ?_; (· first | rfl | (simp; done)))
    | (refine wpl_load_new (ty := 77) rfl rfl rfl ?_ Tryz.isAgg77 sizeT rfl ?_; (· first | rfl | (simp; done)))
    | (refine wpl_store_row (ty := 77) rfl rfl rfl rfl (row_alloc (new_at _ (.cells #[.int .u8 0, .int .i64 0, .int .i64 0, .int .i64 0, .int .i64 0, .int .i64 0, .int .i64 0, .int .i64 0, .int .i64 0, .int .i64 0, .int .i64 0, .int .i64 0, .int .i64 0, .int .i64 0, .bool false] 77) (w.heap.size + 1 + 1) (by simp)) _) sizeT rfl rfl (by simp [Value.oneCell']) ?_))
  exact bodyPost_ret (v := .agg #[.int .u8 1, .int .i64 ax, .int .i64 ay, .int .i64 ax, .int .i64 ay, .int .i64 0, .int .i64 0, .int .i64 0, .int .i64 0, .int .i64 0, .int .i64 c, .int .i64 c, .int .i64 0, .int .i64 0, .bool false]) (results_row rfl _ _ _ _ _ _ (by (repeat (first | (with_reducible assumption) | ((with_reducible refine new_at _ _ _ ?_); (· (simp; done))) | (with_reducible refine row_alloc ?_ _) | ((with_reducible refine row_set ?_ ?_ _); (· first | (simp; done) | (simp; omega) | omega)) | (with_reducible refine row_below (by assumption) ?_)))) rfl _ Tryz.underlying77 sizeT) rfl ⟨rfl, by (repeat (with_reducible (first | assumption | exact Below.refl _ _ | refine Below.drew ?_ | refine below_drewN ?_ _ | ((refine below_setRow ?_ ?_ _); rotate_left; (· omega)) | refine below_set ?_ (by simp; try omega) _ | refine below_alloc ?_ (Nat.le_refl _) _ | refine below_sub (by assumption) ?_)))⟩
set_option maxRecDepth 100000 in
set_option maxHeartbeats 8000000 in
theorem straight_x (ax ay bx b_y c : Int) (C D : Int) (hC : Hid (courseF ax ay bx b_y = (C, 0))) (hD : Hid (distF ax ay bx b_y = D)) (hx : (ax == bx) = false) (w : World) :
    Calls Tryz.prog 78 #[.agg #[.int .i64 ax, .int .i64 ay], .agg #[.int .i64 bx, .int .i64 b_y], .int .i64 c] w fun e w' => e = .returned (.agg #[.int .u8 1, .int .i64 ax, .int .i64 ay, .int .i64 bx, .int .i64 b_y, .int .i64 0, .int .i64 0, .int .i64 0, .int .i64 0, .int .i64 0, .int .i64 C, .int .i64 C, .int .i64 D, .int .i64 0, .bool false]) ∧ Below w.heap.size w w' := by
  have CO := fun W => course_any ax ay bx b_y W
  have DI := fun W => dist_any ax ay bx b_y W
  rw [hC.out] at CO
  rw [hD.out] at DI
  go_enter Tryz.func78, Tryz.ntmps78
  go_wp2_with (refine wpl_store_new (ty := 77) rfl rfl rfl rfl ?_ sizeT rfl rfl (by simp [Value.oneCell']) ?_; (· first | rfl | (simp; done)))
  refine (CO _).mono ?_
  rintro e w1 ⟨rfl, hb1⟩
  obtain ⟨f1, f2, f3, f4⟩ : w1.cell? ⟨w.heap.size, 0, none⟩ = some (.int .i64 ax) ∧ w1.cell? ⟨w.heap.size, 1, none⟩ = some (.int .i64 ay) ∧ w1.cell? ⟨w.heap.size + 1, 0, none⟩ = some (.int .i64 bx) ∧ w1.cell? ⟨w.heap.size + 1, 1, none⟩ = some (.int .i64 b_y) := by
    refine ⟨?_, ?_, ?_, ?_⟩ <;> (refine cell_below hb1 ?_; repeat (first | (with_reducible assumption) | ((with_reducible refine cell_set ?_ ?_ _); (· first | (simp; done) | (simp; omega) | omega)) | ((with_reducible refine cell_new ?_ ?_); (· (simp; done)); (· rfl)) | (with_reducible refine cell_alloc ?_ _) | (with_reducible refine cell_drew ?_) | (with_reducible refine cell_drewN ?_ _) | (with_reducible refine cell_below (by assumption) ?_)))
  have zf1 : w.heap.size < w1.heap.size := World.block_lt_of_cell? _ _ f1
  have zf3 : w.heap.size + 1 < w1.heap.size := World.block_lt_of_cell? _ _ f3
  obtain ⟨⟨o5a, o5b⟩, ⟨o6a, o6b⟩, ⟨o7a, o7b⟩, ⟨o8a, o8b⟩, ⟨o9a, o9b⟩, ⟨o10a, o10b⟩, ⟨o11a, o11b⟩, ⟨o12a, o12b⟩, ⟨o13a, o13b⟩, ⟨o14a, o14b⟩, ⟨o15a, o15b⟩, ⟨o16a, o16b⟩, ⟨o17a, o17b⟩, ⟨o18a, o18b⟩, ⟨o19a, o19b⟩⟩ : (w1.cell? ⟨w.heap.size + 1 + 1 + 1, 0, none⟩ = some (.int .u8 1) ∧ w1.frozen? ⟨w.heap.size + 1 + 1 + 1, 0, none⟩ = false) ∧ (w1.cell? ⟨w.heap.size + 1 + 1 + 1, 1, none⟩ = some (.int .i64 ax) ∧ w1.frozen? ⟨w.heap.size + 1 + 1 + 1, 1, none⟩ = false) ∧ (w1.cell? ⟨w.heap.size + 1 + 1 + 1, 2, none⟩ = some (.int .i64 ay) ∧ w1.frozen? ⟨w.heap.size + 1 + 1 + 1, 2, none⟩ = false) ∧ (w1.cell? ⟨w.heap.size + 1 + 1 + 1, 3, none⟩ = some (.int .i64 bx) ∧ w1.frozen? ⟨w.heap.size + 1 + 1 + 1, 3, none⟩ = false) ∧ (w1.cell? ⟨w.heap.size + 1 + 1 + 1, 4, none⟩ = some (.int .i64 b_y) ∧ w1.frozen? ⟨w.heap.size + 1 + 1 + 1, 4, none⟩ = false) ∧ (w1.cell? ⟨w.heap.size + 1 + 1 + 1, 5, none⟩ = some (.int .i64 0) ∧ w1.frozen? ⟨w.heap.size + 1 + 1 + 1, 5, none⟩ = false) ∧ (w1.cell? ⟨w.heap.size + 1 + 1 + 1, 6, none⟩ = some (.int .i64 0) ∧ w1.frozen? ⟨w.heap.size + 1 + 1 + 1, 6, none⟩ = false) ∧ (w1.cell? ⟨w.heap.size + 1 + 1 + 1, 7, none⟩ = some (.int .i64 0) ∧ w1.frozen? ⟨w.heap.size + 1 + 1 + 1, 7, none⟩ = false) ∧ (w1.cell? ⟨w.heap.size + 1 + 1 + 1, 8, none⟩ = some (.int .i64 0) ∧ w1.frozen? ⟨w.heap.size + 1 + 1 + 1, 8, none⟩ = false) ∧ (w1.cell? ⟨w.heap.size + 1 + 1 + 1, 9, none⟩ = some (.int .i64 0) ∧ w1.frozen? ⟨w.heap.size + 1 + 1 + 1, 9, none⟩ = false) ∧ (w1.cell? ⟨w.heap.size + 1 + 1 + 1, 10, none⟩ = some (.int .i64 c) ∧ w1.frozen? ⟨w.heap.size + 1 + 1 + 1, 10, none⟩ = false) ∧ (w1.cell? ⟨w.heap.size + 1 + 1 + 1, 11, none⟩ = some (.int .i64 c) ∧ w1.frozen? ⟨w.heap.size + 1 + 1 + 1, 11, none⟩ = false) ∧ (w1.cell? ⟨w.heap.size + 1 + 1 + 1, 12, none⟩ = some (.int .i64 0) ∧ w1.frozen? ⟨w.heap.size + 1 + 1 + 1, 12, none⟩ = false) ∧ (w1.cell? ⟨w.heap.size + 1 + 1 + 1, 13, none⟩ = some (.int .i64 0) ∧ w1.frozen? ⟨w.heap.size + 1 + 1 + 1, 13, none⟩ = false) ∧ (w1.cell? ⟨w.heap.size + 1 + 1 + 1, 14, none⟩ = some (.bool false) ∧ w1.frozen? ⟨w.heap.size + 1 + 1 + 1, 14, none⟩ = false) := by
    refine ⟨?_, ?_, ?_, ?_, ?_, ?_, ?_, ?_, ?_, ?_, ?_, ?_, ?_, ?_, ?_⟩ <;> (refine own_below hb1 ?_; repeat (first | (refine ⟨?_, ?_⟩ <;> (with_reducible assumption)) | (with_reducible apply own_same) | ((with_reducible refine own_set ?_ ?_ _); (· first | (simp; done) | (simp; omega))) | ((with_reducible refine own_new ?_ ?_); (· (simp; done)); (· rfl)) | (with_reducible refine own_alloc ?_ _) | (with_reducible refine own_drew ?_) | (with_reducible refine own_drewN ?_ _) | (with_reducible refine own_below (by assumption) ?_)))
  have zo5 : w.heap.size + 1 + 1 + 1 < w1.heap.size := World.block_lt_of_cell? _ _ o5a
  have hres : Hid (w1.heap[w.heap.size + 1 + 1]? = some (.cells #[.int .u8 0, .int .i64 0, .int .i64 0, .int .i64 0, .int .i64 0, .int .i64 0, .int .i64 0, .int .i64 0, .int .i64 0, .int .i64 0, .int .i64 0, .int .i64 0, .int .i64 0, .int .i64 0, .bool false] 77)) := hide (row_below hb1 (row_alloc (new_at _ _ _ (by simp)) _))
  go_wp2_with fail
  have hres2 : Hid ((w1.setCell ⟨w.heap.size + 1 + 1 + 1, 10, none⟩ (.int .i64 C)).heap[w.heap.size + 1 + 1]? = some (.cells #[.int .u8 0, .int .i64 0, .int .i64 0, .int .i64 0, .int .i64 0, .int .i64 0, .int .i64 0, .int .i64 0, .int .i64 0, .int .i64 0, .int .i64 0, .int .i64 0, .int .i64 0, .int .i64 0, .bool false] 77)) := hide (row_set hres.out (by simp) _)
  generalize hwwz : (w1.setCell ⟨w.heap.size + 1 + 1 + 1, 10, none⟩ (.int .i64 C)) = wz
  have ne20 : w.heap.size + 1 + 1 + 1 ≠ w.heap.size := by omega
  have ne21 : w.heap.size + 1 + 1 + 1 ≠ w.heap.size + 1 := by omega
  have x22 : wz.cell? ⟨w.heap.size, 0, none⟩ = some (.int .i64 ax) := by
    rw [← hwwz]; exact (cell_set ne20 f1 _)
  have zzx22 : w.heap.size < wz.heap.size := World.block_lt_of_cell? _ _ x22
  have x23 : wz.cell? ⟨w.heap.size, 1, none⟩ = some (.int .i64 ay) := by
    rw [← hwwz]; exact (cell_set ne20 f2 _)
  have x24 : wz.cell? ⟨w.heap.size + 1, 0, none⟩ = some (.int .i64 bx) := by
    rw [← hwwz]; exact (cell_set ne21 f3 _)
  have zzx24 : w.heap.size + 1 < wz.heap.size := World.block_lt_of_cell? _ _ x24
  have x25 : wz.cell? ⟨w.heap.size + 1, 1, none⟩ = some (.int .i64 b_y) := by
    rw [← hwwz]; exact (cell_set ne21 f4 _)
  obtain ⟨x26a, x26b⟩ : wz.cell? ⟨w.heap.size + 1 + 1 + 1, 0, none⟩ = some (.int .u8 1) ∧ wz.frozen? ⟨w.heap.size + 1 + 1 + 1, 0, none⟩ = false := by
    rw [← hwwz]; exact (own_set (by simp) ⟨o5a, o5b⟩ _)
  have zzx26a : w.heap.size + 1 + 1 + 1 < wz.heap.size := World.block_lt_of_cell? _ _ x26a
  obtain ⟨x27a, x27b⟩ : wz.cell? ⟨w.heap.size + 1 + 1 + 1, 1, none⟩ = some (.int .i64 ax) ∧ wz.frozen? ⟨w.heap.size + 1 + 1 + 1, 1, none⟩ = false := by
    rw [← hwwz]; exact (own_set (by simp) ⟨o6a, o6b⟩ _)
  obtain ⟨x28a, x28b⟩ : wz.cell? ⟨w.heap.size + 1 + 1 + 1, 2, none⟩ = some (.int .i64 ay) ∧ wz.frozen? ⟨w.heap.size + 1 + 1 + 1, 2, none⟩ = false := by
    rw [← hwwz]; exact (own_set (by simp) ⟨o7a, o7b⟩ _)
  obtain ⟨x29a, x29b⟩ : wz.cell? ⟨w.heap.size + 1 + 1 + 1, 3, none⟩ = some (.int .i64 bx) ∧ wz.frozen? ⟨w.heap.size + 1 + 1 + 1, 3, none⟩ = false := by
    rw [← hwwz]; exact (own_set (by simp) ⟨o8a, o8b⟩ _)
  obtain ⟨x30a, x30b⟩ : wz.cell? ⟨w.heap.size + 1 + 1 + 1, 4, none⟩ = some (.int .i64 b_y) ∧ wz.frozen? ⟨w.heap.size + 1 + 1 + 1, 4, none⟩ = false := by
    rw [← hwwz]; exact (own_set (by simp) ⟨o9a, o9b⟩ _)
  obtain ⟨x31a, x31b⟩ : wz.cell? ⟨w.heap.size + 1 + 1 + 1, 5, none⟩ = some (.int .i64 0) ∧ wz.frozen? ⟨w.heap.size + 1 + 1 + 1, 5, none⟩ = false := by
    rw [← hwwz]; exact (own_set (by simp) ⟨o10a, o10b⟩ _)
  obtain ⟨x32a, x32b⟩ : wz.cell? ⟨w.heap.size + 1 + 1 + 1, 6, none⟩ = some (.int .i64 0) ∧ wz.frozen? ⟨w.heap.size + 1 + 1 + 1, 6, none⟩ = false := by
    rw [← hwwz]; exact (own_set (by simp) ⟨o11a, o11b⟩ _)
  obtain ⟨x33a, x33b⟩ : wz.cell? ⟨w.heap.size + 1 + 1 + 1, 7, none⟩ = some (.int .i64 0) ∧ wz.frozen? ⟨w.heap.size + 1 + 1 + 1, 7, none⟩ = false := by
    rw [← hwwz]; exact (own_set (by simp) ⟨o12a, o12b⟩ _)
  obtain ⟨x34a, x34b⟩ : wz.cell? ⟨w.heap.size + 1 + 1 + 1, 8, none⟩ = some (.int .i64 0) ∧ wz.frozen? ⟨w.heap.size + 1 + 1 + 1, 8, none⟩ = false := by
    rw [← hwwz]; exact (own_set (by simp) ⟨o13a, o13b⟩ _)
  obtain ⟨x35a, x35b⟩ : wz.cell? ⟨w.heap.size + 1 + 1 + 1, 9, none⟩ = some (.int .i64 0) ∧ wz.frozen? ⟨w.heap.size + 1 + 1 + 1, 9, none⟩ = false := by
    rw [← hwwz]; exact (own_set (by simp) ⟨o14a, o14b⟩ _)
  obtain ⟨x36a, x36b⟩ : wz.cell? ⟨w.heap.size + 1 + 1 + 1, 10, none⟩ = some (.int .i64 C) ∧ wz.frozen? ⟨w.heap.size + 1 + 1 + 1, 10, none⟩ = false := by
    rw [← hwwz]; exact (own_same ⟨o15a, o15b⟩ _)
  obtain ⟨x37a, x37b⟩ : wz.cell? ⟨w.heap.size + 1 + 1 + 1, 11, none⟩ = some (.int .i64 c) ∧ wz.frozen? ⟨w.heap.size + 1 + 1 + 1, 11, none⟩ = false := by
    rw [← hwwz]; exact (own_set (by simp) ⟨o16a, o16b⟩ _)
  obtain ⟨x38a, x38b⟩ : wz.cell? ⟨w.heap.size + 1 + 1 + 1, 12, none⟩ = some (.int .i64 0) ∧ wz.frozen? ⟨w.heap.size + 1 + 1 + 1, 12, none⟩ = false := by
    rw [← hwwz]; exact (own_set (by simp) ⟨o17a, o17b⟩ _)
  obtain ⟨x39a, x39b⟩ : wz.cell? ⟨w.heap.size + 1 + 1 + 1, 13, none⟩ = some (.int .i64 0) ∧ wz.frozen? ⟨w.heap.size + 1 + 1 + 1, 13, none⟩ = false := by
    rw [← hwwz]; exact (own_set (by simp) ⟨o18a, o18b⟩ _)
  obtain ⟨x40a, x40b⟩ : wz.cell? ⟨w.heap.size + 1 + 1 + 1, 14, none⟩ = some (.bool false) ∧ wz.frozen? ⟨w.heap.size + 1 + 1 + 1, 14, none⟩ = false := by
    rw [← hwwz]; exact (own_set (by simp) ⟨o19a, o19b⟩ _)
  have Bwz : Below w.heap.size w wz := by
    rw [← hwwz]
    (repeat (with_reducible (first | assumption | exact Below.refl _ _ | refine Below.drew ?_ | refine below_drewN ?_ _ | refine below_set ?_ (by simp; try omega) _ | refine below_alloc ?_ (Nat.le_refl _) _ | refine below_sub (by assumption) ?_)))
  rw [hwwz] at hres2
  clear f1 zf1 f2 f3 zf3 f4 o5a o5b zo5 o6a o6b o7a o7b o8a o8b o9a o9b o10a o10b o11a o11b o12a o12b o13a o13b o14a o14b o15a o15b o16a o16b o17a o17b o18a o18b o19a o19b hwwz
  obtain ⟨q11a, q11b⟩ := mine_own ⟨x37a, x37b⟩
  obtain ⟨q12a, q12b⟩ := mine_own ⟨x38a, x38b⟩
  go_region_held3 (fun w' => w'.cell? ⟨w.heap.size, 0, none⟩ = some (.int .i64 ax) ∧ w'.cell? ⟨w.heap.size, 1, none⟩ = some (.int .i64 ay) ∧ w'.cell? ⟨w.heap.size + 1, 0, none⟩ = some (.int .i64 bx) ∧ w'.cell? ⟨w.heap.size + 1, 1, none⟩ = some (.int .i64 b_y) ∧ (w'.cell? ⟨w.heap.size + 1 + 1 + 1, 10, none⟩ = some (.int .i64 C) ∧ w'.frozen? ⟨w.heap.size + 1 + 1 + 1, 10, none⟩ = false) ∧ (w'.cell? ⟨w.heap.size + 1 + 1 + 1, 11, none⟩ = some (cellV w' ⟨w.heap.size + 1 + 1 + 1, 11, none⟩) ∧ w'.frozen? ⟨w.heap.size + 1 + 1 + 1, 11, none⟩ = false) ∧ (w'.cell? ⟨w.heap.size + 1 + 1 + 1, 12, none⟩ = some (cellV w' ⟨w.heap.size + 1 + 1 + 1, 12, none⟩) ∧ w'.frozen? ⟨w.heap.size + 1 + 1 + 1, 12, none⟩ = false))
    ((go_split_ands; refine ⟨?_, ?_, ?_, ?_, ?_, ?_, ?_⟩ <;> (first | ((repeat (first | (with_reducible assumption) | ((with_reducible refine cell_set ?_ ?_ _); (· first | (simp; done) | (simp; omega) | omega)) | ((with_reducible refine cell_new ?_ ?_); (· (simp; done)); (· rfl)) | (with_reducible refine cell_alloc ?_ _) | (with_reducible refine cell_drew ?_) | (with_reducible refine cell_drewN ?_ _) | (with_reducible refine cell_below (by assumption) ?_))); done) | ((repeat (first | (refine ⟨?_, ?_⟩ <;> (with_reducible assumption)) | (with_reducible apply own_same) | ((with_reducible refine own_set ?_ ?_ _); (· first | (simp; done) | (simp; omega))) | ((with_reducible refine own_new ?_ ?_); (· (simp; done)); (· rfl)) | (with_reducible refine own_alloc ?_ _) | (with_reducible refine own_drew ?_) | (with_reducible refine own_drewN ?_ _) | (with_reducible refine own_below (by assumption) ?_))); done) | ((repeat (first | (refine ⟨?_, ?_⟩ <;> (with_reducible assumption)) | (with_reducible refine mine_set ?_ _ _) | ((with_reducible refine mine_new ?_ ?_); (· (simp; done)); (· rfl)) | (with_reducible refine mine_alloc ?_ _) | (with_reducible refine mine_drew ?_) | (with_reducible refine mine_drewN ?_ _) | (with_reducible refine mine_below (by assumption) ?_))); done))))
    (first
      | (go_at_call 41; (with_reducible refine (DI _).mono ?_); rintro e w' ⟨rfl, hb'⟩))
  rename_i hH
  clear hH q11a q11b q12a q12b
  have f41 : w'.cell? ⟨w.heap.size, 0, none⟩ = some (.int .i64 ax) := cell_below hb' (W := wz.drew) x22
  have zf41 : w.heap.size < w'.heap.size := World.block_lt_of_cell? _ _ f41
  have f42 : w'.cell? ⟨w.heap.size, 1, none⟩ = some (.int .i64 ay) := cell_below hb' (W := wz.drew) x23
  have f43 : w'.cell? ⟨w.heap.size + 1, 0, none⟩ = some (.int .i64 bx) := cell_below hb' (W := wz.drew) x24
  have zf43 : w.heap.size + 1 < w'.heap.size := World.block_lt_of_cell? _ _ f43
  have f44 : w'.cell? ⟨w.heap.size + 1, 1, none⟩ = some (.int .i64 b_y) := cell_below hb' (W := wz.drew) x25
  obtain ⟨o45a, o45b⟩ : w'.cell? ⟨w.heap.size + 1 + 1 + 1, 0, none⟩ = some (.int .u8 1) ∧ w'.frozen? ⟨w.heap.size + 1 + 1 + 1, 0, none⟩ = false := own_below (W := wz.drew) hb' ⟨x26a, x26b⟩
  obtain ⟨o46a, o46b⟩ : w'.cell? ⟨w.heap.size + 1 + 1 + 1, 1, none⟩ = some (.int .i64 ax) ∧ w'.frozen? ⟨w.heap.size + 1 + 1 + 1, 1, none⟩ = false := own_below (W := wz.drew) hb' ⟨x27a, x27b⟩
  obtain ⟨o47a, o47b⟩ : w'.cell? ⟨w.heap.size + 1 + 1 + 1, 2, none⟩ = some (.int .i64 ay) ∧ w'.frozen? ⟨w.heap.size + 1 + 1 + 1, 2, none⟩ = false := own_below (W := wz.drew) hb' ⟨x28a, x28b⟩
  obtain ⟨o48a, o48b⟩ : w'.cell? ⟨w.heap.size + 1 + 1 + 1, 3, none⟩ = some (.int .i64 bx) ∧ w'.frozen? ⟨w.heap.size + 1 + 1 + 1, 3, none⟩ = false := own_below (W := wz.drew) hb' ⟨x29a, x29b⟩
  obtain ⟨o49a, o49b⟩ : w'.cell? ⟨w.heap.size + 1 + 1 + 1, 4, none⟩ = some (.int .i64 b_y) ∧ w'.frozen? ⟨w.heap.size + 1 + 1 + 1, 4, none⟩ = false := own_below (W := wz.drew) hb' ⟨x30a, x30b⟩
  obtain ⟨o50a, o50b⟩ : w'.cell? ⟨w.heap.size + 1 + 1 + 1, 5, none⟩ = some (.int .i64 0) ∧ w'.frozen? ⟨w.heap.size + 1 + 1 + 1, 5, none⟩ = false := own_below (W := wz.drew) hb' ⟨x31a, x31b⟩
  obtain ⟨o51a, o51b⟩ : w'.cell? ⟨w.heap.size + 1 + 1 + 1, 6, none⟩ = some (.int .i64 0) ∧ w'.frozen? ⟨w.heap.size + 1 + 1 + 1, 6, none⟩ = false := own_below (W := wz.drew) hb' ⟨x32a, x32b⟩
  obtain ⟨o52a, o52b⟩ : w'.cell? ⟨w.heap.size + 1 + 1 + 1, 7, none⟩ = some (.int .i64 0) ∧ w'.frozen? ⟨w.heap.size + 1 + 1 + 1, 7, none⟩ = false := own_below (W := wz.drew) hb' ⟨x33a, x33b⟩
  obtain ⟨o53a, o53b⟩ : w'.cell? ⟨w.heap.size + 1 + 1 + 1, 8, none⟩ = some (.int .i64 0) ∧ w'.frozen? ⟨w.heap.size + 1 + 1 + 1, 8, none⟩ = false := own_below (W := wz.drew) hb' ⟨x34a, x34b⟩
  obtain ⟨o54a, o54b⟩ : w'.cell? ⟨w.heap.size + 1 + 1 + 1, 9, none⟩ = some (.int .i64 0) ∧ w'.frozen? ⟨w.heap.size + 1 + 1 + 1, 9, none⟩ = false := own_below (W := wz.drew) hb' ⟨x35a, x35b⟩
  obtain ⟨o55a, o55b⟩ : w'.cell? ⟨w.heap.size + 1 + 1 + 1, 10, none⟩ = some (.int .i64 C) ∧ w'.frozen? ⟨w.heap.size + 1 + 1 + 1, 10, none⟩ = false := own_below (W := wz.drew) hb' ⟨x36a, x36b⟩
  obtain ⟨o56a, o56b⟩ : w'.cell? ⟨w.heap.size + 1 + 1 + 1, 11, none⟩ = some (.int .i64 c) ∧ w'.frozen? ⟨w.heap.size + 1 + 1 + 1, 11, none⟩ = false := own_below (W := wz.drew) hb' ⟨x37a, x37b⟩
  obtain ⟨o57a, o57b⟩ : w'.cell? ⟨w.heap.size + 1 + 1 + 1, 12, none⟩ = some (.int .i64 0) ∧ w'.frozen? ⟨w.heap.size + 1 + 1 + 1, 12, none⟩ = false := own_below (W := wz.drew) hb' ⟨x38a, x38b⟩
  obtain ⟨o58a, o58b⟩ : w'.cell? ⟨w.heap.size + 1 + 1 + 1, 13, none⟩ = some (.int .i64 0) ∧ w'.frozen? ⟨w.heap.size + 1 + 1 + 1, 13, none⟩ = false := own_below (W := wz.drew) hb' ⟨x39a, x39b⟩
  obtain ⟨o59a, o59b⟩ : w'.cell? ⟨w.heap.size + 1 + 1 + 1, 14, none⟩ = some (.bool false) ∧ w'.frozen? ⟨w.heap.size + 1 + 1 + 1, 14, none⟩ = false := own_below (W := wz.drew) hb' ⟨x40a, x40b⟩
  clear x22 zzx22 x23 x24 zzx24 x25 x26a x26b zzx26a x27a x27b x28a x28b x29a x29b x30a x30b x31a x31b x32a x32b x33a x33b x34a x34b x35a x35b x36a x36b x37a x37b x38a x38b x39a x39b x40a x40b
  have hbz : Below w.heap.size w w' := below_sub hb' Bwz.drew
  have hres3 : Hid (((w'.setCell ⟨w.heap.size + 1 + 1 + 1, 11, none⟩ (.int .i64 C)).setCell ⟨w.heap.size + 1 + 1 + 1, 12, none⟩ (.int .i64 D)).heap[w.heap.size + 1 + 1]? = some (.cells #[.int .u8 0, .int .i64 0, .int .i64 0, .int .i64 0, .int .i64 0, .int .i64 0, .int .i64 0, .int .i64 0, .int .i64 0, .int .i64 0, .int .i64 0, .int .i64 0, .int .i64 0, .int .i64 0, .bool false] 77)) := hide (row_set (row_set (row_below hb' hres2.out) (by simp) _) (by simp) _)
  generalize hwwy : ((w'.setCell ⟨w.heap.size + 1 + 1 + 1, 11, none⟩ (.int .i64 C)).setCell ⟨w.heap.size + 1 + 1 + 1, 12, none⟩ (.int .i64 D)) = wy
  have ne60 : w.heap.size + 1 + 1 + 1 ≠ w.heap.size := by omega
  have ne61 : w.heap.size + 1 + 1 + 1 ≠ w.heap.size + 1 := by omega
  have x62 : wy.cell? ⟨w.heap.size, 0, none⟩ = some (.int .i64 ax) := by
    rw [← hwwy]; exact (cell_set ne60 (cell_set ne60 f41 _) _)
  have zzx62 : w.heap.size < wy.heap.size := World.block_lt_of_cell? _ _ x62
  have x63 : wy.cell? ⟨w.heap.size, 1, none⟩ = some (.int .i64 ay) := by
    rw [← hwwy]; exact (cell_set ne60 (cell_set ne60 f42 _) _)
  have x64 : wy.cell? ⟨w.heap.size + 1, 0, none⟩ = some (.int .i64 bx) := by
    rw [← hwwy]; exact (cell_set ne61 (cell_set ne61 f43 _) _)
  have zzx64 : w.heap.size + 1 < wy.heap.size := World.block_lt_of_cell? _ _ x64
  have x65 : wy.cell? ⟨w.heap.size + 1, 1, none⟩ = some (.int .i64 b_y) := by
    rw [← hwwy]; exact (cell_set ne61 (cell_set ne61 f44 _) _)
  obtain ⟨x66a, x66b⟩ : wy.cell? ⟨w.heap.size + 1 + 1 + 1, 0, none⟩ = some (.int .u8 1) ∧ wy.frozen? ⟨w.heap.size + 1 + 1 + 1, 0, none⟩ = false := by
    rw [← hwwy]; exact (own_set (by simp) (own_set (by simp) ⟨o45a, o45b⟩ _) _)
  have zzx66a : w.heap.size + 1 + 1 + 1 < wy.heap.size := World.block_lt_of_cell? _ _ x66a
  obtain ⟨x67a, x67b⟩ : wy.cell? ⟨w.heap.size + 1 + 1 + 1, 1, none⟩ = some (.int .i64 ax) ∧ wy.frozen? ⟨w.heap.size + 1 + 1 + 1, 1, none⟩ = false := by
    rw [← hwwy]; exact (own_set (by simp) (own_set (by simp) ⟨o46a, o46b⟩ _) _)
  obtain ⟨x68a, x68b⟩ : wy.cell? ⟨w.heap.size + 1 + 1 + 1, 2, none⟩ = some (.int .i64 ay) ∧ wy.frozen? ⟨w.heap.size + 1 + 1 + 1, 2, none⟩ = false := by
    rw [← hwwy]; exact (own_set (by simp) (own_set (by simp) ⟨o47a, o47b⟩ _) _)
  obtain ⟨x69a, x69b⟩ : wy.cell? ⟨w.heap.size + 1 + 1 + 1, 3, none⟩ = some (.int .i64 bx) ∧ wy.frozen? ⟨w.heap.size + 1 + 1 + 1, 3, none⟩ = false := by
    rw [← hwwy]; exact (own_set (by simp) (own_set (by simp) ⟨o48a, o48b⟩ _) _)
  obtain ⟨x70a, x70b⟩ : wy.cell? ⟨w.heap.size + 1 + 1 + 1, 4, none⟩ = some (.int .i64 b_y) ∧ wy.frozen? ⟨w.heap.size + 1 + 1 + 1, 4, none⟩ = false := by
    rw [← hwwy]; exact (own_set (by simp) (own_set (by simp) ⟨o49a, o49b⟩ _) _)
  obtain ⟨x71a, x71b⟩ : wy.cell? ⟨w.heap.size + 1 + 1 + 1, 5, none⟩ = some (.int .i64 0) ∧ wy.frozen? ⟨w.heap.size + 1 + 1 + 1, 5, none⟩ = false := by
    rw [← hwwy]; exact (own_set (by simp) (own_set (by simp) ⟨o50a, o50b⟩ _) _)
  obtain ⟨x72a, x72b⟩ : wy.cell? ⟨w.heap.size + 1 + 1 + 1, 6, none⟩ = some (.int .i64 0) ∧ wy.frozen? ⟨w.heap.size + 1 + 1 + 1, 6, none⟩ = false := by
    rw [← hwwy]; exact (own_set (by simp) (own_set (by simp) ⟨o51a, o51b⟩ _) _)
  obtain ⟨x73a, x73b⟩ : wy.cell? ⟨w.heap.size + 1 + 1 + 1, 7, none⟩ = some (.int .i64 0) ∧ wy.frozen? ⟨w.heap.size + 1 + 1 + 1, 7, none⟩ = false := by
    rw [← hwwy]; exact (own_set (by simp) (own_set (by simp) ⟨o52a, o52b⟩ _) _)
  obtain ⟨x74a, x74b⟩ : wy.cell? ⟨w.heap.size + 1 + 1 + 1, 8, none⟩ = some (.int .i64 0) ∧ wy.frozen? ⟨w.heap.size + 1 + 1 + 1, 8, none⟩ = false := by
    rw [← hwwy]; exact (own_set (by simp) (own_set (by simp) ⟨o53a, o53b⟩ _) _)
  obtain ⟨x75a, x75b⟩ : wy.cell? ⟨w.heap.size + 1 + 1 + 1, 9, none⟩ = some (.int .i64 0) ∧ wy.frozen? ⟨w.heap.size + 1 + 1 + 1, 9, none⟩ = false := by
    rw [← hwwy]; exact (own_set (by simp) (own_set (by simp) ⟨o54a, o54b⟩ _) _)
  obtain ⟨x76a, x76b⟩ : wy.cell? ⟨w.heap.size + 1 + 1 + 1, 10, none⟩ = some (.int .i64 C) ∧ wy.frozen? ⟨w.heap.size + 1 + 1 + 1, 10, none⟩ = false := by
    rw [← hwwy]; exact (own_set (by simp) (own_set (by simp) ⟨o55a, o55b⟩ _) _)
  obtain ⟨x77a, x77b⟩ : wy.cell? ⟨w.heap.size + 1 + 1 + 1, 11, none⟩ = some (.int .i64 C) ∧ wy.frozen? ⟨w.heap.size + 1 + 1 + 1, 11, none⟩ = false := by
    rw [← hwwy]; exact (own_set (by simp) (own_same ⟨o56a, o56b⟩ _) _)
  obtain ⟨x78a, x78b⟩ : wy.cell? ⟨w.heap.size + 1 + 1 + 1, 12, none⟩ = some (.int .i64 D) ∧ wy.frozen? ⟨w.heap.size + 1 + 1 + 1, 12, none⟩ = false := by
    rw [← hwwy]; exact (own_same (own_set (by simp) ⟨o57a, o57b⟩ _) _)
  obtain ⟨x79a, x79b⟩ : wy.cell? ⟨w.heap.size + 1 + 1 + 1, 13, none⟩ = some (.int .i64 0) ∧ wy.frozen? ⟨w.heap.size + 1 + 1 + 1, 13, none⟩ = false := by
    rw [← hwwy]; exact (own_set (by simp) (own_set (by simp) ⟨o58a, o58b⟩ _) _)
  obtain ⟨x80a, x80b⟩ : wy.cell? ⟨w.heap.size + 1 + 1 + 1, 14, none⟩ = some (.bool false) ∧ wy.frozen? ⟨w.heap.size + 1 + 1 + 1, 14, none⟩ = false := by
    rw [← hwwy]; exact (own_set (by simp) (own_set (by simp) ⟨o59a, o59b⟩ _) _)
  have Bwy : Below w.heap.size w wy := by
    rw [← hwwy]
    (repeat (with_reducible (first | assumption | exact Below.refl _ _ | refine Below.drew ?_ | refine below_drewN ?_ _ | refine below_set ?_ (by simp; try omega) _ | refine below_alloc ?_ (Nat.le_refl _) _ | refine below_sub (by assumption) ?_)))
  rw [hwwy] at hres3
  clear f41 zf41 f42 f43 zf43 f44 o45a o45b o46a o46b o47a o47b o48a o48b o49a o49b o50a o50b o51a o51b o52a o52b o53a o53b o54a o54b o55a o55b o56a o56b o57a o57b o58a o58b o59a o59b hwwy
  have hrow : Hid (rowsFrom wy (w.heap.size + 1 + 1 + 1) 0 [.int .u8 1, .int .i64 ax, .int .i64 ay, .int .i64 bx, .int .i64 b_y, .int .i64 0, .int .i64 0, .int .i64 0, .int .i64 0, .int .i64 0, .int .i64 C, .int .i64 C, .int .i64 D, .int .i64 0, .bool false]) := hide ⟨x66a, x67a, x68a, x69a, x70a, x71a, x72a, x73a, x74a, x75a, x76a, x77a, x78a, x79a, x80a, trivial⟩
  go_wp2_with (first
    | (refine wpl_load_list (ty := 77) rfl rfl rfl [.int .u8 1, .int .i64 ax, .int .i64 ay, .int .i64 bx, .int .i64 b_y, .int .i64 0, .int .i64 0, .int .i64 0, .int .i64 0, .int .i64 0, .int .i64 C, .int .i64 C, .int .i64 D, .int .i64 0, .bool false] Tryz.isAgg77 sizeT rfl (rowsFrom_get hrow.out) ?_)
    | (refine wpl_store_row (ty := 77) rfl rfl rfl rfl (hres3.out) sizeT rfl rfl (by simp [Value.oneCell']) ?_))
  exact bodyPost_ret (v := .agg #[.int .u8 1, .int .i64 ax, .int .i64 ay, .int .i64 bx, .int .i64 b_y, .int .i64 0, .int .i64 0, .int .i64 0, .int .i64 0, .int .i64 0, .int .i64 C, .int .i64 C, .int .i64 D, .int .i64 0, .bool false]) (results_row rfl _ _ _ _ _ _ hres3.out rfl _ Tryz.underlying77 sizeT) rfl ⟨rfl, by (repeat (with_reducible (first | assumption | exact Below.refl _ _ | refine Below.drew ?_ | refine below_drewN ?_ _ | ((refine below_setRow ?_ ?_ _); rotate_left; (· omega)) | refine below_set ?_ (by simp; try omega) _ | refine below_alloc ?_ (Nat.le_refl _) _ | refine below_sub (by assumption) ?_)))⟩
set_option maxRecDepth 100000 in
set_option maxHeartbeats 8000000 in
theorem straight_y (ax ay b_y c : Int) (C D : Int) (hC : Hid (courseF ax ay ax b_y = (C, 0))) (hD : Hid (distF ax ay ax b_y = D)) (hy : (ay == b_y) = false) (w : World) :
    Calls Tryz.prog 78 #[.agg #[.int .i64 ax, .int .i64 ay], .agg #[.int .i64 ax, .int .i64 b_y], .int .i64 c] w fun e w' => e = .returned (.agg #[.int .u8 1, .int .i64 ax, .int .i64 ay, .int .i64 ax, .int .i64 b_y, .int .i64 0, .int .i64 0, .int .i64 0, .int .i64 0, .int .i64 0, .int .i64 C, .int .i64 C, .int .i64 D, .int .i64 0, .bool false]) ∧ Below w.heap.size w w' := by
  have CO := fun W => course_any ax ay ax b_y W
  have DI := fun W => dist_any ax ay ax b_y W
  rw [hC.out] at CO
  rw [hD.out] at DI
  go_enter Tryz.func78, Tryz.ntmps78
  go_wp2_with (refine wpl_store_new (ty := 77) rfl rfl rfl rfl ?_ sizeT rfl rfl (by simp [Value.oneCell']) ?_; (· first | rfl | (simp; done)))
  refine (CO _).mono ?_
  rintro e w1 ⟨rfl, hb1⟩
  obtain ⟨f1, f2, f3, f4⟩ : w1.cell? ⟨w.heap.size, 0, none⟩ = some (.int .i64 ax) ∧ w1.cell? ⟨w.heap.size, 1, none⟩ = some (.int .i64 ay) ∧ w1.cell? ⟨w.heap.size + 1, 0, none⟩ = some (.int .i64 ax) ∧ w1.cell? ⟨w.heap.size + 1, 1, none⟩ = some (.int .i64 b_y) := by
    refine ⟨?_, ?_, ?_, ?_⟩ <;> (refine cell_below hb1 ?_; repeat (first | (with_reducible assumption) | ((with_reducible refine cell_set ?_ ?_ _); (· first | (simp; done) | (simp; omega) | omega)) | ((with_reducible refine cell_new ?_ ?_); (· (simp; done)); (· rfl)) | (with_reducible refine cell_alloc ?_ _) | (with_reducible refine cell_drew ?_) | (with_reducible refine cell_drewN ?_ _) | (with_reducible refine cell_below (by assumption) ?_)))
  have zf1 : w.heap.size < w1.heap.size := World.block_lt_of_cell? _ _ f1
  have zf3 : w.heap.size + 1 < w1.heap.size := World.block_lt_of_cell? _ _ f3
  obtain ⟨⟨o5a, o5b⟩, ⟨o6a, o6b⟩, ⟨o7a, o7b⟩, ⟨o8a, o8b⟩, ⟨o9a, o9b⟩, ⟨o10a, o10b⟩, ⟨o11a, o11b⟩, ⟨o12a, o12b⟩, ⟨o13a, o13b⟩, ⟨o14a, o14b⟩, ⟨o15a, o15b⟩, ⟨o16a, o16b⟩, ⟨o17a, o17b⟩, ⟨o18a, o18b⟩, ⟨o19a, o19b⟩⟩ : (w1.cell? ⟨w.heap.size + 1 + 1 + 1, 0, none⟩ = some (.int .u8 1) ∧ w1.frozen? ⟨w.heap.size + 1 + 1 + 1, 0, none⟩ = false) ∧ (w1.cell? ⟨w.heap.size + 1 + 1 + 1, 1, none⟩ = some (.int .i64 ax) ∧ w1.frozen? ⟨w.heap.size + 1 + 1 + 1, 1, none⟩ = false) ∧ (w1.cell? ⟨w.heap.size + 1 + 1 + 1, 2, none⟩ = some (.int .i64 ay) ∧ w1.frozen? ⟨w.heap.size + 1 + 1 + 1, 2, none⟩ = false) ∧ (w1.cell? ⟨w.heap.size + 1 + 1 + 1, 3, none⟩ = some (.int .i64 ax) ∧ w1.frozen? ⟨w.heap.size + 1 + 1 + 1, 3, none⟩ = false) ∧ (w1.cell? ⟨w.heap.size + 1 + 1 + 1, 4, none⟩ = some (.int .i64 b_y) ∧ w1.frozen? ⟨w.heap.size + 1 + 1 + 1, 4, none⟩ = false) ∧ (w1.cell? ⟨w.heap.size + 1 + 1 + 1, 5, none⟩ = some (.int .i64 0) ∧ w1.frozen? ⟨w.heap.size + 1 + 1 + 1, 5, none⟩ = false) ∧ (w1.cell? ⟨w.heap.size + 1 + 1 + 1, 6, none⟩ = some (.int .i64 0) ∧ w1.frozen? ⟨w.heap.size + 1 + 1 + 1, 6, none⟩ = false) ∧ (w1.cell? ⟨w.heap.size + 1 + 1 + 1, 7, none⟩ = some (.int .i64 0) ∧ w1.frozen? ⟨w.heap.size + 1 + 1 + 1, 7, none⟩ = false) ∧ (w1.cell? ⟨w.heap.size + 1 + 1 + 1, 8, none⟩ = some (.int .i64 0) ∧ w1.frozen? ⟨w.heap.size + 1 + 1 + 1, 8, none⟩ = false) ∧ (w1.cell? ⟨w.heap.size + 1 + 1 + 1, 9, none⟩ = some (.int .i64 0) ∧ w1.frozen? ⟨w.heap.size + 1 + 1 + 1, 9, none⟩ = false) ∧ (w1.cell? ⟨w.heap.size + 1 + 1 + 1, 10, none⟩ = some (.int .i64 c) ∧ w1.frozen? ⟨w.heap.size + 1 + 1 + 1, 10, none⟩ = false) ∧ (w1.cell? ⟨w.heap.size + 1 + 1 + 1, 11, none⟩ = some (.int .i64 c) ∧ w1.frozen? ⟨w.heap.size + 1 + 1 + 1, 11, none⟩ = false) ∧ (w1.cell? ⟨w.heap.size + 1 + 1 + 1, 12, none⟩ = some (.int .i64 0) ∧ w1.frozen? ⟨w.heap.size + 1 + 1 + 1, 12, none⟩ = false) ∧ (w1.cell? ⟨w.heap.size + 1 + 1 + 1, 13, none⟩ = some (.int .i64 0) ∧ w1.frozen? ⟨w.heap.size + 1 + 1 + 1, 13, none⟩ = false) ∧ (w1.cell? ⟨w.heap.size + 1 + 1 + 1, 14, none⟩ = some (.bool false) ∧ w1.frozen? ⟨w.heap.size + 1 + 1 + 1, 14, none⟩ = false) := by
    refine ⟨?_, ?_, ?_, ?_, ?_, ?_, ?_, ?_, ?_, ?_, ?_, ?_, ?_, ?_, ?_⟩ <;> (refine own_below hb1 ?_; repeat (first | (refine ⟨?_, ?_⟩ <;> (with_reducible assumption)) | (with_reducible apply own_same) | ((with_reducible refine own_set ?_ ?_ _); (· first | (simp; done) | (simp; omega))) | ((with_reducible refine own_new ?_ ?_); (· (simp; done)); (· rfl)) | (with_reducible refine own_alloc ?_ _) | (with_reducible refine own_drew ?_) | (with_reducible refine own_drewN ?_ _) | (with_reducible refine own_below (by assumption) ?_)))
  have zo5 : w.heap.size + 1 + 1 + 1 < w1.heap.size := World.block_lt_of_cell? _ _ o5a
  have hres : Hid (w1.heap[w.heap.size + 1 + 1]? = some (.cells #[.int .u8 0, .int .i64 0, .int .i64 0, .int .i64 0, .int .i64 0, .int .i64 0, .int .i64 0, .int .i64 0, .int .i64 0, .int .i64 0, .int .i64 0, .int .i64 0, .int .i64 0, .int .i64 0, .bool false] 77)) := hide (row_below hb1 (row_alloc (new_at _ _ _ (by simp)) _))
  go_wp2_with fail
  have hres2 : Hid ((w1.setCell ⟨w.heap.size + 1 + 1 + 1, 10, none⟩ (.int .i64 C)).heap[w.heap.size + 1 + 1]? = some (.cells #[.int .u8 0, .int .i64 0, .int .i64 0, .int .i64 0, .int .i64 0, .int .i64 0, .int .i64 0, .int .i64 0, .int .i64 0, .int .i64 0, .int .i64 0, .int .i64 0, .int .i64 0, .int .i64 0, .bool false] 77)) := hide (row_set hres.out (by simp) _)
  generalize hwwz : (w1.setCell ⟨w.heap.size + 1 + 1 + 1, 10, none⟩ (.int .i64 C)) = wz
  have ne20 : w.heap.size + 1 + 1 + 1 ≠ w.heap.size := by omega
  have ne21 : w.heap.size + 1 + 1 + 1 ≠ w.heap.size + 1 := by omega
  have x22 : wz.cell? ⟨w.heap.size, 0, none⟩ = some (.int .i64 ax) := by
    rw [← hwwz]; exact (cell_set ne20 f1 _)
  have zzx22 : w.heap.size < wz.heap.size := World.block_lt_of_cell? _ _ x22
  have x23 : wz.cell? ⟨w.heap.size, 1, none⟩ = some (.int .i64 ay) := by
    rw [← hwwz]; exact (cell_set ne20 f2 _)
  have x24 : wz.cell? ⟨w.heap.size + 1, 0, none⟩ = some (.int .i64 ax) := by
    rw [← hwwz]; exact (cell_set ne21 f3 _)
  have zzx24 : w.heap.size + 1 < wz.heap.size := World.block_lt_of_cell? _ _ x24
  have x25 : wz.cell? ⟨w.heap.size + 1, 1, none⟩ = some (.int .i64 b_y) := by
    rw [← hwwz]; exact (cell_set ne21 f4 _)
  obtain ⟨x26a, x26b⟩ : wz.cell? ⟨w.heap.size + 1 + 1 + 1, 0, none⟩ = some (.int .u8 1) ∧ wz.frozen? ⟨w.heap.size + 1 + 1 + 1, 0, none⟩ = false := by
    rw [← hwwz]; exact (own_set (by simp) ⟨o5a, o5b⟩ _)
  have zzx26a : w.heap.size + 1 + 1 + 1 < wz.heap.size := World.block_lt_of_cell? _ _ x26a
  obtain ⟨x27a, x27b⟩ : wz.cell? ⟨w.heap.size + 1 + 1 + 1, 1, none⟩ = some (.int .i64 ax) ∧ wz.frozen? ⟨w.heap.size + 1 + 1 + 1, 1, none⟩ = false := by
    rw [← hwwz]; exact (own_set (by simp) ⟨o6a, o6b⟩ _)
  obtain ⟨x28a, x28b⟩ : wz.cell? ⟨w.heap.size + 1 + 1 + 1, 2, none⟩ = some (.int .i64 ay) ∧ wz.frozen? ⟨w.heap.size + 1 + 1 + 1, 2, none⟩ = false := by
    rw [← hwwz]; exact (own_set (by simp) ⟨o7a, o7b⟩ _)
  obtain ⟨x29a, x29b⟩ : wz.cell? ⟨w.heap.size + 1 + 1 + 1, 3, none⟩ = some (.int .i64 ax) ∧ wz.frozen? ⟨w.heap.size + 1 + 1 + 1, 3, none⟩ = false := by
    rw [← hwwz]; exact (own_set (by simp) ⟨o8a, o8b⟩ _)
  obtain ⟨x30a, x30b⟩ : wz.cell? ⟨w.heap.size + 1 + 1 + 1, 4, none⟩ = some (.int .i64 b_y) ∧ wz.frozen? ⟨w.heap.size + 1 + 1 + 1, 4, none⟩ = false := by
    rw [← hwwz]; exact (own_set (by simp) ⟨o9a, o9b⟩ _)
  obtain ⟨x31a, x31b⟩ : wz.cell? ⟨w.heap.size + 1 + 1 + 1, 5, none⟩ = some (.int .i64 0) ∧ wz.frozen? ⟨w.heap.size + 1 + 1 + 1, 5, none⟩ = false := by
    rw [← hwwz]; exact (own_set (by simp) ⟨o10a, o10b⟩ _)
  obtain ⟨x32a, x32b⟩ : wz.cell? ⟨w.heap.size + 1 + 1 + 1, 6, none⟩ = some (.int .i64 0) ∧ wz.frozen? ⟨w.heap.size + 1 + 1 + 1, 6, none⟩ = false := by
    rw [← hwwz]; exact (own_set (by simp) ⟨o11a, o11b⟩ _)
  obtain ⟨x33a, x33b⟩ : wz.cell? ⟨w.heap.size + 1 + 1 + 1, 7, none⟩ = some (.int .i64 0) ∧ wz.frozen? ⟨w.heap.size + 1 + 1 + 1, 7, none⟩ = false := by
    rw [← hwwz]; exact (own_set (by simp) ⟨o12a, o12b⟩ _)
  obtain ⟨x34a, x34b⟩ : wz.cell? ⟨w.heap.size + 1 + 1 + 1, 8, none⟩ = some (.int .i64 0) ∧ wz.frozen? ⟨w.heap.size + 1 + 1 + 1, 8, none⟩ = false := by
    rw [← hwwz]; exact (own_set (by simp) ⟨o13a, o13b⟩ _)
  obtain ⟨x35a, x35b⟩ : wz.cell? ⟨w.heap.size + 1 + 1 + 1, 9, none⟩ = some (.int .i64 0) ∧ wz.frozen? ⟨w.heap.size + 1 + 1 + 1, 9, none⟩ = false := by
    rw [← hwwz]; exact (own_set (by simp) ⟨o14a, o14b⟩ _)
  obtain ⟨x36a, x36b⟩ : wz.cell? ⟨w.heap.size + 1 + 1 + 1, 10, none⟩ = some (.int .i64 C) ∧ wz.frozen? ⟨w.heap.size + 1 + 1 + 1, 10, none⟩ = false := by
    rw [← hwwz]; exact (own_same ⟨o15a, o15b⟩ _)
  obtain ⟨x37a, x37b⟩ : wz.cell? ⟨w.heap.size + 1 + 1 + 1, 11, none⟩ = some (.int .i64 c) ∧ wz.frozen? ⟨w.heap.size + 1 + 1 + 1, 11, none⟩ = false := by
    rw [← hwwz]; exact (own_set (by simp) ⟨o16a, o16b⟩ _)
  obtain ⟨x38a, x38b⟩ : wz.cell? ⟨w.heap.size + 1 + 1 + 1, 12, none⟩ = some (.int .i64 0) ∧ wz.frozen? ⟨w.heap.size + 1 + 1 + 1, 12, none⟩ = false := by
    rw [← hwwz]; exact (own_set (by simp) ⟨o17a, o17b⟩ _)
  obtain ⟨x39a, x39b⟩ : wz.cell? ⟨w.heap.size + 1 + 1 + 1, 13, none⟩ = some (.int .i64 0) ∧ wz.frozen? ⟨w.heap.size + 1 + 1 + 1, 13, none⟩ = false := by
    rw [← hwwz]; exact (own_set (by simp) ⟨o18a, o18b⟩ _)
  obtain ⟨x40a, x40b⟩ : wz.cell? ⟨w.heap.size + 1 + 1 + 1, 14, none⟩ = some (.bool false) ∧ wz.frozen? ⟨w.heap.size + 1 + 1 + 1, 14, none⟩ = false := by
    rw [← hwwz]; exact (own_set (by simp) ⟨o19a, o19b⟩ _)
  have Bwz : Below w.heap.size w wz := by
    rw [← hwwz]
    (repeat (with_reducible (first | assumption | exact Below.refl _ _ | refine Below.drew ?_ | refine below_drewN ?_ _ | refine below_set ?_ (by simp; try omega) _ | refine below_alloc ?_ (Nat.le_refl _) _ | refine below_sub (by assumption) ?_)))
  rw [hwwz] at hres2
  clear f1 zf1 f2 f3 zf3 f4 o5a o5b zo5 o6a o6b o7a o7b o8a o8b o9a o9b o10a o10b o11a o11b o12a o12b o13a o13b o14a o14b o15a o15b o16a o16b o17a o17b o18a o18b o19a o19b hwwz
  obtain ⟨q11a, q11b⟩ := mine_own ⟨x37a, x37b⟩
  obtain ⟨q12a, q12b⟩ := mine_own ⟨x38a, x38b⟩
  go_region_held3 (fun w' => w'.cell? ⟨w.heap.size, 0, none⟩ = some (.int .i64 ax) ∧ w'.cell? ⟨w.heap.size, 1, none⟩ = some (.int .i64 ay) ∧ w'.cell? ⟨w.heap.size + 1, 0, none⟩ = some (.int .i64 ax) ∧ w'.cell? ⟨w.heap.size + 1, 1, none⟩ = some (.int .i64 b_y) ∧ (w'.cell? ⟨w.heap.size + 1 + 1 + 1, 10, none⟩ = some (.int .i64 C) ∧ w'.frozen? ⟨w.heap.size + 1 + 1 + 1, 10, none⟩ = false) ∧ (w'.cell? ⟨w.heap.size + 1 + 1 + 1, 11, none⟩ = some (cellV w' ⟨w.heap.size + 1 + 1 + 1, 11, none⟩) ∧ w'.frozen? ⟨w.heap.size + 1 + 1 + 1, 11, none⟩ = false) ∧ (w'.cell? ⟨w.heap.size + 1 + 1 + 1, 12, none⟩ = some (cellV w' ⟨w.heap.size + 1 + 1 + 1, 12, none⟩) ∧ w'.frozen? ⟨w.heap.size + 1 + 1 + 1, 12, none⟩ = false))
    ((go_split_ands; refine ⟨?_, ?_, ?_, ?_, ?_, ?_, ?_⟩ <;> (first | ((repeat (first | (with_reducible assumption) | ((with_reducible refine cell_set ?_ ?_ _); (· first | (simp; done) | (simp; omega) | omega)) | ((with_reducible refine cell_new ?_ ?_); (· (simp; done)); (· rfl)) | (with_reducible refine cell_alloc ?_ _) | (with_reducible refine cell_drew ?_) | (with_reducible refine cell_drewN ?_ _) | (with_reducible refine cell_below (by assumption) ?_))); done) | ((repeat (first | (refine ⟨?_, ?_⟩ <;> (with_reducible assumption)) | (with_reducible apply own_same) | ((with_reducible refine own_set ?_ ?_ _); (· first | (simp; done) | (simp; omega))) | ((with_reducible refine own_new ?_ ?_); (· (simp; done)); (· rfl)) | (with_reducible refine own_alloc ?_ _) | (with_reducible refine own_drew ?_) | (with_reducible refine own_drewN ?_ _) | (with_reducible refine own_below (by assumption) ?_))); done) | ((repeat (first | (refine ⟨?_, ?_⟩ <;> (with_reducible assumption)) | (with_reducible refine mine_set ?_ _ _) | ((with_reducible refine mine_new ?_ ?_); (· (simp; done)); (· rfl)) | (with_reducible refine mine_alloc ?_ _) | (with_reducible refine mine_drew ?_) | (with_reducible refine mine_drewN ?_ _) | (with_reducible refine mine_below (by assumption) ?_))); done))))
    (first
      | (go_at_call 41; (with_reducible refine (DI _).mono ?_); rintro e w' ⟨rfl, hb'⟩))
  rename_i hH
  clear hH q11a q11b q12a q12b
  have f41 : w'.cell? ⟨w.heap.size, 0, none⟩ = some (.int .i64 ax) := cell_below hb' (W := wz.drew) x22
  have zf41 : w.heap.size < w'.heap.size := World.block_lt_of_cell? _ _ f41
  have f42 : w'.cell? ⟨w.heap.size, 1, none⟩ = some (.int .i64 ay) := cell_below hb' (W := wz.drew) x23
  have f43 : w'.cell? ⟨w.heap.size + 1, 0, none⟩ = some (.int .i64 ax) := cell_below hb' (W := wz.drew) x24
  have zf43 : w.heap.size + 1 < w'.heap.size := World.block_lt_of_cell? _ _ f43
  have f44 : w'.cell? ⟨w.heap.size + 1, 1, none⟩ = some (.int .i64 b_y) := cell_below hb' (W := wz.drew) x25
  obtain ⟨o45a, o45b⟩ : w'.cell? ⟨w.heap.size + 1 + 1 + 1, 0, none⟩ = some (.int .u8 1) ∧ w'.frozen? ⟨w.heap.size + 1 + 1 + 1, 0, none⟩ = false := own_below (W := wz.drew) hb' ⟨x26a, x26b⟩
  obtain ⟨o46a, o46b⟩ : w'.cell? ⟨w.heap.size + 1 + 1 + 1, 1, none⟩ = some (.int .i64 ax) ∧ w'.frozen? ⟨w.heap.size + 1 + 1 + 1, 1, none⟩ = false := own_below (W := wz.drew) hb' ⟨x27a, x27b⟩
  obtain ⟨o47a, o47b⟩ : w'.cell? ⟨w.heap.size + 1 + 1 + 1, 2, none⟩ = some (.int .i64 ay) ∧ w'.frozen? ⟨w.heap.size + 1 + 1 + 1, 2, none⟩ = false := own_below (W := wz.drew) hb' ⟨x28a, x28b⟩
  obtain ⟨o48a, o48b⟩ : w'.cell? ⟨w.heap.size + 1 + 1 + 1, 3, none⟩ = some (.int .i64 ax) ∧ w'.frozen? ⟨w.heap.size + 1 + 1 + 1, 3, none⟩ = false := own_below (W := wz.drew) hb' ⟨x29a, x29b⟩
  obtain ⟨o49a, o49b⟩ : w'.cell? ⟨w.heap.size + 1 + 1 + 1, 4, none⟩ = some (.int .i64 b_y) ∧ w'.frozen? ⟨w.heap.size + 1 + 1 + 1, 4, none⟩ = false := own_below (W := wz.drew) hb' ⟨x30a, x30b⟩
  obtain ⟨o50a, o50b⟩ : w'.cell? ⟨w.heap.size + 1 + 1 + 1, 5, none⟩ = some (.int .i64 0) ∧ w'.frozen? ⟨w.heap.size + 1 + 1 + 1, 5, none⟩ = false := own_below (W := wz.drew) hb' ⟨x31a, x31b⟩
  obtain ⟨o51a, o51b⟩ : w'.cell? ⟨w.heap.size + 1 + 1 + 1, 6, none⟩ = some (.int .i64 0) ∧ w'.frozen? ⟨w.heap.size + 1 + 1 + 1, 6, none⟩ = false := own_below (W := wz.drew) hb' ⟨x32a, x32b⟩
  obtain ⟨o52a, o52b⟩ : w'.cell? ⟨w.heap.size + 1 + 1 + 1, 7, none⟩ = some (.int .i64 0) ∧ w'.frozen? ⟨w.heap.size + 1 + 1 + 1, 7, none⟩ = false := own_below (W := wz.drew) hb' ⟨x33a, x33b⟩
  obtain ⟨o53a, o53b⟩ : w'.cell? ⟨w.heap.size + 1 + 1 + 1, 8, none⟩ = some (.int .i64 0) ∧ w'.frozen? ⟨w.heap.size + 1 + 1 + 1, 8, none⟩ = false := own_below (W := wz.drew) hb' ⟨x34a, x34b⟩
  obtain ⟨o54a, o54b⟩ : w'.cell? ⟨w.heap.size + 1 + 1 + 1, 9, none⟩ = some (.int .i64 0) ∧ w'.frozen? ⟨w.heap.size + 1 + 1 + 1, 9, none⟩ = false := own_below (W := wz.drew) hb' ⟨x35a, x35b⟩
  obtain ⟨o55a, o55b⟩ : w'.cell? ⟨w.heap.size + 1 + 1 + 1, 10, none⟩ = some (.int .i64 C) ∧ w'.frozen? ⟨w.heap.size + 1 + 1 + 1, 10, none⟩ = false := own_below (W := wz.drew) hb' ⟨x36a, x36b⟩
  obtain ⟨o56a, o56b⟩ : w'.cell? ⟨w.heap.size + 1 + 1 + 1, 11, none⟩ = some (.int .i64 c) ∧ w'.frozen? ⟨w.heap.size + 1 + 1 + 1, 11, none⟩ = false := own_below (W := wz.drew) hb' ⟨x37a, x37b⟩
  obtain ⟨o57a, o57b⟩ : w'.cell? ⟨w.heap.size + 1 + 1 + 1, 12, none⟩ = some (.int .i64 0) ∧ w'.frozen? ⟨w.heap.size + 1 + 1 + 1, 12, none⟩ = false := own_below (W := wz.drew) hb' ⟨x38a, x38b⟩
  obtain ⟨o58a, o58b⟩ : w'.cell? ⟨w.heap.size + 1 + 1 + 1, 13, none⟩ = some (.int .i64 0) ∧ w'.frozen? ⟨w.heap.size + 1 + 1 + 1, 13, none⟩ = false := own_below (W := wz.drew) hb' ⟨x39a, x39b⟩
  obtain ⟨o59a, o59b⟩ : w'.cell? ⟨w.heap.size + 1 + 1 + 1, 14, none⟩ = some (.bool false) ∧ w'.frozen? ⟨w.heap.size + 1 + 1 + 1, 14, none⟩ = false := own_below (W := wz.drew) hb' ⟨x40a, x40b⟩
  clear x22 zzx22 x23 x24 zzx24 x25 x26a x26b zzx26a x27a x27b x28a x28b x29a x29b x30a x30b x31a x31b x32a x32b x33a x33b x34a x34b x35a x35b x36a x36b x37a x37b x38a x38b x39a x39b x40a x40b
  have hbz : Below w.heap.size w w' := below_sub hb' Bwz.drew
  have hres3 : Hid (((w'.setCell ⟨w.heap.size + 1 + 1 + 1, 11, none⟩ (.int .i64 C)).setCell ⟨w.heap.size + 1 + 1 + 1, 12, none⟩ (.int .i64 D)).heap[w.heap.size + 1 + 1]? = some (.cells #[.int .u8 0, .int .i64 0, .int .i64 0, .int .i64 0, .int .i64 0, .int .i64 0, .int .i64 0, .int .i64 0, .int .i64 0, .int .i64 0, .int .i64 0, .int .i64 0, .int .i64 0, .int .i64 0, .bool false] 77)) := hide (row_set (row_set (row_below hb' hres2.out) (by simp) _) (by simp) _)
  generalize hwwy : ((w'.setCell ⟨w.heap.size + 1 + 1 + 1, 11, none⟩ (.int .i64 C)).setCell ⟨w.heap.size + 1 + 1 + 1, 12, none⟩ (.int .i64 D)) = wy
  have ne60 : w.heap.size + 1 + 1 + 1 ≠ w.heap.size := by omega
  have ne61 : w.heap.size + 1 + 1 + 1 ≠ w.heap.size + 1 := by omega
  have x62 : wy.cell? ⟨w.heap.size, 0, none⟩ = some (.int .i64 ax) := by
    rw [← hwwy]; exact (cell_set ne60 (cell_set ne60 f41 _) _)
  have zzx62 : w.heap.size < wy.heap.size := World.block_lt_of_cell? _ _ x62
  have x63 : wy.cell? ⟨w.heap.size, 1, none⟩ = some (.int .i64 ay) := by
    rw [← hwwy]; exact (cell_set ne60 (cell_set ne60 f42 _) _)
  have x64 : wy.cell? ⟨w.heap.size + 1, 0, none⟩ = some (.int .i64 ax) := by
    rw [← hwwy]; exact (cell_set ne61 (cell_set ne61 f43 _) _)
  have zzx64 : w.heap.size + 1 < wy.heap.size := World.block_lt_of_cell? _ _ x64
  have x65 : wy.cell? ⟨w.heap.size + 1, 1, none⟩ = some (.int .i64 b_y) := by
    rw [← hwwy]; exact (cell_set ne61 (cell_set ne61 f44 _) _)
  obtain ⟨x66a, x66b⟩ : wy.cell? ⟨w.heap.size + 1 + 1 + 1, 0, none⟩ = some (.int .u8 1) ∧ wy.frozen? ⟨w.heap.size + 1 + 1 + 1, 0, none⟩ = false := by
    rw [← hwwy]; exact (own_set (by simp) (own_set (by simp) ⟨o45a, o45b⟩ _) _)
  have zzx66a : w.heap.size + 1 + 1 + 1 < wy.heap.size := World.block_lt_of_cell? _ _ x66a
  obtain ⟨x67a, x67b⟩ : wy.cell? ⟨w.heap.size + 1 + 1 + 1, 1, none⟩ = some (.int .i64 ax) ∧ wy.frozen? ⟨w.heap.size + 1 + 1 + 1, 1, none⟩ = false := by
    rw [← hwwy]; exact (own_set (by simp) (own_set (by simp) ⟨o46a, o46b⟩ _) _)
  obtain ⟨x68a, x68b⟩ : wy.cell? ⟨w.heap.size + 1 + 1 + 1, 2, none⟩ = some (.int .i64 ay) ∧ wy.frozen? ⟨w.heap.size + 1 + 1 + 1, 2, none⟩ = false := by
    rw [← hwwy]; exact (own_set (by simp) (own_set (by simp) ⟨o47a, o47b⟩ _) _)
  obtain ⟨x69a, x69b⟩ : wy.cell? ⟨w.heap.size + 1 + 1 + 1, 3, none⟩ = some (.int .i64 ax) ∧ wy.frozen? ⟨w.heap.size + 1 + 1 + 1, 3, none⟩ = false := by
    rw [← hwwy]; exact (own_set (by simp) (own_set (by simp) ⟨o48a, o48b⟩ _) _)
  obtain ⟨x70a, x70b⟩ : wy.cell? ⟨w.heap.size + 1 + 1 + 1, 4, none⟩ = some (.int .i64 b_y) ∧ wy.frozen? ⟨w.heap.size + 1 + 1 + 1, 4, none⟩ = false := by
    rw [← hwwy]; exact (own_set (by simp) (own_set (by simp) ⟨o49a, o49b⟩ _) _)
  obtain ⟨x71a, x71b⟩ : wy.cell? ⟨w.heap.size + 1 + 1 + 1, 5, none⟩ = some (.int .i64 0) ∧ wy.frozen? ⟨w.heap.size + 1 + 1 + 1, 5, none⟩ = false := by
    rw [← hwwy]; exact (own_set (by simp) (own_set (by simp) ⟨o50a, o50b⟩ _) _)
  obtain ⟨x72a, x72b⟩ : wy.cell? ⟨w.heap.size + 1 + 1 + 1, 6, none⟩ = some (.int .i64 0) ∧ wy.frozen? ⟨w.heap.size + 1 + 1 + 1, 6, none⟩ = false := by
    rw [← hwwy]; exact (own_set (by simp) (own_set (by simp) ⟨o51a, o51b⟩ _) _)
  obtain ⟨x73a, x73b⟩ : wy.cell? ⟨w.heap.size + 1 + 1 + 1, 7, none⟩ = some (.int .i64 0) ∧ wy.frozen? ⟨w.heap.size + 1 + 1 + 1, 7, none⟩ = false := by
    rw [← hwwy]; exact (own_set (by simp) (own_set (by simp) ⟨o52a, o52b⟩ _) _)
  obtain ⟨x74a, x74b⟩ : wy.cell? ⟨w.heap.size + 1 + 1 + 1, 8, none⟩ = some (.int .i64 0) ∧ wy.frozen? ⟨w.heap.size + 1 + 1 + 1, 8, none⟩ = false := by
    rw [← hwwy]; exact (own_set (by simp) (own_set (by simp) ⟨o53a, o53b⟩ _) _)
  obtain ⟨x75a, x75b⟩ : wy.cell? ⟨w.heap.size + 1 + 1 + 1, 9, none⟩ = some (.int .i64 0) ∧ wy.frozen? ⟨w.heap.size + 1 + 1 + 1, 9, none⟩ = false := by
    rw [← hwwy]; exact (own_set (by simp) (own_set (by simp) ⟨o54a, o54b⟩ _) _)
  obtain ⟨x76a, x76b⟩ : wy.cell? ⟨w.heap.size + 1 + 1 + 1, 10, none⟩ = some (.int .i64 C) ∧ wy.frozen? ⟨w.heap.size + 1 + 1 + 1, 10, none⟩ = false := by
    rw [← hwwy]; exact (own_set (by simp) (own_set (by simp) ⟨o55a, o55b⟩ _) _)
  obtain ⟨x77a, x77b⟩ : wy.cell? ⟨w.heap.size + 1 + 1 + 1, 11, none⟩ = some (.int .i64 C) ∧ wy.frozen? ⟨w.heap.size + 1 + 1 + 1, 11, none⟩ = false := by
    rw [← hwwy]; exact (own_set (by simp) (own_same ⟨o56a, o56b⟩ _) _)
  obtain ⟨x78a, x78b⟩ : wy.cell? ⟨w.heap.size + 1 + 1 + 1, 12, none⟩ = some (.int .i64 D) ∧ wy.frozen? ⟨w.heap.size + 1 + 1 + 1, 12, none⟩ = false := by
    rw [← hwwy]; exact (own_same (own_set (by simp) ⟨o57a, o57b⟩ _) _)
  obtain ⟨x79a, x79b⟩ : wy.cell? ⟨w.heap.size + 1 + 1 + 1, 13, none⟩ = some (.int .i64 0) ∧ wy.frozen? ⟨w.heap.size + 1 + 1 + 1, 13, none⟩ = false := by
    rw [← hwwy]; exact (own_set (by simp) (own_set (by simp) ⟨o58a, o58b⟩ _) _)
  obtain ⟨x80a, x80b⟩ : wy.cell? ⟨w.heap.size + 1 + 1 + 1, 14, none⟩ = some (.bool false) ∧ wy.frozen? ⟨w.heap.size + 1 + 1 + 1, 14, none⟩ = false := by
    rw [← hwwy]; exact (own_set (by simp) (own_set (by simp) ⟨o59a, o59b⟩ _) _)
  have Bwy : Below w.heap.size w wy := by
    rw [← hwwy]
    (repeat (with_reducible (first | assumption | exact Below.refl _ _ | refine Below.drew ?_ | refine below_drewN ?_ _ | refine below_set ?_ (by simp; try omega) _ | refine below_alloc ?_ (Nat.le_refl _) _ | refine below_sub (by assumption) ?_)))
  rw [hwwy] at hres3
  clear f41 zf41 f42 f43 zf43 f44 o45a o45b o46a o46b o47a o47b o48a o48b o49a o49b o50a o50b o51a o51b o52a o52b o53a o53b o54a o54b o55a o55b o56a o56b o57a o57b o58a o58b o59a o59b hwwy
  have hrow : Hid (rowsFrom wy (w.heap.size + 1 + 1 + 1) 0 [.int .u8 1, .int .i64 ax, .int .i64 ay, .int .i64 ax, .int .i64 b_y, .int .i64 0, .int .i64 0, .int .i64 0, .int .i64 0, .int .i64 0, .int .i64 C, .int .i64 C, .int .i64 D, .int .i64 0, .bool false]) := hide ⟨x66a, x67a, x68a, x69a, x70a, x71a, x72a, x73a, x74a, x75a, x76a, x77a, x78a, x79a, x80a, trivial⟩
  go_wp2_with (first
    | (refine wpl_load_list (ty := 77) rfl rfl rfl [.int .u8 1, .int .i64 ax, .int .i64 ay, .int .i64 ax, .int .i64 b_y, .int .i64 0, .int .i64 0, .int .i64 0, .int .i64 0, .int .i64 0, .int .i64 C, .int .i64 C, .int .i64 D, .int .i64 0, .bool false] Tryz.isAgg77 sizeT rfl (rowsFrom_get hrow.out) ?_)
    | (refine wpl_store_row (ty := 77) rfl rfl rfl rfl (hres3.out) sizeT rfl rfl (by simp [Value.oneCell']) ?_))
  exact bodyPost_ret (v := .agg #[.int .u8 1, .int .i64 ax, .int .i64 ay, .int .i64 ax, .int .i64 b_y, .int .i64 0, .int .i64 0, .int .i64 0, .int .i64 0, .int .i64 0, .int .i64 C, .int .i64 C, .int .i64 D, .int .i64 0, .bool false]) (results_row rfl _ _ _ _ _ _ hres3.out rfl _ Tryz.underlying77 sizeT) rfl ⟨rfl, by (repeat (with_reducible (first | assumption | exact Below.refl _ _ | refine Below.drew ?_ | refine below_drewN ?_ _ | ((refine below_setRow ?_ ?_ _); rotate_left; (· omega)) | refine below_set ?_ (by simp; try omega) _ | refine below_alloc ?_ (Nat.le_refl _) _ | refine below_sub (by assumption) ?_)))⟩
end Go.Proofs.YtapgmnjpfcohhaaGreatDoor
