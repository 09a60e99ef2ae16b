/-
  The walk of Past: whether a point is beyond the end of an element.
-/
import Derived.Test.YtdfkkknkiioghaaGreatMTurnC
import Derived.Test.YtdfkkknkiioghaaGreatMSeqP
namespace Go.Proofs.YtdfkkknkiioghaaGreat
open Go.RowKit
set_option linter.unusedVariables false
set_option linter.unusedSimpArgs false
set_option maxRecDepth 100000 in
set_option maxHeartbeats 4000000 in
theorem overp_bad (ax ay bx b_y cx cy r f s L n px py : Int) (c g : Bool) (q a b : Bool) (hq : vldB px py = q) (ha : vldB ax ay = a) (hb : vldB bx b_y = b) (h : (q && a && b) = false) (w : World) :
    Calls Tryz.prog 13 #[.agg #[.bool c, .int .i64 ax, .int .i64 ay, .int .i64 bx, .int .i64 b_y, .int .i64 cx, .int .i64 cy, .int .i64 r, .int .i64 f, .int .i64 s, .int .i64 L, .int .i64 n, .bool g], .agg #[.int .i64 px, .int .i64 py]] w fun e w' => e = .returned (.bool false) ∧ Below w.heap.size w w' := by
  have PQ := fun W => pvalid_e px py q hq W
  have PA := fun W => pvalid_e ax ay a ha W
  have PB := fun W => pvalid_e bx b_y b hb W
  clear hq ha hb
  rcases q with _ | _
  · clear h PA PB
    go_enter Tryz.func13, Tryz.ntmps13
    go_wp2_with fail
    refine (PQ _).mono ?_
    rintro e w1 ⟨rfl, hb1⟩
    obtain ⟨f1, f2, f3, f4, f5, f6, f7, f8, f9, f10, f11, f12, f13, f14, f15⟩ : w1.cell? ⟨w.heap.size, 0, none⟩ = some (.bool c) ∧ w1.cell? ⟨w.heap.size, 1, none⟩ = some (.int .i64 ax) ∧ w1.cell? ⟨w.heap.size, 2, none⟩ = some (.int .i64 ay) ∧ w1.cell? ⟨w.heap.size, 3, none⟩ = some (.int .i64 bx) ∧ w1.cell? ⟨w.heap.size, 4, none⟩ = some (.int .i64 b_y) ∧ w1.cell? ⟨w.heap.size, 5, none⟩ = some (.int .i64 cx) ∧ w1.cell? ⟨w.heap.size, 6, none⟩ = some (.int .i64 cy) ∧ w1.cell? ⟨w.heap.size, 7, none⟩ = some (.int .i64 r) ∧ w1.cell? ⟨w.heap.size, 8, none⟩ = some (.int .i64 f) ∧ w1.cell? ⟨w.heap.size, 9, none⟩ = some (.int .i64 s) ∧ w1.cell? ⟨w.heap.size, 10, none⟩ = some (.int .i64 L) ∧ w1.cell? ⟨w.heap.size, 11, none⟩ = some (.int .i64 n) ∧ w1.cell? ⟨w.heap.size, 12, none⟩ = some (.bool g) ∧ w1.cell? ⟨w.heap.size + 1, 0, none⟩ = some (.int .i64 px) ∧ w1.cell? ⟨w.heap.size + 1, 1, none⟩ = some (.int .i64 py) := by
      refine ⟨?_, ?_, ?_, ?_, ?_, ?_, ?_, ?_, ?_, ?_, ?_, ?_, ?_, ?_, ?_⟩ <;> (refine cell_below hb1 ?_; repeat (first | (with_reducible assumption) | ((with_reducible refine cell_set ?_ ?_ _); (· first | (simp; done) | (simp; omega) | omega)) | ((with_reducible refine cell_new ?_ ?_); (· (simp; done)); (· rfl)) | (with_reducible refine cell_alloc ?_ _) | (with_reducible refine cell_drew ?_) | (with_reducible refine cell_drewN ?_ _) | (with_reducible refine cell_below (by assumption) ?_)))
    have zf1 : w.heap.size < w1.heap.size := World.block_lt_of_cell? _ _ f1
    have zf14 : w.heap.size + 1 < w1.heap.size := World.block_lt_of_cell? _ _ f14
    go_wp2_with fail
    all_goals
      go_ret
      exact ⟨rfl, by (repeat (with_reducible (first | assumption | exact Below.refl _ _ | refine Below.drew ?_ | refine below_drewN ?_ _ | refine below_set ?_ (by simp; try omega) _ | refine below_alloc ?_ (Nat.le_refl _) _ | refine below_sub (by assumption) ?_)))⟩
  rcases a with _ | _
  · clear h PB
    go_enter Tryz.func13, Tryz.ntmps13
    go_wp2_with fail
    refine (PQ _).mono ?_
    rintro e w1 ⟨rfl, hb1⟩
    obtain ⟨f1, f2, f3, f4, f5, f6, f7, f8, f9, f10, f11, f12, f13, f14, f15⟩ : w1.cell? ⟨w.heap.size, 0, none⟩ = some (.bool c) ∧ w1.cell? ⟨w.heap.size, 1, none⟩ = some (.int .i64 ax) ∧ w1.cell? ⟨w.heap.size, 2, none⟩ = some (.int .i64 ay) ∧ w1.cell? ⟨w.heap.size, 3, none⟩ = some (.int .i64 bx) ∧ w1.cell? ⟨w.heap.size, 4, none⟩ = some (.int .i64 b_y) ∧ w1.cell? ⟨w.heap.size, 5, none⟩ = some (.int .i64 cx) ∧ w1.cell? ⟨w.heap.size, 6, none⟩ = some (.int .i64 cy) ∧ w1.cell? ⟨w.heap.size, 7, none⟩ = some (.int .i64 r) ∧ w1.cell? ⟨w.heap.size, 8, none⟩ = some (.int .i64 f) ∧ w1.cell? ⟨w.heap.size, 9, none⟩ = some (.int .i64 s) ∧ w1.cell? ⟨w.heap.size, 10, none⟩ = some (.int .i64 L) ∧ w1.cell? ⟨w.heap.size, 11, none⟩ = some (.int .i64 n) ∧ w1.cell? ⟨w.heap.size, 12, none⟩ = some (.bool g) ∧ w1.cell? ⟨w.heap.size + 1, 0, none⟩ = some (.int .i64 px) ∧ w1.cell? ⟨w.heap.size + 1, 1, none⟩ = some (.int .i64 py) := by
      refine ⟨?_, ?_, ?_, ?_, ?_, ?_, ?_, ?_, ?_, ?_, ?_, ?_, ?_, ?_, ?_⟩ <;> (refine cell_below hb1 ?_; repeat (first | (with_reducible assumption) | ((with_reducible refine cell_set ?_ ?_ _); (· first | (simp; done) | (simp; omega) | omega)) | ((with_reducible refine cell_new ?_ ?_); (· (simp; done)); (· rfl)) | (with_reducible refine cell_alloc ?_ _) | (with_reducible refine cell_drew ?_) | (with_reducible refine cell_drewN ?_ _) | (with_reducible refine cell_below (by assumption) ?_)))
    have zf1 : w.heap.size < w1.heap.size := World.block_lt_of_cell? _ _ f1
    have zf14 : w.heap.size + 1 < w1.heap.size := World.block_lt_of_cell? _ _ f14
    go_wp2_with fail
    refine (PA _).mono ?_
    rintro e w2 ⟨rfl, hb2⟩
    obtain ⟨f16, f17, f18, f19, f20, f21, f22, f23, f24, f25, f26, f27, f28, f29, f30⟩ : w2.cell? ⟨w.heap.size, 0, none⟩ = some (.bool c) ∧ w2.cell? ⟨w.heap.size, 1, none⟩ = some (.int .i64 ax) ∧ w2.cell? ⟨w.heap.size, 2, none⟩ = some (.int .i64 ay) ∧ w2.cell? ⟨w.heap.size, 3, none⟩ = some (.int .i64 bx) ∧ w2.cell? ⟨w.heap.size, 4, none⟩ = some (.int .i64 b_y) ∧ w2.cell? ⟨w.heap.size, 5, none⟩ = some (.int .i64 cx) ∧ w2.cell? ⟨w.heap.size, 6, none⟩ = some (.int .i64 cy) ∧ w2.cell? ⟨w.heap.size, 7, none⟩ = some (.int .i64 r) ∧ w2.cell? ⟨w.heap.size, 8, none⟩ = some (.int .i64 f) ∧ w2.cell? ⟨w.heap.size, 9, none⟩ = some (.int .i64 s) ∧ w2.cell? ⟨w.heap.size, 10, none⟩ = some (.int .i64 L) ∧ w2.cell? ⟨w.heap.size, 11, none⟩ = some (.int .i64 n) ∧ w2.cell? ⟨w.heap.size, 12, none⟩ = some (.bool g) ∧ w2.cell? ⟨w.heap.size + 1, 0, none⟩ = some (.int .i64 px) ∧ w2.cell? ⟨w.heap.size + 1, 1, none⟩ = some (.int .i64 py) := by
      refine ⟨?_, ?_, ?_, ?_, ?_, ?_, ?_, ?_, ?_, ?_, ?_, ?_, ?_, ?_, ?_⟩ <;> (refine cell_below hb2 ?_; repeat (first | (with_reducible assumption) | ((with_reducible refine cell_set ?_ ?_ _); (· first | (simp; done) | (simp; omega) | omega)) | ((with_reducible refine cell_new ?_ ?_); (· (simp; done)); (· rfl)) | (with_reducible refine cell_alloc ?_ _) | (with_reducible refine cell_drew ?_) | (with_reducible refine cell_drewN ?_ _) | (with_reducible refine cell_below (by assumption) ?_)))
    have zf16 : w.heap.size < w2.heap.size := World.block_lt_of_cell? _ _ f16
    have zf29 : w.heap.size + 1 < w2.heap.size := World.block_lt_of_cell? _ _ f29
    clear f1 zf1 f2 f3 f4 f5 f6 f7 f8 f9 f10 f11 f12 f13 f14 zf14 f15
    go_wp2_with fail
    all_goals
      go_ret
      exact ⟨rfl, by (repeat (with_reducible (first | assumption | exact Below.refl _ _ | refine Below.drew ?_ | refine below_drewN ?_ _ | refine below_set ?_ (by simp; try omega) _ | refine below_alloc ?_ (Nat.le_refl _) _ | refine below_sub (by assumption) ?_)))⟩
  · obtain rfl : b = false := h
    go_enter Tryz.func13, Tryz.ntmps13
    go_wp2_with fail
    refine (PQ _).mono ?_
    rintro e w1 ⟨rfl, hb1⟩
    obtain ⟨f1, f2, f3, f4, f5, f6, f7, f8, f9, f10, f11, f12, f13, f14, f15⟩ : w1.cell? ⟨w.heap.size, 0, none⟩ = some (.bool c) ∧ w1.cell? ⟨w.heap.size, 1, none⟩ = some (.int .i64 ax) ∧ w1.cell? ⟨w.heap.size, 2, none⟩ = some (.int .i64 ay) ∧ w1.cell? ⟨w.heap.size, 3, none⟩ = some (.int .i64 bx) ∧ w1.cell? ⟨w.heap.size, 4, none⟩ = some (.int .i64 b_y) ∧ w1.cell? ⟨w.heap.size, 5, none⟩ = some (.int .i64 cx) ∧ w1.cell? ⟨w.heap.size, 6, none⟩ = some (.int .i64 cy) ∧ w1.cell? ⟨w.heap.size, 7, none⟩ = some (.int .i64 r) ∧ w1.cell? ⟨w.heap.size, 8, none⟩ = some (.int .i64 f) ∧ w1.cell? ⟨w.heap.size, 9, none⟩ = some (.int .i64 s) ∧ w1.cell? ⟨w.heap.size, 10, none⟩ = some (.int .i64 L) ∧ w1.cell? ⟨w.heap.size, 11, none⟩ = some (.int .i64 n) ∧ w1.cell? ⟨w.heap.size, 12, none⟩ = some (.bool g) ∧ w1.cell? ⟨w.heap.size + 1, 0, none⟩ = some (.int .i64 px) ∧ w1.cell? ⟨w.heap.size + 1, 1, none⟩ = some (.int .i64 py) := by
      refine ⟨?_, ?_, ?_, ?_, ?_, ?_, ?_, ?_, ?_, ?_, ?_, ?_, ?_, ?_, ?_⟩ <;> (refine cell_below hb1 ?_; repeat (first | (with_reducible assumption) | ((with_reducible refine cell_set ?_ ?_ _); (· first | (simp; done) | (simp; omega) | omega)) | ((with_reducible refine cell_new ?_ ?_); (· (simp; done)); (· rfl)) | (with_reducible refine cell_alloc ?_ _) | (with_reducible refine cell_drew ?_) | (with_reducible refine cell_drewN ?_ _) | (with_reducible refine cell_below (by assumption) ?_)))
    have zf1 : w.heap.size < w1.heap.size := World.block_lt_of_cell? _ _ f1
    have zf14 : w.heap.size + 1 < w1.heap.size := World.block_lt_of_cell? _ _ f14
    go_wp2_with fail
    refine (PA _).mono ?_
    rintro e w2 ⟨rfl, hb2⟩
    obtain ⟨f16, f17, f18, f19, f20, f21, f22, f23, f24, f25, f26, f27, f28, f29, f30⟩ : w2.cell? ⟨w.heap.size, 0, none⟩ = some (.bool c) ∧ w2.cell? ⟨w.heap.size, 1, none⟩ = some (.int .i64 ax) ∧ w2.cell? ⟨w.heap.size, 2, none⟩ = some (.int .i64 ay) ∧ w2.cell? ⟨w.heap.size, 3, none⟩ = some (.int .i64 bx) ∧ w2.cell? ⟨w.heap.size, 4, none⟩ = some (.int .i64 b_y) ∧ w2.cell? ⟨w.heap.size, 5, none⟩ = some (.int .i64 cx) ∧ w2.cell? ⟨w.heap.size, 6, none⟩ = some (.int .i64 cy) ∧ w2.cell? ⟨w.heap.size, 7, none⟩ = some (.int .i64 r) ∧ w2.cell? ⟨w.heap.size, 8, none⟩ = some (.int .i64 f) ∧ w2.cell? ⟨w.heap.size, 9, none⟩ = some (.int .i64 s) ∧ w2.cell? ⟨w.heap.size, 10, none⟩ = some (.int .i64 L) ∧ w2.cell? ⟨w.heap.size, 11, none⟩ = some (.int .i64 n) ∧ w2.cell? ⟨w.heap.size, 12, none⟩ = some (.bool g) ∧ w2.cell? ⟨w.heap.size + 1, 0, none⟩ = some (.int .i64 px) ∧ w2.cell? ⟨w.heap.size + 1, 1, none⟩ = some (.int .i64 py) := by
      refine ⟨?_, ?_, ?_, ?_, ?_, ?_, ?_, ?_, ?_, ?_, ?_, ?_, ?_, ?_, ?_⟩ <;> (refine cell_below hb2 ?_; repeat (first | (with_reducible assumption) | ((with_reducible refine cell_set ?_ ?_ _); (· first | (simp; done) | (simp; omega) | omega)) | ((with_reducible refine cell_new ?_ ?_); (· (simp; done)); (· rfl)) | (with_reducible refine cell_alloc ?_ _) | (with_reducible refine cell_drew ?_) | (with_reducible refine cell_drewN ?_ _) | (with_reducible refine cell_below (by assumption) ?_)))
    have zf16 : w.heap.size < w2.heap.size := World.block_lt_of_cell? _ _ f16
    have zf29 : w.heap.size + 1 < w2.heap.size := World.block_lt_of_cell? _ _ f29
    clear f1 zf1 f2 f3 f4 f5 f6 f7 f8 f9 f10 f11 f12 f13 f14 zf14 f15
    go_wp2_with fail
    refine (PB _).mono ?_
    rintro e w3 ⟨rfl, hb3⟩
    obtain ⟨f31, f32, f33, f34, f35, f36, f37, f38, f39, f40, f41, f42, f43, f44, f45⟩ : w3.cell? ⟨w.heap.size, 0, none⟩ = some (.bool c) ∧ w3.cell? ⟨w.heap.size, 1, none⟩ = some (.int .i64 ax) ∧ w3.cell? ⟨w.heap.size, 2, none⟩ = some (.int .i64 ay) ∧ w3.cell? ⟨w.heap.size, 3, none⟩ = some (.int .i64 bx) ∧ w3.cell? ⟨w.heap.size, 4, none⟩ = some (.int .i64 b_y) ∧ w3.cell? ⟨w.heap.size, 5, none⟩ = some (.int .i64 cx) ∧ w3.cell? ⟨w.heap.size, 6, none⟩ = some (.int .i64 cy) ∧ w3.cell? ⟨w.heap.size, 7, none⟩ = some (.int .i64 r) ∧ w3.cell? ⟨w.heap.size, 8, none⟩ = some (.int .i64 f) ∧ w3.cell? ⟨w.heap.size, 9, none⟩ = some (.int .i64 s) ∧ w3.cell? ⟨w.heap.size, 10, none⟩ = some (.int .i64 L) ∧ w3.cell? ⟨w.heap.size, 11, none⟩ = some (.int .i64 n) ∧ w3.cell? ⟨w.heap.size, 12, none⟩ = some (.bool g) ∧ w3.cell? ⟨w.heap.size + 1, 0, none⟩ = some (.int .i64 px) ∧ w3.cell? ⟨w.heap.size + 1, 1, none⟩ = some (.int .i64 py) := by
      refine ⟨?_, ?_, ?_, ?_, ?_, ?_, ?_, ?_, ?_, ?_, ?_, ?_, ?_, ?_, ?_⟩ <;> (refine cell_below hb3 ?_; repeat (first | (with_reducible assumption) | ((with_reducible refine cell_set ?_ ?_ _); (· first | (simp; done) | (simp; omega) | omega)) | ((with_reducible refine cell_new ?_ ?_); (· (simp; done)); (· rfl)) | (with_reducible refine cell_alloc ?_ _) | (with_reducible refine cell_drew ?_) | (with_reducible refine cell_drewN ?_ _) | (with_reducible refine cell_below (by assumption) ?_)))
    have zf31 : w.heap.size < w3.heap.size := World.block_lt_of_cell? _ _ f31
    have zf44 : w.heap.size + 1 < w3.heap.size := World.block_lt_of_cell? _ _ f44
    clear f16 zf16 f17 f18 f19 f20 f21 f22 f23 f24 f25 f26 f27 f28 f29 zf29 f30
    go_wp2_with fail
    all_goals
      go_ret
      exact ⟨rfl, by (repeat (with_reducible (first | assumption | exact Below.refl _ _ | refine Below.drew ?_ | refine below_drewN ?_ _ | refine below_set ?_ (by simp; try omega) _ | refine below_alloc ?_ (Nat.le_refl _) _ | refine below_sub (by assumption) ?_)))⟩
set_option maxRecDepth 100000 in
set_option maxHeartbeats 4000000 in
theorem overp_line (ax ay bx b_y cx cy r f s L n px py : Int) (g : Bool) (hq : vldB px py = true) (ha : vldB ax ay = true) (hb : vldB bx b_y = true) (w : World) :
    Calls Tryz.prog 13 #[.agg #[.bool false, .int .i64 ax, .int .i64 ay, .int .i64 bx, .int .i64 b_y, .int .i64 cx, .int .i64 cy, .int .i64 r, .int .i64 f, .int .i64 s, .int .i64 L, .int .i64 n, .bool g], .agg #[.int .i64 px, .int .i64 py]] w fun e w' => e = .returned (.bool (decide (0 ≤ aheadF ax ay bx b_y px py))) ∧ Below w.heap.size w w' := by
  have PQ := fun W => pvalid_e px py true hq W
  have PA := fun W => pvalid_e ax ay true ha W
  have PB := fun W => pvalid_e bx b_y true hb W
  have AH := fun W => ahead_any ax ay bx b_y px py W
  generalize aheadF ax ay bx b_y px py = d at *
  clear hq ha hb
  go_enter Tryz.func13, Tryz.ntmps13
  go_wp2_with fail
  refine (PQ _).mono ?_
  rintro e w1 ⟨rfl, hb1⟩
  obtain ⟨f1, f2, f3, f4, f5, f6, f7, f8, f9, f10, f11, f12, f13, f14, f15⟩ : w1.cell? ⟨w.heap.size, 0, none⟩ = some (.bool false) ∧ w1.cell? ⟨w.heap.size, 1, none⟩ = some (.int .i64 ax) ∧ w1.cell? ⟨w.heap.size, 2, none⟩ = some (.int .i64 ay) ∧ w1.cell? ⟨w.heap.size, 3, none⟩ = some (.int .i64 bx) ∧ w1.cell? ⟨w.heap.size, 4, none⟩ = some (.int .i64 b_y) ∧ w1.cell? ⟨w.heap.size, 5, none⟩ = some (.int .i64 cx) ∧ w1.cell? ⟨w.heap.size, 6, none⟩ = some (.int .i64 cy) ∧ w1.cell? ⟨w.heap.size, 7, none⟩ = some (.int .i64 r) ∧ w1.cell? ⟨w.heap.size, 8, none⟩ = some (.int .i64 f) ∧ w1.cell? ⟨w.heap.size, 9, none⟩ = some (.int .i64 s) ∧ w1.cell? ⟨w.heap.size, 10, none⟩ = some (.int .i64 L) ∧ w1.cell? ⟨w.heap.size, 11, none⟩ = some (.int .i64 n) ∧ w1.cell? ⟨w.heap.size, 12, none⟩ = some (.bool g) ∧ w1.cell? ⟨w.heap.size + 1, 0, none⟩ = some (.int .i64 px) ∧ w1.cell? ⟨w.heap.size + 1, 1, none⟩ = some (.int .i64 py) := by
    refine ⟨?_, ?_, ?_, ?_, ?_, ?_, ?_, ?_, ?_, ?_, ?_, ?_, ?_, ?_, ?_⟩ <;> (refine cell_below hb1 ?_; repeat (first | (with_reducible assumption) | ((with_reducible refine cell_set ?_ ?_ _); (· first | (simp; done) | (simp; omega) | omega)) | ((with_reducible refine cell_new ?_ ?_); (· (simp; done)); (· rfl)) | (with_reducible refine cell_alloc ?_ _) | (with_reducible refine cell_drew ?_) | (with_reducible refine cell_drewN ?_ _) | (with_reducible refine cell_below (by assumption) ?_)))
  have zf1 : w.heap.size < w1.heap.size := World.block_lt_of_cell? _ _ f1
  have zf14 : w.heap.size + 1 < w1.heap.size := World.block_lt_of_cell? _ _ f14
  go_wp2_with fail
  refine (PA _).mono ?_
  rintro e w2 ⟨rfl, hb2⟩
  obtain ⟨f16, f17, f18, f19, f20, f21, f22, f23, f24, f25, f26, f27, f28, f29, f30⟩ : w2.cell? ⟨w.heap.size, 0, none⟩ = some (.bool false) ∧ w2.cell? ⟨w.heap.size, 1, none⟩ = some (.int .i64 ax) ∧ w2.cell? ⟨w.heap.size, 2, none⟩ = some (.int .i64 ay) ∧ w2.cell? ⟨w.heap.size, 3, none⟩ = some (.int .i64 bx) ∧ w2.cell? ⟨w.heap.size, 4, none⟩ = some (.int .i64 b_y) ∧ w2.cell? ⟨w.heap.size, 5, none⟩ = some (.int .i64 cx) ∧ w2.cell? ⟨w.heap.size, 6, none⟩ = some (.int .i64 cy) ∧ w2.cell? ⟨w.heap.size, 7, none⟩ = some (.int .i64 r) ∧ w2.cell? ⟨w.heap.size, 8, none⟩ = some (.int .i64 f) ∧ w2.cell? ⟨w.heap.size, 9, none⟩ = some (.int .i64 s) ∧ w2.cell? ⟨w.heap.size, 10, none⟩ = some (.int .i64 L) ∧ w2.cell? ⟨w.heap.size, 11, none⟩ = some (.int .i64 n) ∧ w2.cell? ⟨w.heap.size, 12, none⟩ = some (.bool g) ∧ w2.cell? ⟨w.heap.size + 1, 0, none⟩ = some (.int .i64 px) ∧ w2.cell? ⟨w.heap.size + 1, 1, none⟩ = some (.int .i64 py) := by
    refine ⟨?_, ?_, ?_, ?_, ?_, ?_, ?_, ?_, ?_, ?_, ?_, ?_, ?_, ?_, ?_⟩ <;> (refine cell_below hb2 ?_; repeat (first | (with_reducible assumption) | ((with_reducible refine cell_set ?_ ?_ _); (· first | (simp; done) | (simp; omega) | omega)) | ((with_reducible refine cell_new ?_ ?_); (· (simp; done)); (· rfl)) | (with_reducible refine cell_alloc ?_ _) | (with_reducible refine cell_drew ?_) | (with_reducible refine cell_drewN ?_ _) | (with_reducible refine cell_below (by assumption) ?_)))
  have zf16 : w.heap.size < w2.heap.size := World.block_lt_of_cell? _ _ f16
  have zf29 : w.heap.size + 1 < w2.heap.size := World.block_lt_of_cell? _ _ f29
  clear f1 zf1 f2 f3 f4 f5 f6 f7 f8 f9 f10 f11 f12 f13 f14 zf14 f15
  go_wp2_with fail
  refine (PB _).mono ?_
  rintro e w3 ⟨rfl, hb3⟩
  obtain ⟨f31, f32, f33, f34, f35, f36, f37, f38, f39, f40, f41, f42, f43, f44, f45⟩ : w3.cell? ⟨w.heap.size, 0, none⟩ = some (.bool false) ∧ w3.cell? ⟨w.heap.size, 1, none⟩ = some (.int .i64 ax) ∧ w3.cell? ⟨w.heap.size, 2, none⟩ = some (.int .i64 ay) ∧ w3.cell? ⟨w.heap.size, 3, none⟩ = some (.int .i64 bx) ∧ w3.cell? ⟨w.heap.size, 4, none⟩ = some (.int .i64 b_y) ∧ w3.cell? ⟨w.heap.size, 5, none⟩ = some (.int .i64 cx) ∧ w3.cell? ⟨w.heap.size, 6, none⟩ = some (.int .i64 cy) ∧ w3.cell? ⟨w.heap.size, 7, none⟩ = some (.int .i64 r) ∧ w3.cell? ⟨w.heap.size, 8, none⟩ = some (.int .i64 f) ∧ w3.cell? ⟨w.heap.size, 9, none⟩ = some (.int .i64 s) ∧ w3.cell? ⟨w.heap.size, 10, none⟩ = some (.int .i64 L) ∧ w3.cell? ⟨w.heap.size, 11, none⟩ = some (.int .i64 n) ∧ w3.cell? ⟨w.heap.size, 12, none⟩ = some (.bool g) ∧ w3.cell? ⟨w.heap.size + 1, 0, none⟩ = some (.int .i64 px) ∧ w3.cell? ⟨w.heap.size + 1, 1, none⟩ = some (.int .i64 py) := by
    refine ⟨?_, ?_, ?_, ?_, ?_, ?_, ?_, ?_, ?_, ?_, ?_, ?_, ?_, ?_, ?_⟩ <;> (refine cell_below hb3 ?_; repeat (first | (with_reducible assumption) | ((with_reducible refine cell_set ?_ ?_ _); (· first | (simp; done) | (simp; omega) | omega)) | ((with_reducible refine cell_new ?_ ?_); (· (simp; done)); (· rfl)) | (with_reducible refine cell_alloc ?_ _) | (with_reducible refine cell_drew ?_) | (with_reducible refine cell_drewN ?_ _) | (with_reducible refine cell_below (by assumption) ?_)))
  have zf31 : w.heap.size < w3.heap.size := World.block_lt_of_cell? _ _ f31
  have zf44 : w.heap.size + 1 < w3.heap.size := World.block_lt_of_cell? _ _ f44
  clear f16 zf16 f17 f18 f19 f20 f21 f22 f23 f24 f25 f26 f27 f28 f29 zf29 f30
  go_wp2_with fail
  refine (AH _).mono ?_
  rintro e w4 ⟨rfl, hb4⟩
  obtain ⟨f46, f47, f48, f49, f50, f51, f52, f53, f54, f55, f56, f57, f58, f59, f60⟩ : w4.cell? ⟨w.heap.size, 0, none⟩ = some (.bool false) ∧ w4.cell? ⟨w.heap.size, 1, none⟩ = some (.int .i64 ax) ∧ w4.cell? ⟨w.heap.size, 2, none⟩ = some (.int .i64 ay) ∧ w4.cell? ⟨w.heap.size, 3, none⟩ = some (.int .i64 bx) ∧ w4.cell? ⟨w.heap.size, 4, none⟩ = some (.int .i64 b_y) ∧ w4.cell? ⟨w.heap.size, 5, none⟩ = some (.int .i64 cx) ∧ w4.cell? ⟨w.heap.size, 6, none⟩ = some (.int .i64 cy) ∧ w4.cell? ⟨w.heap.size, 7, none⟩ = some (.int .i64 r) ∧ w4.cell? ⟨w.heap.size, 8, none⟩ = some (.int .i64 f) ∧ w4.cell? ⟨w.heap.size, 9, none⟩ = some (.int .i64 s) ∧ w4.cell? ⟨w.heap.size, 10, none⟩ = some (.int .i64 L) ∧ w4.cell? ⟨w.heap.size, 11, none⟩ = some (.int .i64 n) ∧ w4.cell? ⟨w.heap.size, 12, none⟩ = some (.bool g) ∧ w4.cell? ⟨w.heap.size + 1, 0, none⟩ = some (.int .i64 px) ∧ w4.cell? ⟨w.heap.size + 1, 1, none⟩ = some (.int .i64 py) := by
    refine ⟨?_, ?_, ?_, ?_, ?_, ?_, ?_, ?_, ?_, ?_, ?_, ?_, ?_, ?_, ?_⟩ <;> (refine cell_below hb4 ?_; repeat (first | (with_reducible assumption) | ((with_reducible refine cell_set ?_ ?_ _); (· first | (simp; done) | (simp; omega) | omega)) | ((with_reducible refine cell_new ?_ ?_); (· (simp; done)); (· rfl)) | (with_reducible refine cell_alloc ?_ _) | (with_reducible refine cell_drew ?_) | (with_reducible refine cell_drewN ?_ _) | (with_reducible refine cell_below (by assumption) ?_)))
  have zf46 : w.heap.size < w4.heap.size := World.block_lt_of_cell? _ _ f46
  have zf59 : w.heap.size + 1 < w4.heap.size := World.block_lt_of_cell? _ _ f59
  clear f31 zf31 f32 f33 f34 f35 f36 f37 f38 f39 f40 f41 f42 f43 f44 zf44 f45
  go_wp2_with fail
  all_goals
    go_ret
    exact ⟨ret_bool (by first | rfl | simp), by (repeat (with_reducible (first | assumption | exact Below.refl _ _ | refine Below.drew ?_ | refine below_drewN ?_ _ | refine below_set ?_ (by simp; try omega) _ | refine below_alloc ?_ (Nat.le_refl _) _ | refine below_sub (by assumption) ?_)))⟩
set_option maxRecDepth 100000 in
set_option maxHeartbeats 4000000 in
theorem overp_arcno (ax ay bx b_y cx cy r f s L n px py : Int) (g : Bool) (hq : vldB px py = true) (ha : vldB ax ay = true) (hb : vldB bx b_y = true) (h : arcB cx cy r f s = false) (w : World) :
    Calls Tryz.prog 13 #[.agg #[.bool true, .int .i64 ax, .int .i64 ay, .int .i64 bx, .int .i64 b_y, .int .i64 cx, .int .i64 cy, .int .i64 r, .int .i64 f, .int .i64 s, .int .i64 L, .int .i64 n, .bool g], .agg #[.int .i64 px, .int .i64 py]] w fun e w' => e = .returned (.bool false) ∧ Below w.heap.size w w' := by
  have PQ := fun W => pvalid_e px py true hq W
  have PA := fun W => pvalid_e ax ay true ha W
  have PB := fun W => pvalid_e bx b_y true hb W
  have TV := fun W => tvalid_any cx cy r f s W
  rw [h] at TV
  clear h hq ha hb
  go_enter Tryz.func13, Tryz.ntmps13
  go_wp2_with fail
  refine (PQ _).mono ?_
  rintro e w1 ⟨rfl, hb1⟩
  obtain ⟨f1, f2, f3, f4, f5, f6, f7, f8, f9, f10, f11, f12, f13, f14, f15⟩ : w1.cell? ⟨w.heap.size, 0, none⟩ = some (.bool true) ∧ w1.cell? ⟨w.heap.size, 1, none⟩ = some (.int .i64 ax) ∧ w1.cell? ⟨w.heap.size, 2, none⟩ = some (.int .i64 ay) ∧ w1.cell? ⟨w.heap.size, 3, none⟩ = some (.int .i64 bx) ∧ w1.cell? ⟨w.heap.size, 4, none⟩ = some (.int .i64 b_y) ∧ w1.cell? ⟨w.heap.size, 5, none⟩ = some (.int .i64 cx) ∧ w1.cell? ⟨w.heap.size, 6, none⟩ = some (.int .i64 cy) ∧ w1.cell? ⟨w.heap.size, 7, none⟩ = some (.int .i64 r) ∧ w1.cell? ⟨w.heap.size, 8, none⟩ = some (.int .i64 f) ∧ w1.cell? ⟨w.heap.size, 9, none⟩ = some (.int .i64 s) ∧ w1.cell? ⟨w.heap.size, 10, none⟩ = some (.int .i64 L) ∧ w1.cell? ⟨w.heap.size, 11, none⟩ = some (.int .i64 n) ∧ w1.cell? ⟨w.heap.size, 12, none⟩ = some (.bool g) ∧ w1.cell? ⟨w.heap.size + 1, 0, none⟩ = some (.int .i64 px) ∧ w1.cell? ⟨w.heap.size + 1, 1, none⟩ = some (.int .i64 py) := by
    refine ⟨?_, ?_, ?_, ?_, ?_, ?_, ?_, ?_, ?_, ?_, ?_, ?_, ?_, ?_, ?_⟩ <;> (refine cell_below hb1 ?_; repeat (first | (with_reducible assumption) | ((with_reducible refine cell_set ?_ ?_ _); (· first | (simp; done) | (simp; omega) | omega)) | ((with_reducible refine cell_new ?_ ?_); (· (simp; done)); (· rfl)) | (with_reducible refine cell_alloc ?_ _) | (with_reducible refine cell_drew ?_) | (with_reducible refine cell_drewN ?_ _) | (with_reducible refine cell_below (by assumption) ?_)))
  have zf1 : w.heap.size < w1.heap.size := World.block_lt_of_cell? _ _ f1
  have zf14 : w.heap.size + 1 < w1.heap.size := World.block_lt_of_cell? _ _ f14
  go_wp2_with fail
  refine (PA _).mono ?_
  rintro e w2 ⟨rfl, hb2⟩
  obtain ⟨f16, f17, f18, f19, f20, f21, f22, f23, f24, f25, f26, f27, f28, f29, f30⟩ : w2.cell? ⟨w.heap.size, 0, none⟩ = some (.bool true) ∧ w2.cell? ⟨w.heap.size, 1, none⟩ = some (.int .i64 ax) ∧ w2.cell? ⟨w.heap.size, 2, none⟩ = some (.int .i64 ay) ∧ w2.cell? ⟨w.heap.size, 3, none⟩ = some (.int .i64 bx) ∧ w2.cell? ⟨w.heap.size, 4, none⟩ = some (.int .i64 b_y) ∧ w2.cell? ⟨w.heap.size, 5, none⟩ = some (.int .i64 cx) ∧ w2.cell? ⟨w.heap.size, 6, none⟩ = some (.int .i64 cy) ∧ w2.cell? ⟨w.heap.size, 7, none⟩ = some (.int .i64 r) ∧ w2.cell? ⟨w.heap.size, 8, none⟩ = some (.int .i64 f) ∧ w2.cell? ⟨w.heap.size, 9, none⟩ = some (.int .i64 s) ∧ w2.cell? ⟨w.heap.size, 10, none⟩ = some (.int .i64 L) ∧ w2.cell? ⟨w.heap.size, 11, none⟩ = some (.int .i64 n) ∧ w2.cell? ⟨w.heap.size, 12, none⟩ = some (.bool g) ∧ w2.cell? ⟨w.heap.size + 1, 0, none⟩ = some (.int .i64 px) ∧ w2.cell? ⟨w.heap.size + 1, 1, none⟩ = some (.int .i64 py) := by
    refine ⟨?_, ?_, ?_, ?_, ?_, ?_, ?_, ?_, ?_, ?_, ?_, ?_, ?_, ?_, ?_⟩ <;> (refine cell_below hb2 ?_; repeat (first | (with_reducible assumption) | ((with_reducible refine cell_set ?_ ?_ _); (· first | (simp; done) | (simp; omega) | omega)) | ((with_reducible refine cell_new ?_ ?_); (· (simp; done)); (· rfl)) | (with_reducible refine cell_alloc ?_ _) | (with_reducible refine cell_drew ?_) | (with_reducible refine cell_drewN ?_ _) | (with_reducible refine cell_below (by assumption) ?_)))
  have zf16 : w.heap.size < w2.heap.size := World.block_lt_of_cell? _ _ f16
  have zf29 : w.heap.size + 1 < w2.heap.size := World.block_lt_of_cell? _ _ f29
  clear f1 zf1 f2 f3 f4 f5 f6 f7 f8 f9 f10 f11 f12 f13 f14 zf14 f15
  go_wp2_with fail
  refine (PB _).mono ?_
  rintro e w3 ⟨rfl, hb3⟩
  obtain ⟨f31, f32, f33, f34, f35, f36, f37, f38, f39, f40, f41, f42, f43, f44, f45⟩ : w3.cell? ⟨w.heap.size, 0, none⟩ = some (.bool true) ∧ w3.cell? ⟨w.heap.size, 1, none⟩ = some (.int .i64 ax) ∧ w3.cell? ⟨w.heap.size, 2, none⟩ = some (.int .i64 ay) ∧ w3.cell? ⟨w.heap.size, 3, none⟩ = some (.int .i64 bx) ∧ w3.cell? ⟨w.heap.size, 4, none⟩ = some (.int .i64 b_y) ∧ w3.cell? ⟨w.heap.size, 5, none⟩ = some (.int .i64 cx) ∧ w3.cell? ⟨w.heap.size, 6, none⟩ = some (.int .i64 cy) ∧ w3.cell? ⟨w.heap.size, 7, none⟩ = some (.int .i64 r) ∧ w3.cell? ⟨w.heap.size, 8, none⟩ = some (.int .i64 f) ∧ w3.cell? ⟨w.heap.size, 9, none⟩ = some (.int .i64 s) ∧ w3.cell? ⟨w.heap.size, 10, none⟩ = some (.int .i64 L) ∧ w3.cell? ⟨w.heap.size, 11, none⟩ = some (.int .i64 n) ∧ w3.cell? ⟨w.heap.size, 12, none⟩ = some (.bool g) ∧ w3.cell? ⟨w.heap.size + 1, 0, none⟩ = some (.int .i64 px) ∧ w3.cell? ⟨w.heap.size + 1, 1, none⟩ = some (.int .i64 py) := by
    refine ⟨?_, ?_, ?_, ?_, ?_, ?_, ?_, ?_, ?_, ?_, ?_, ?_, ?_, ?_, ?_⟩ <;> (refine cell_below hb3 ?_; repeat (first | (with_reducible assumption) | ((with_reducible refine cell_set ?_ ?_ _); (· first | (simp; done) | (simp; omega) | omega)) | ((with_reducible refine cell_new ?_ ?_); (· (simp; done)); (· rfl)) | (with_reducible refine cell_alloc ?_ _) | (with_reducible refine cell_drew ?_) | (with_reducible refine cell_drewN ?_ _) | (with_reducible refine cell_below (by assumption) ?_)))
  have zf31 : w.heap.size < w3.heap.size := World.block_lt_of_cell? _ _ f31
  have zf44 : w.heap.size + 1 < w3.heap.size := World.block_lt_of_cell? _ _ f44
  clear f16 zf16 f17 f18 f19 f20 f21 f22 f23 f24 f25 f26 f27 f28 f29 zf29 f30
  go_wp2_with fail
  refine (TV _).mono ?_
  rintro e w4 ⟨rfl, hb4⟩
  obtain ⟨f46, f47, f48, f49, f50, f51, f52, f53, f54, f55, f56, f57, f58, f59, f60, f61, f62, f63, f64, f65⟩ : w4.cell? ⟨w.heap.size, 0, none⟩ = some (.bool true) ∧ w4.cell? ⟨w.heap.size, 1, none⟩ = some (.int .i64 ax) ∧ w4.cell? ⟨w.heap.size, 2, none⟩ = some (.int .i64 ay) ∧ w4.cell? ⟨w.heap.size, 3, none⟩ = some (.int .i64 bx) ∧ w4.cell? ⟨w.heap.size, 4, none⟩ = some (.int .i64 b_y) ∧ w4.cell? ⟨w.heap.size, 5, none⟩ = some (.int .i64 cx) ∧ w4.cell? ⟨w.heap.size, 6, none⟩ = some (.int .i64 cy) ∧ w4.cell? ⟨w.heap.size, 7, none⟩ = some (.int .i64 r) ∧ w4.cell? ⟨w.heap.size, 8, none⟩ = some (.int .i64 f) ∧ w4.cell? ⟨w.heap.size, 9, none⟩ = some (.int .i64 s) ∧ w4.cell? ⟨w.heap.size, 10, none⟩ = some (.int .i64 L) ∧ w4.cell? ⟨w.heap.size, 11, none⟩ = some (.int .i64 n) ∧ w4.cell? ⟨w.heap.size, 12, none⟩ = some (.bool g) ∧ w4.cell? ⟨w.heap.size + 1, 0, none⟩ = some (.int .i64 px) ∧ w4.cell? ⟨w.heap.size + 1, 1, none⟩ = some (.int .i64 py) ∧ w4.cell? ⟨w3.heap.size, 0, none⟩ = some (.int .i64 cx) ∧ w4.cell? ⟨w3.heap.size, 1, none⟩ = some (.int .i64 cy) ∧ w4.cell? ⟨w3.heap.size, 2, none⟩ = some (.int .i64 r) ∧ w4.cell? ⟨w3.heap.size, 3, none⟩ = some (.int .i64 f) ∧ w4.cell? ⟨w3.heap.size, 4, none⟩ = some (.int .i64 s) := by
    refine ⟨?_, ?_, ?_, ?_, ?_, ?_, ?_, ?_, ?_, ?_, ?_, ?_, ?_, ?_, ?_, ?_, ?_, ?_, ?_, ?_⟩ <;> (refine cell_below hb4 ?_; repeat (first | (with_reducible assumption) | ((with_reducible refine cell_set ?_ ?_ _); (· first | (simp; done) | (simp; omega) | omega)) | ((with_reducible refine cell_new ?_ ?_); (· (simp; done)); (· rfl)) | (with_reducible refine cell_alloc ?_ _) | (with_reducible refine cell_drew ?_) | (with_reducible refine cell_drewN ?_ _) | (with_reducible refine cell_below (by assumption) ?_)))
  have zf46 : w.heap.size < w4.heap.size := World.block_lt_of_cell? _ _ f46
  have zf59 : w.heap.size + 1 < w4.heap.size := World.block_lt_of_cell? _ _ f59
  have zf61 : w3.heap.size < w4.heap.size := World.block_lt_of_cell? _ _ f61
  clear f31 zf31 f32 f33 f34 f35 f36 f37 f38 f39 f40 f41 f42 f43 f44 zf44 f45
  go_wp2_with fail
  all_goals
    go_ret
    exact ⟨rfl, by (repeat (with_reducible (first | assumption | exact Below.refl _ _ | refine Below.drew ?_ | refine below_drewN ?_ _ | refine below_set ?_ (by simp; try omega) _ | refine below_alloc ?_ (Nat.le_refl _) _ | refine below_sub (by assumption) ?_)))⟩
set_option maxRecDepth 100000 in
set_option maxHeartbeats 4000000 in
theorem overp_mid (ax ay bx b_y r f s L n px py : Int) (g : Bool) (hq : vldB px py = true) (ha : vldB ax ay = true) (hb : vldB bx b_y = true) (h : arcB px py r f s = true) (w : World) :
    Calls Tryz.prog 13 #[.agg #[.bool true, .int .i64 ax, .int .i64 ay, .int .i64 bx, .int .i64 b_y, .int .i64 px, .int .i64 py, .int .i64 r, .int .i64 f, .int .i64 s, .int .i64 L, .int .i64 n, .bool g], .agg #[.int .i64 px, .int .i64 py]] w fun e w' => e = .returned (.bool false) ∧ Below w.heap.size w w' := by
  have PQ := fun W => pvalid_e px py true hq W
  have PA := fun W => pvalid_e ax ay true ha W
  have PB := fun W => pvalid_e bx b_y true hb W
  have TV := fun W => tvalid_any px py r f s W
  rw [h] at TV
  clear h hq ha hb
  go_enter Tryz.func13, Tryz.ntmps13
  go_wp2_with fail
  refine (PQ _).mono ?_
  rintro e w1 ⟨rfl, hb1⟩
  obtain ⟨f1, f2, f3, f4, f5, f6, f7, f8, f9, f10, f11, f12, f13, f14, f15⟩ : w1.cell? ⟨w.heap.size, 0, none⟩ = some (.bool true) ∧ w1.cell? ⟨w.heap.size, 1, none⟩ = some (.int .i64 ax) ∧ w1.cell? ⟨w.heap.size, 2, none⟩ = some (.int .i64 ay) ∧ w1.cell? ⟨w.heap.size, 3, none⟩ = some (.int .i64 bx) ∧ w1.cell? ⟨w.heap.size, 4, none⟩ = some (.int .i64 b_y) ∧ w1.cell? ⟨w.heap.size, 5, none⟩ = some (.int .i64 px) ∧ w1.cell? ⟨w.heap.size, 6, none⟩ = some (.int .i64 py) ∧ w1.cell? ⟨w.heap.size, 7, none⟩ = some (.int .i64 r) ∧ w1.cell? ⟨w.heap.size, 8, none⟩ = some (.int .i64 f) ∧ w1.cell? ⟨w.heap.size, 9, none⟩ = some (.int .i64 s) ∧ w1.cell? ⟨w.heap.size, 10, none⟩ = some (.int .i64 L) ∧ w1.cell? ⟨w.heap.size, 11, none⟩ = some (.int .i64 n) ∧ w1.cell? ⟨w.heap.size, 12, none⟩ = some (.bool g) ∧ w1.cell? ⟨w.heap.size + 1, 0, none⟩ = some (.int .i64 px) ∧ w1.cell? ⟨w.heap.size + 1, 1, none⟩ = some (.int .i64 py) := by
    refine ⟨?_, ?_, ?_, ?_, ?_, ?_, ?_, ?_, ?_, ?_, ?_, ?_, ?_, ?_, ?_⟩ <;> (refine cell_below hb1 ?_; repeat (first | (with_reducible assumption) | ((with_reducible refine cell_set ?_ ?_ _); (· first | (simp; done) | (simp; omega) | omega)) | ((with_reducible refine cell_new ?_ ?_); (· (simp; done)); (· rfl)) | (with_reducible refine cell_alloc ?_ _) | (with_reducible refine cell_drew ?_) | (with_reducible refine cell_drewN ?_ _) | (with_reducible refine cell_below (by assumption) ?_)))
  have zf1 : w.heap.size < w1.heap.size := World.block_lt_of_cell? _ _ f1
  have zf14 : w.heap.size + 1 < w1.heap.size := World.block_lt_of_cell? _ _ f14
  go_wp2_with fail
  refine (PA _).mono ?_
  rintro e w2 ⟨rfl, hb2⟩
  obtain ⟨f16, f17, f18, f19, f20, f21, f22, f23, f24, f25, f26, f27, f28, f29, f30⟩ : w2.cell? ⟨w.heap.size, 0, none⟩ = some (.bool true) ∧ w2.cell? ⟨w.heap.size, 1, none⟩ = some (.int .i64 ax) ∧ w2.cell? ⟨w.heap.size, 2, none⟩ = some (.int .i64 ay) ∧ w2.cell? ⟨w.heap.size, 3, none⟩ = some (.int .i64 bx) ∧ w2.cell? ⟨w.heap.size, 4, none⟩ = some (.int .i64 b_y) ∧ w2.cell? ⟨w.heap.size, 5, none⟩ = some (.int .i64 px) ∧ w2.cell? ⟨w.heap.size, 6, none⟩ = some (.int .i64 py) ∧ w2.cell? ⟨w.heap.size, 7, none⟩ = some (.int .i64 r) ∧ w2.cell? ⟨w.heap.size, 8, none⟩ = some (.int .i64 f) ∧ w2.cell? ⟨w.heap.size, 9, none⟩ = some (.int .i64 s) ∧ w2.cell? ⟨w.heap.size, 10, none⟩ = some (.int .i64 L) ∧ w2.cell? ⟨w.heap.size, 11, none⟩ = some (.int .i64 n) ∧ w2.cell? ⟨w.heap.size, 12, none⟩ = some (.bool g) ∧ w2.cell? ⟨w.heap.size + 1, 0, none⟩ = some (.int .i64 px) ∧ w2.cell? ⟨w.heap.size + 1, 1, none⟩ = some (.int .i64 py) := by
    refine ⟨?_, ?_, ?_, ?_, ?_, ?_, ?_, ?_, ?_, ?_, ?_, ?_, ?_, ?_, ?_⟩ <;> (refine cell_below hb2 ?_; repeat (first | (with_reducible assumption) | ((with_reducible refine cell_set ?_ ?_ _); (· first | (simp; done) | (simp; omega) | omega)) | ((with_reducible refine cell_new ?_ ?_); (· (simp; done)); (· rfl)) | (with_reducible refine cell_alloc ?_ _) | (with_reducible refine cell_drew ?_) | (with_reducible refine cell_drewN ?_ _) | (with_reducible refine cell_below (by assumption) ?_)))
  have zf16 : w.heap.size < w2.heap.size := World.block_lt_of_cell? _ _ f16
  have zf29 : w.heap.size + 1 < w2.heap.size := World.block_lt_of_cell? _ _ f29
  clear f1 zf1 f2 f3 f4 f5 f6 f7 f8 f9 f10 f11 f12 f13 f14 zf14 f15
  go_wp2_with fail
  refine (PB _).mono ?_
  rintro e w3 ⟨rfl, hb3⟩
  obtain ⟨f31, f32, f33, f34, f35, f36, f37, f38, f39, f40, f41, f42, f43, f44, f45⟩ : w3.cell? ⟨w.heap.size, 0, none⟩ = some (.bool true) ∧ w3.cell? ⟨w.heap.size, 1, none⟩ = some (.int .i64 ax) ∧ w3.cell? ⟨w.heap.size, 2, none⟩ = some (.int .i64 ay) ∧ w3.cell? ⟨w.heap.size, 3, none⟩ = some (.int .i64 bx) ∧ w3.cell? ⟨w.heap.size, 4, none⟩ = some (.int .i64 b_y) ∧ w3.cell? ⟨w.heap.size, 5, none⟩ = some (.int .i64 px) ∧ w3.cell? ⟨w.heap.size, 6, none⟩ = some (.int .i64 py) ∧ w3.cell? ⟨w.heap.size, 7, none⟩ = some (.int .i64 r) ∧ w3.cell? ⟨w.heap.size, 8, none⟩ = some (.int .i64 f) ∧ w3.cell? ⟨w.heap.size, 9, none⟩ = some (.int .i64 s) ∧ w3.cell? ⟨w.heap.size, 10, none⟩ = some (.int .i64 L) ∧ w3.cell? ⟨w.heap.size, 11, none⟩ = some (.int .i64 n) ∧ w3.cell? ⟨w.heap.size, 12, none⟩ = some (.bool g) ∧ w3.cell? ⟨w.heap.size + 1, 0, none⟩ = some (.int .i64 px) ∧ w3.cell? ⟨w.heap.size + 1, 1, none⟩ = some (.int .i64 py) := by
    refine ⟨?_, ?_, ?_, ?_, ?_, ?_, ?_, ?_, ?_, ?_, ?_, ?_, ?_, ?_, ?_⟩ <;> (refine cell_below hb3 ?_; repeat (first | (with_reducible assumption) | ((with_reducible refine cell_set ?_ ?_ _); (· first | (simp; done) | (simp; omega) | omega)) | ((with_reducible refine cell_new ?_ ?_); (· (simp; done)); (· rfl)) | (with_reducible refine cell_alloc ?_ _) | (with_reducible refine cell_drew ?_) | (with_reducible refine cell_drewN ?_ _) | (with_reducible refine cell_below (by assumption) ?_)))
  have zf31 : w.heap.size < w3.heap.size := World.block_lt_of_cell? _ _ f31
  have zf44 : w.heap.size + 1 < w3.heap.size := World.block_lt_of_cell? _ _ f44
  clear f16 zf16 f17 f18 f19 f20 f21 f22 f23 f24 f25 f26 f27 f28 f29 zf29 f30
  go_wp2_with fail
  refine (TV _).mono ?_
  rintro e w4 ⟨rfl, hb4⟩
  obtain ⟨f46, f47, f48, f49, f50, f51, f52, f53, f54, f55, f56, f57, f58, f59, f60, f61, f62, f63, f64, f65⟩ : w4.cell? ⟨w.heap.size, 0, none⟩ = some (.bool true) ∧ w4.cell? ⟨w.heap.size, 1, none⟩ = some (.int .i64 ax) ∧ w4.cell? ⟨w.heap.size, 2, none⟩ = some (.int .i64 ay) ∧ w4.cell? ⟨w.heap.size, 3, none⟩ = some (.int .i64 bx) ∧ w4.cell? ⟨w.heap.size, 4, none⟩ = some (.int .i64 b_y) ∧ w4.cell? ⟨w.heap.size, 5, none⟩ = some (.int .i64 px) ∧ w4.cell? ⟨w.heap.size, 6, none⟩ = some (.int .i64 py) ∧ w4.cell? ⟨w.heap.size, 7, none⟩ = some (.int .i64 r) ∧ w4.cell? ⟨w.heap.size, 8, none⟩ = some (.int .i64 f) ∧ w4.cell? ⟨w.heap.size, 9, none⟩ = some (.int .i64 s) ∧ w4.cell? ⟨w.heap.size, 10, none⟩ = some (.int .i64 L) ∧ w4.cell? ⟨w.heap.size, 11, none⟩ = some (.int .i64 n) ∧ w4.cell? ⟨w.heap.size, 12, none⟩ = some (.bool g) ∧ w4.cell? ⟨w.heap.size + 1, 0, none⟩ = some (.int .i64 px) ∧ w4.cell? ⟨w.heap.size + 1, 1, none⟩ = some (.int .i64 py) ∧ w4.cell? ⟨w3.heap.size, 0, none⟩ = some (.int .i64 px) ∧ w4.cell? ⟨w3.heap.size, 1, none⟩ = some (.int .i64 py) ∧ w4.cell? ⟨w3.heap.size, 2, none⟩ = some (.int .i64 r) ∧ w4.cell? ⟨w3.heap.size, 3, none⟩ = some (.int .i64 f) ∧ w4.cell? ⟨w3.heap.size, 4, none⟩ = some (.int .i64 s) := by
    refine ⟨?_, ?_, ?_, ?_, ?_, ?_, ?_, ?_, ?_, ?_, ?_, ?_, ?_, ?_, ?_, ?_, ?_, ?_, ?_, ?_⟩ <;> (refine cell_below hb4 ?_; repeat (first | (with_reducible assumption) | ((with_reducible refine cell_set ?_ ?_ _); (· first | (simp; done) | (simp; omega) | omega)) | ((with_reducible refine cell_new ?_ ?_); (· (simp; done)); (· rfl)) | (with_reducible refine cell_alloc ?_ _) | (with_reducible refine cell_drew ?_) | (with_reducible refine cell_drewN ?_ _) | (with_reducible refine cell_below (by assumption) ?_)))
  have zf46 : w.heap.size < w4.heap.size := World.block_lt_of_cell? _ _ f46
  have zf59 : w.heap.size + 1 < w4.heap.size := World.block_lt_of_cell? _ _ f59
  have zf61 : w3.heap.size < w4.heap.size := World.block_lt_of_cell? _ _ f61
  clear f31 zf31 f32 f33 f34 f35 f36 f37 f38 f39 f40 f41 f42 f43 f44 zf44 f45
  go_wp2_with fail
  all_goals
    go_ret
    exact ⟨rfl, by (repeat (with_reducible (first | assumption | exact Below.refl _ _ | refine Below.drew ?_ | refine below_drewN ?_ _ | refine below_set ?_ (by simp; try omega) _ | refine below_alloc ?_ (Nat.le_refl _) _ | refine below_sub (by assumption) ?_)))⟩
set_option maxRecDepth 100000 in
set_option maxHeartbeats 4000000 in
theorem overp_arc (ax ay bx b_y cx cy r f s L n px py : Int) (g : Bool) (hq : vldB px py = true) (ha : vldB ax ay = true) (hb : vldB bx b_y = true) (hB : arcB cx cy r f s = true) (he : ¬ (px = cx ∧ py = cy)) (w : World) :
    Calls Tryz.prog 13 #[.agg #[.bool true, .int .i64 ax, .int .i64 ay, .int .i64 bx, .int .i64 b_y, .int .i64 cx, .int .i64 cy, .int .i64 r, .int .i64 f, .int .i64 s, .int .i64 L, .int .i64 n, .bool g], .agg #[.int .i64 px, .int .i64 py]] w fun e w' => e = .returned (.bool (decide ((s.natAbs : Int) ≤ sweepF (decide (0 ≤ s)) f (courseF cx cy px py).1 ∧ sweepF (decide (0 ≤ s)) f (courseF cx cy px py).1 < s.natAbs + (129600000 - s.natAbs) / 2))) ∧ Below w.heap.size w w' := by
  have PQ := fun W => pvalid_e px py true hq W
  have PA := fun W => pvalid_e ax ay true ha W
  have PB := fun W => pvalid_e bx b_y true hb W
  have TV := fun W => tvalid_any cx cy r f s W
  rw [hB] at TV
  have T : ((px == cx) = true ∧ (py == cy) = false) ∨ (px == cx) = false := by
    by_cases hx0 : px = cx
    · left; simp [hx0]; intro hy0; exact he ⟨hx0, hy0⟩
    · right; simp [hx0]
  obtain ⟨hv, ⟨b1, b2⟩, ⟨b3, b4⟩, b5, b6⟩ := arc_cases hB
  have CS := fun W => course_any cx cy px py W
  rw [course_ne hv hq he] at CS
  have cb := courseF_bd cx cy px py
  clear hB hq ha hb he hv
  generalize (courseF cx cy px py).1 = c at *
  have AB := fun W => abs_any s (by unfold I64; omega) (by omega) W
  by_cases hs : 0 ≤ s
  ·
    have t0 : decide (0 ≤ s) = true := decide_eq_true hs
    rw [t0]
    have SW := fun W => sweep_right f c (by unfold I64; omega) (by unfold I64; omega) W
    rw [show norm (norm c - norm f) = sweepF true f c from rfl] at SW
    have sw : 0 ≤ sweepF true f c ∧ sweepF true f c < 129600000 := norm_bd _
    clear t0
    generalize sweepF true f c = u at *
    have ab : 0 ≤ (s.natAbs : Int) ∧ (s.natAbs : Int) ≤ 129600000 := by omega
    generalize (s.natAbs : Int) = a at *
    rcases T with ⟨t1, t2⟩ | t1
    all_goals
      go_enter Tryz.func13, Tryz.ntmps13
      go_wp2_with fail
      refine (PQ _).mono ?_
      rintro e w1 ⟨rfl, hb1⟩
      obtain ⟨f1, f2, f3, f4, f5, f6, f7, f8, f9, f10, f11, f12, f13, f14, f15⟩ : w1.cell? ⟨w.heap.size, 0, none⟩ = some (.bool true) ∧ w1.cell? ⟨w.heap.size, 1, none⟩ = some (.int .i64 ax) ∧ w1.cell? ⟨w.heap.size, 2, none⟩ = some (.int .i64 ay) ∧ w1.cell? ⟨w.heap.size, 3, none⟩ = some (.int .i64 bx) ∧ w1.cell? ⟨w.heap.size, 4, none⟩ = some (.int .i64 b_y) ∧ w1.cell? ⟨w.heap.size, 5, none⟩ = some (.int .i64 cx) ∧ w1.cell? ⟨w.heap.size, 6, none⟩ = some (.int .i64 cy) ∧ w1.cell? ⟨w.heap.size, 7, none⟩ = some (.int .i64 r) ∧ w1.cell? ⟨w.heap.size, 8, none⟩ = some (.int .i64 f) ∧ w1.cell? ⟨w.heap.size, 9, none⟩ = some (.int .i64 s) ∧ w1.cell? ⟨w.heap.size, 10, none⟩ = some (.int .i64 L) ∧ w1.cell? ⟨w.heap.size, 11, none⟩ = some (.int .i64 n) ∧ w1.cell? ⟨w.heap.size, 12, none⟩ = some (.bool g) ∧ w1.cell? ⟨w.heap.size + 1, 0, none⟩ = some (.int .i64 px) ∧ w1.cell? ⟨w.heap.size + 1, 1, none⟩ = some (.int .i64 py) := by
        refine ⟨?_, ?_, ?_, ?_, ?_, ?_, ?_, ?_, ?_, ?_, ?_, ?_, ?_, ?_, ?_⟩ <;> (refine cell_below hb1 ?_; repeat (first | (with_reducible assumption) | ((with_reducible refine cell_set ?_ ?_ _); (· first | (simp; done) | (simp; omega) | omega)) | ((with_reducible refine cell_new ?_ ?_); (· (simp; done)); (· rfl)) | (with_reducible refine cell_alloc ?_ _) | (with_reducible refine cell_drew ?_) | (with_reducible refine cell_drewN ?_ _) | (with_reducible refine cell_below (by assumption) ?_)))
      have zf1 : w.heap.size < w1.heap.size := World.block_lt_of_cell? _ _ f1
      have zf14 : w.heap.size + 1 < w1.heap.size := World.block_lt_of_cell? _ _ f14
      go_wp2_with fail
      refine (PA _).mono ?_
      rintro e w2 ⟨rfl, hb2⟩
      obtain ⟨f16, f17, f18, f19, f20, f21, f22, f23, f24, f25, f26, f27, f28, f29, f30⟩ : w2.cell? ⟨w.heap.size, 0, none⟩ = some (.bool true) ∧ w2.cell? ⟨w.heap.size, 1, none⟩ = some (.int .i64 ax) ∧ w2.cell? ⟨w.heap.size, 2, none⟩ = some (.int .i64 ay) ∧ w2.cell? ⟨w.heap.size, 3, none⟩ = some (.int .i64 bx) ∧ w2.cell? ⟨w.heap.size, 4, none⟩ = some (.int .i64 b_y) ∧ w2.cell? ⟨w.heap.size, 5, none⟩ = some (.int .i64 cx) ∧ w2.cell? ⟨w.heap.size, 6, none⟩ = some (.int .i64 cy) ∧ w2.cell? ⟨w.heap.size, 7, none⟩ = some (.int .i64 r) ∧ w2.cell? ⟨w.heap.size, 8, none⟩ = some (.int .i64 f) ∧ w2.cell? ⟨w.heap.size, 9, none⟩ = some (.int .i64 s) ∧ w2.cell? ⟨w.heap.size, 10, none⟩ = some (.int .i64 L) ∧ w2.cell? ⟨w.heap.size, 11, none⟩ = some (.int .i64 n) ∧ w2.cell? ⟨w.heap.size, 12, none⟩ = some (.bool g) ∧ w2.cell? ⟨w.heap.size + 1, 0, none⟩ = some (.int .i64 px) ∧ w2.cell? ⟨w.heap.size + 1, 1, none⟩ = some (.int .i64 py) := by
        refine ⟨?_, ?_, ?_, ?_, ?_, ?_, ?_, ?_, ?_, ?_, ?_, ?_, ?_, ?_, ?_⟩ <;> (refine cell_below hb2 ?_; repeat (first | (with_reducible assumption) | ((with_reducible refine cell_set ?_ ?_ _); (· first | (simp; done) | (simp; omega) | omega)) | ((with_reducible refine cell_new ?_ ?_); (· (simp; done)); (· rfl)) | (with_reducible refine cell_alloc ?_ _) | (with_reducible refine cell_drew ?_) | (with_reducible refine cell_drewN ?_ _) | (with_reducible refine cell_below (by assumption) ?_)))
      have zf16 : w.heap.size < w2.heap.size := World.block_lt_of_cell? _ _ f16
      have zf29 : w.heap.size + 1 < w2.heap.size := World.block_lt_of_cell? _ _ f29
      clear f1 zf1 f2 f3 f4 f5 f6 f7 f8 f9 f10 f11 f12 f13 f14 zf14 f15
      go_wp2_with fail
      refine (PB _).mono ?_
      rintro e w3 ⟨rfl, hb3⟩
      obtain ⟨f31, f32, f33, f34, f35, f36, f37, f38, f39, f40, f41, f42, f43, f44, f45⟩ : w3.cell? ⟨w.heap.size, 0, none⟩ = some (.bool true) ∧ w3.cell? ⟨w.heap.size, 1, none⟩ = some (.int .i64 ax) ∧ w3.cell? ⟨w.heap.size, 2, none⟩ = some (.int .i64 ay) ∧ w3.cell? ⟨w.heap.size, 3, none⟩ = some (.int .i64 bx) ∧ w3.cell? ⟨w.heap.size, 4, none⟩ = some (.int .i64 b_y) ∧ w3.cell? ⟨w.heap.size, 5, none⟩ = some (.int .i64 cx) ∧ w3.cell? ⟨w.heap.size, 6, none⟩ = some (.int .i64 cy) ∧ w3.cell? ⟨w.heap.size, 7, none⟩ = some (.int .i64 r) ∧ w3.cell? ⟨w.heap.size, 8, none⟩ = some (.int .i64 f) ∧ w3.cell? ⟨w.heap.size, 9, none⟩ = some (.int .i64 s) ∧ w3.cell? ⟨w.heap.size, 10, none⟩ = some (.int .i64 L) ∧ w3.cell? ⟨w.heap.size, 11, none⟩ = some (.int .i64 n) ∧ w3.cell? ⟨w.heap.size, 12, none⟩ = some (.bool g) ∧ w3.cell? ⟨w.heap.size + 1, 0, none⟩ = some (.int .i64 px) ∧ w3.cell? ⟨w.heap.size + 1, 1, none⟩ = some (.int .i64 py) := by
        refine ⟨?_, ?_, ?_, ?_, ?_, ?_, ?_, ?_, ?_, ?_, ?_, ?_, ?_, ?_, ?_⟩ <;> (refine cell_below hb3 ?_; repeat (first | (with_reducible assumption) | ((with_reducible refine cell_set ?_ ?_ _); (· first | (simp; done) | (simp; omega) | omega)) | ((with_reducible refine cell_new ?_ ?_); (· (simp; done)); (· rfl)) | (with_reducible refine cell_alloc ?_ _) | (with_reducible refine cell_drew ?_) | (with_reducible refine cell_drewN ?_ _) | (with_reducible refine cell_below (by assumption) ?_)))
      have zf31 : w.heap.size < w3.heap.size := World.block_lt_of_cell? _ _ f31
      have zf44 : w.heap.size + 1 < w3.heap.size := World.block_lt_of_cell? _ _ f44
      clear f16 zf16 f17 f18 f19 f20 f21 f22 f23 f24 f25 f26 f27 f28 f29 zf29 f30
      go_wp2_with fail
      refine (TV _).mono ?_
      rintro e w4 ⟨rfl, hb4⟩
      obtain ⟨f46, f47, f48, f49, f50, f51, f52, f53, f54, f55, f56, f57, f58, f59, f60, f61, f62, f63, f64, f65⟩ : w4.cell? ⟨w.heap.size, 0, none⟩ = some (.bool true) ∧ w4.cell? ⟨w.heap.size, 1, none⟩ = some (.int .i64 ax) ∧ w4.cell? ⟨w.heap.size, 2, none⟩ = some (.int .i64 ay) ∧ w4.cell? ⟨w.heap.size, 3, none⟩ = some (.int .i64 bx) ∧ w4.cell? ⟨w.heap.size, 4, none⟩ = some (.int .i64 b_y) ∧ w4.cell? ⟨w.heap.size, 5, none⟩ = some (.int .i64 cx) ∧ w4.cell? ⟨w.heap.size, 6, none⟩ = some (.int .i64 cy) ∧ w4.cell? ⟨w.heap.size, 7, none⟩ = some (.int .i64 r) ∧ w4.cell? ⟨w.heap.size, 8, none⟩ = some (.int .i64 f) ∧ w4.cell? ⟨w.heap.size, 9, none⟩ = some (.int .i64 s) ∧ w4.cell? ⟨w.heap.size, 10, none⟩ = some (.int .i64 L) ∧ w4.cell? ⟨w.heap.size, 11, none⟩ = some (.int .i64 n) ∧ w4.cell? ⟨w.heap.size, 12, none⟩ = some (.bool g) ∧ w4.cell? ⟨w.heap.size + 1, 0, none⟩ = some (.int .i64 px) ∧ w4.cell? ⟨w.heap.size + 1, 1, none⟩ = some (.int .i64 py) ∧ w4.cell? ⟨w3.heap.size, 0, none⟩ = some (.int .i64 cx) ∧ w4.cell? ⟨w3.heap.size, 1, none⟩ = some (.int .i64 cy) ∧ w4.cell? ⟨w3.heap.size, 2, none⟩ = some (.int .i64 r) ∧ w4.cell? ⟨w3.heap.size, 3, none⟩ = some (.int .i64 f) ∧ w4.cell? ⟨w3.heap.size, 4, none⟩ = some (.int .i64 s) := by
        refine ⟨?_, ?_, ?_, ?_, ?_, ?_, ?_, ?_, ?_, ?_, ?_, ?_, ?_, ?_, ?_, ?_, ?_, ?_, ?_, ?_⟩ <;> (refine cell_below hb4 ?_; repeat (first | (with_reducible assumption) | ((with_reducible refine cell_set ?_ ?_ _); (· first | (simp; done) | (simp; omega) | omega)) | ((with_reducible refine cell_new ?_ ?_); (· (simp; done)); (· rfl)) | (with_reducible refine cell_alloc ?_ _) | (with_reducible refine cell_drew ?_) | (with_reducible refine cell_drewN ?_ _) | (with_reducible refine cell_below (by assumption) ?_)))
      have zf46 : w.heap.size < w4.heap.size := World.block_lt_of_cell? _ _ f46
      have zf59 : w.heap.size + 1 < w4.heap.size := World.block_lt_of_cell? _ _ f59
      have zf61 : w3.heap.size < w4.heap.size := World.block_lt_of_cell? _ _ f61
      clear f31 zf31 f32 f33 f34 f35 f36 f37 f38 f39 f40 f41 f42 f43 f44 zf44 f45
      go_wp2_with fail
      refine (CS _).mono ?_
      rintro e w5 ⟨rfl, hb5⟩
      obtain ⟨f66, f67, f68, f69, f70, f71, f72, f73, f74, f75, f76, f77, f78, f79, f80, f81, f82, f83, f84, f85⟩ : w5.cell? ⟨w.heap.size, 0, none⟩ = some (.bool true) ∧ w5.cell? ⟨w.heap.size, 1, none⟩ = some (.int .i64 ax) ∧ w5.cell? ⟨w.heap.size, 2, none⟩ = some (.int .i64 ay) ∧ w5.cell? ⟨w.heap.size, 3, none⟩ = some (.int .i64 bx) ∧ w5.cell? ⟨w.heap.size, 4, none⟩ = some (.int .i64 b_y) ∧ w5.cell? ⟨w.heap.size, 5, none⟩ = some (.int .i64 cx) ∧ w5.cell? ⟨w.heap.size, 6, none⟩ = some (.int .i64 cy) ∧ w5.cell? ⟨w.heap.size, 7, none⟩ = some (.int .i64 r) ∧ w5.cell? ⟨w.heap.size, 8, none⟩ = some (.int .i64 f) ∧ w5.cell? ⟨w.heap.size, 9, none⟩ = some (.int .i64 s) ∧ w5.cell? ⟨w.heap.size, 10, none⟩ = some (.int .i64 L) ∧ w5.cell? ⟨w.heap.size, 11, none⟩ = some (.int .i64 n) ∧ w5.cell? ⟨w.heap.size, 12, none⟩ = some (.bool g) ∧ w5.cell? ⟨w.heap.size + 1, 0, none⟩ = some (.int .i64 px) ∧ w5.cell? ⟨w.heap.size + 1, 1, none⟩ = some (.int .i64 py) ∧ w5.cell? ⟨w3.heap.size, 0, none⟩ = some (.int .i64 cx) ∧ w5.cell? ⟨w3.heap.size, 1, none⟩ = some (.int .i64 cy) ∧ w5.cell? ⟨w3.heap.size, 2, none⟩ = some (.int .i64 r) ∧ w5.cell? ⟨w3.heap.size, 3, none⟩ = some (.int .i64 f) ∧ w5.cell? ⟨w3.heap.size, 4, none⟩ = some (.int .i64 s) := by
        refine ⟨?_, ?_, ?_, ?_, ?_, ?_, ?_, ?_, ?_, ?_, ?_, ?_, ?_, ?_, ?_, ?_, ?_, ?_, ?_, ?_⟩ <;> (refine cell_below hb5 ?_; repeat (first | (with_reducible assumption) | ((with_reducible refine cell_set ?_ ?_ _); (· first | (simp; done) | (simp; omega) | omega)) | ((with_reducible refine cell_new ?_ ?_); (· (simp; done)); (· rfl)) | (with_reducible refine cell_alloc ?_ _) | (with_reducible refine cell_drew ?_) | (with_reducible refine cell_drewN ?_ _) | (with_reducible refine cell_below (by assumption) ?_)))
      have zf66 : w.heap.size < w5.heap.size := World.block_lt_of_cell? _ _ f66
      have zf79 : w.heap.size + 1 < w5.heap.size := World.block_lt_of_cell? _ _ f79
      have zf81 : w3.heap.size < w5.heap.size := World.block_lt_of_cell? _ _ f81
      clear f46 zf46 f47 f48 f49 f50 f51 f52 f53 f54 f55 f56 f57 f58 f59 zf59 f60 f61 zf61 f62 f63 f64 f65
      go_wp2_with fail
      go_quiet ((first | (go_at_call 24; exact quiet_l (SW _)) | (go_at_call 25; exact quiet_l (AB _))))
      go_wp2_with fail
      all_goals
        go_ret
        exact ⟨ret_bool (by rw [Bool.eq_iff_iff]; simp; try omega), by (repeat (with_reducible (first | assumption | exact Below.refl _ _ | refine Below.drew ?_ | refine below_drewN ?_ _ | refine below_set ?_ (by simp; try omega) _ | refine below_alloc ?_ (Nat.le_refl _) _ | refine below_sub (by assumption) ?_)))⟩
  ·
    have t0 : decide (0 ≤ s) = false := decide_eq_false hs
    rw [t0]
    have SW := fun W => sweep_left f c (by unfold I64; omega) (by unfold I64; omega) W
    rw [show norm (norm f - norm c) = sweepF false f c from rfl] at SW
    have sw : 0 ≤ sweepF false f c ∧ sweepF false f c < 129600000 := norm_bd _
    clear t0
    generalize sweepF false f c = u at *
    have ab : 0 ≤ (s.natAbs : Int) ∧ (s.natAbs : Int) ≤ 129600000 := by omega
    generalize (s.natAbs : Int) = a at *
    rcases T with ⟨t1, t2⟩ | t1
    all_goals
      go_enter Tryz.func13, Tryz.ntmps13
      go_wp2_with fail
      refine (PQ _).mono ?_
      rintro e w1 ⟨rfl, hb1⟩
      obtain ⟨f1, f2, f3, f4, f5, f6, f7, f8, f9, f10, f11, f12, f13, f14, f15⟩ : w1.cell? ⟨w.heap.size, 0, none⟩ = some (.bool true) ∧ w1.cell? ⟨w.heap.size, 1, none⟩ = some (.int .i64 ax) ∧ w1.cell? ⟨w.heap.size, 2, none⟩ = some (.int .i64 ay) ∧ w1.cell? ⟨w.heap.size, 3, none⟩ = some (.int .i64 bx) ∧ w1.cell? ⟨w.heap.size, 4, none⟩ = some (.int .i64 b_y) ∧ w1.cell? ⟨w.heap.size, 5, none⟩ = some (.int .i64 cx) ∧ w1.cell? ⟨w.heap.size, 6, none⟩ = some (.int .i64 cy) ∧ w1.cell? ⟨w.heap.size, 7, none⟩ = some (.int .i64 r) ∧ w1.cell? ⟨w.heap.size, 8, none⟩ = some (.int .i64 f) ∧ w1.cell? ⟨w.heap.size, 9, none⟩ = some (.int .i64 s) ∧ w1.cell? ⟨w.heap.size, 10, none⟩ = some (.int .i64 L) ∧ w1.cell? ⟨w.heap.size, 11, none⟩ = some (.int .i64 n) ∧ w1.cell? ⟨w.heap.size, 12, none⟩ = some (.bool g) ∧ w1.cell? ⟨w.heap.size + 1, 0, none⟩ = some (.int .i64 px) ∧ w1.cell? ⟨w.heap.size + 1, 1, none⟩ = some (.int .i64 py) := by
        refine ⟨?_, ?_, ?_, ?_, ?_, ?_, ?_, ?_, ?_, ?_, ?_, ?_, ?_, ?_, ?_⟩ <;> (refine cell_below hb1 ?_; repeat (first | (with_reducible assumption) | ((with_reducible refine cell_set ?_ ?_ _); (· first | (simp; done) | (simp; omega) | omega)) | ((with_reducible refine cell_new ?_ ?_); (· (simp; done)); (· rfl)) | (with_reducible refine cell_alloc ?_ _) | (with_reducible refine cell_drew ?_) | (with_reducible refine cell_drewN ?_ _) | (with_reducible refine cell_below (by assumption) ?_)))
      have zf1 : w.heap.size < w1.heap.size := World.block_lt_of_cell? _ _ f1
      have zf14 : w.heap.size + 1 < w1.heap.size := World.block_lt_of_cell? _ _ f14
      go_wp2_with fail
      refine (PA _).mono ?_
      rintro e w2 ⟨rfl, hb2⟩
      obtain ⟨f16, f17, f18, f19, f20, f21, f22, f23, f24, f25, f26, f27, f28, f29, f30⟩ : w2.cell? ⟨w.heap.size, 0, none⟩ = some (.bool true) ∧ w2.cell? ⟨w.heap.size, 1, none⟩ = some (.int .i64 ax) ∧ w2.cell? ⟨w.heap.size, 2, none⟩ = some (.int .i64 ay) ∧ w2.cell? ⟨w.heap.size, 3, none⟩ = some (.int .i64 bx) ∧ w2.cell? ⟨w.heap.size, 4, none⟩ = some (.int .i64 b_y) ∧ w2.cell? ⟨w.heap.size, 5, none⟩ = some (.int .i64 cx) ∧ w2.cell? ⟨w.heap.size, 6, none⟩ = some (.int .i64 cy) ∧ w2.cell? ⟨w.heap.size, 7, none⟩ = some (.int .i64 r) ∧ w2.cell? ⟨w.heap.size, 8, none⟩ = some (.int .i64 f) ∧ w2.cell? ⟨w.heap.size, 9, none⟩ = some (.int .i64 s) ∧ w2.cell? ⟨w.heap.size, 10, none⟩ = some (.int .i64 L) ∧ w2.cell? ⟨w.heap.size, 11, none⟩ = some (.int .i64 n) ∧ w2.cell? ⟨w.heap.size, 12, none⟩ = some (.bool g) ∧ w2.cell? ⟨w.heap.size + 1, 0, none⟩ = some (.int .i64 px) ∧ w2.cell? ⟨w.heap.size + 1, 1, none⟩ = some (.int .i64 py) := by
        refine ⟨?_, ?_, ?_, ?_, ?_, ?_, ?_, ?_, ?_, ?_, ?_, ?_, ?_, ?_, ?_⟩ <;> (refine cell_below hb2 ?_; repeat (first | (with_reducible assumption) | ((with_reducible refine cell_set ?_ ?_ _); (· first | (simp; done) | (simp; omega) | omega)) | ((with_reducible refine cell_new ?_ ?_); (· (simp; done)); (· rfl)) | (with_reducible refine cell_alloc ?_ _) | (with_reducible refine cell_drew ?_) | (with_reducible refine cell_drewN ?_ _) | (with_reducible refine cell_below (by assumption) ?_)))
      have zf16 : w.heap.size < w2.heap.size := World.block_lt_of_cell? _ _ f16
      have zf29 : w.heap.size + 1 < w2.heap.size := World.block_lt_of_cell? _ _ f29
      clear f1 zf1 f2 f3 f4 f5 f6 f7 f8 f9 f10 f11 f12 f13 f14 zf14 f15
      go_wp2_with fail
      refine (PB _).mono ?_
      rintro e w3 ⟨rfl, hb3⟩
      obtain ⟨f31, f32, f33, f34, f35, f36, f37, f38, f39, f40, f41, f42, f43, f44, f45⟩ : w3.cell? ⟨w.heap.size, 0, none⟩ = some (.bool true) ∧ w3.cell? ⟨w.heap.size, 1, none⟩ = some (.int .i64 ax) ∧ w3.cell? ⟨w.heap.size, 2, none⟩ = some (.int .i64 ay) ∧ w3.cell? ⟨w.heap.size, 3, none⟩ = some (.int .i64 bx) ∧ w3.cell? ⟨w.heap.size, 4, none⟩ = some (.int .i64 b_y) ∧ w3.cell? ⟨w.heap.size, 5, none⟩ = some (.int .i64 cx) ∧ w3.cell? ⟨w.heap.size, 6, none⟩ = some (.int .i64 cy) ∧ w3.cell? ⟨w.heap.size, 7, none⟩ = some (.int .i64 r) ∧ w3.cell? ⟨w.heap.size, 8, none⟩ = some (.int .i64 f) ∧ w3.cell? ⟨w.heap.size, 9, none⟩ = some (.int .i64 s) ∧ w3.cell? ⟨w.heap.size, 10, none⟩ = some (.int .i64 L) ∧ w3.cell? ⟨w.heap.size, 11, none⟩ = some (.int .i64 n) ∧ w3.cell? ⟨w.heap.size, 12, none⟩ = some (.bool g) ∧ w3.cell? ⟨w.heap.size + 1, 0, none⟩ = some (.int .i64 px) ∧ w3.cell? ⟨w.heap.size + 1, 1, none⟩ = some (.int .i64 py) := by
        refine ⟨?_, ?_, ?_, ?_, ?_, ?_, ?_, ?_, ?_, ?_, ?_, ?_, ?_, ?_, ?_⟩ <;> (refine cell_below hb3 ?_; repeat (first | (with_reducible assumption) | ((with_reducible refine cell_set ?_ ?_ _); (· first | (simp; done) | (simp; omega) | omega)) | ((with_reducible refine cell_new ?_ ?_); (· (simp; done)); (· rfl)) | (with_reducible refine cell_alloc ?_ _) | (with_reducible refine cell_drew ?_) | (with_reducible refine cell_drewN ?_ _) | (with_reducible refine cell_below (by assumption) ?_)))
      have zf31 : w.heap.size < w3.heap.size := World.block_lt_of_cell? _ _ f31
      have zf44 : w.heap.size + 1 < w3.heap.size := World.block_lt_of_cell? _ _ f44
      clear f16 zf16 f17 f18 f19 f20 f21 f22 f23 f24 f25 f26 f27 f28 f29 zf29 f30
      go_wp2_with fail
      refine (TV _).mono ?_
      rintro e w4 ⟨rfl, hb4⟩
      obtain ⟨f46, f47, f48, f49, f50, f51, f52, f53, f54, f55, f56, f57, f58, f59, f60, f61, f62, f63, f64, f65⟩ : w4.cell? ⟨w.heap.size, 0, none⟩ = some (.bool true) ∧ w4.cell? ⟨w.heap.size, 1, none⟩ = some (.int .i64 ax) ∧ w4.cell? ⟨w.heap.size, 2, none⟩ = some (.int .i64 ay) ∧ w4.cell? ⟨w.heap.size, 3, none⟩ = some (.int .i64 bx) ∧ w4.cell? ⟨w.heap.size, 4, none⟩ = some (.int .i64 b_y) ∧ w4.cell? ⟨w.heap.size, 5, none⟩ = some (.int .i64 cx) ∧ w4.cell? ⟨w.heap.size, 6, none⟩ = some (.int .i64 cy) ∧ w4.cell? ⟨w.heap.size, 7, none⟩ = some (.int .i64 r) ∧ w4.cell? ⟨w.heap.size, 8, none⟩ = some (.int .i64 f) ∧ w4.cell? ⟨w.heap.size, 9, none⟩ = some (.int .i64 s) ∧ w4.cell? ⟨w.heap.size, 10, none⟩ = some (.int .i64 L) ∧ w4.cell? ⟨w.heap.size, 11, none⟩ = some (.int .i64 n) ∧ w4.cell? ⟨w.heap.size, 12, none⟩ = some (.bool g) ∧ w4.cell? ⟨w.heap.size + 1, 0, none⟩ = some (.int .i64 px) ∧ w4.cell? ⟨w.heap.size + 1, 1, none⟩ = some (.int .i64 py) ∧ w4.cell? ⟨w3.heap.size, 0, none⟩ = some (.int .i64 cx) ∧ w4.cell? ⟨w3.heap.size, 1, none⟩ = some (.int .i64 cy) ∧ w4.cell? ⟨w3.heap.size, 2, none⟩ = some (.int .i64 r) ∧ w4.cell? ⟨w3.heap.size, 3, none⟩ = some (.int .i64 f) ∧ w4.cell? ⟨w3.heap.size, 4, none⟩ = some (.int .i64 s) := by
        refine ⟨?_, ?_, ?_, ?_, ?_, ?_, ?_, ?_, ?_, ?_, ?_, ?_, ?_, ?_, ?_, ?_, ?_, ?_, ?_, ?_⟩ <;> (refine cell_below hb4 ?_; repeat (first | (with_reducible assumption) | ((with_reducible refine cell_set ?_ ?_ _); (· first | (simp; done) | (simp; omega) | omega)) | ((with_reducible refine cell_new ?_ ?_); (· (simp; done)); (· rfl)) | (with_reducible refine cell_alloc ?_ _) | (with_reducible refine cell_drew ?_) | (with_reducible refine cell_drewN ?_ _) | (with_reducible refine cell_below (by assumption) ?_)))
      have zf46 : w.heap.size < w4.heap.size := World.block_lt_of_cell? _ _ f46
      have zf59 : w.heap.size + 1 < w4.heap.size := World.block_lt_of_cell? _ _ f59
      have zf61 : w3.heap.size < w4.heap.size := World.block_lt_of_cell? _ _ f61
      clear f31 zf31 f32 f33 f34 f35 f36 f37 f38 f39 f40 f41 f42 f43 f44 zf44 f45
      go_wp2_with fail
      refine (CS _).mono ?_
      rintro e w5 ⟨rfl, hb5⟩
      obtain ⟨f66, f67, f68, f69, f70, f71, f72, f73, f74, f75, f76, f77, f78, f79, f80, f81, f82, f83, f84, f85⟩ : w5.cell? ⟨w.heap.size, 0, none⟩ = some (.bool true) ∧ w5.cell? ⟨w.heap.size, 1, none⟩ = some (.int .i64 ax) ∧ w5.cell? ⟨w.heap.size, 2, none⟩ = some (.int .i64 ay) ∧ w5.cell? ⟨w.heap.size, 3, none⟩ = some (.int .i64 bx) ∧ w5.cell? ⟨w.heap.size, 4, none⟩ = some (.int .i64 b_y) ∧ w5.cell? ⟨w.heap.size, 5, none⟩ = some (.int .i64 cx) ∧ w5.cell? ⟨w.heap.size, 6, none⟩ = some (.int .i64 cy) ∧ w5.cell? ⟨w.heap.size, 7, none⟩ = some (.int .i64 r) ∧ w5.cell? ⟨w.heap.size, 8, none⟩ = some (.int .i64 f) ∧ w5.cell? ⟨w.heap.size, 9, none⟩ = some (.int .i64 s) ∧ w5.cell? ⟨w.heap.size, 10, none⟩ = some (.int .i64 L) ∧ w5.cell? ⟨w.heap.size, 11, none⟩ = some (.int .i64 n) ∧ w5.cell? ⟨w.heap.size, 12, none⟩ = some (.bool g) ∧ w5.cell? ⟨w.heap.size + 1, 0, none⟩ = some (.int .i64 px) ∧ w5.cell? ⟨w.heap.size + 1, 1, none⟩ = some (.int .i64 py) ∧ w5.cell? ⟨w3.heap.size, 0, none⟩ = some (.int .i64 cx) ∧ w5.cell? ⟨w3.heap.size, 1, none⟩ = some (.int .i64 cy) ∧ w5.cell? ⟨w3.heap.size, 2, none⟩ = some (.int .i64 r) ∧ w5.cell? ⟨w3.heap.size, 3, none⟩ = some (.int .i64 f) ∧ w5.cell? ⟨w3.heap.size, 4, none⟩ = some (.int .i64 s) := by
        refine ⟨?_, ?_, ?_, ?_, ?_, ?_, ?_, ?_, ?_, ?_, ?_, ?_, ?_, ?_, ?_, ?_, ?_, ?_, ?_, ?_⟩ <;> (refine cell_below hb5 ?_; repeat (first | (with_reducible assumption) | ((with_reducible refine cell_set ?_ ?_ _); (· first | (simp; done) | (simp; omega) | omega)) | ((with_reducible refine cell_new ?_ ?_); (· (simp; done)); (· rfl)) | (with_reducible refine cell_alloc ?_ _) | (with_reducible refine cell_drew ?_) | (with_reducible refine cell_drewN ?_ _) | (with_reducible refine cell_below (by assumption) ?_)))
      have zf66 : w.heap.size < w5.heap.size := World.block_lt_of_cell? _ _ f66
      have zf79 : w.heap.size + 1 < w5.heap.size := World.block_lt_of_cell? _ _ f79
      have zf81 : w3.heap.size < w5.heap.size := World.block_lt_of_cell? _ _ f81
      clear f46 zf46 f47 f48 f49 f50 f51 f52 f53 f54 f55 f56 f57 f58 f59 zf59 f60 f61 zf61 f62 f63 f64 f65
      go_wp2_with fail
      go_quiet ((first | (go_at_call 24; exact quiet_l (SW _)) | (go_at_call 25; exact quiet_l (AB _))))
      go_wp2_with fail
      all_goals
        go_ret
        exact ⟨ret_bool (by rw [Bool.eq_iff_iff]; simp; try omega), by (repeat (with_reducible (first | assumption | exact Below.refl _ _ | refine Below.drew ?_ | refine below_drewN ?_ _ | refine below_set ?_ (by simp; try omega) _ | refine below_alloc ?_ (Nat.le_refl _) _ | refine below_sub (by assumption) ?_)))⟩
theorem overp_any (c g : Bool) (ax ay bx b_y cx cy r f s L n px py : Int) (w : World) :
    Calls Tryz.prog 13 #[.agg #[.bool c, .int .i64 ax, .int .i64 ay, .int .i64 bx, .int .i64 b_y, .int .i64 cx, .int .i64 cy, .int .i64 r, .int .i64 f, .int .i64 s, .int .i64 L, .int .i64 n, .bool g], .agg #[.int .i64 px, .int .i64 py]] w fun e w' => e = .returned (.bool (overF c ax ay bx b_y cx cy r f s px py)) ∧ Below w.heap.size w w' := by
  unfold overF
  rcases hv : (vldB px py && vldB ax ay && vldB bx b_y) with _ | _
  · exact overp_bad ax ay bx b_y cx cy r f s L n px py c g _ _ _ rfl rfl rfl hv w
  · have hv' : (vldB px py = true ∧ vldB ax ay = true) ∧ vldB bx b_y = true := by simpa using hv
    obtain ⟨⟨hq, ha⟩, hb⟩ := hv'
    rw [if_neg (by simp)]
    rcases c with _ | _
    · rw [if_neg (by simp)]
      exact overp_line ax ay bx b_y cx cy r f s L n px py g hq ha hb w
    · rw [if_pos rfl]
      rcases hB : arcB cx cy r f s with _ | _
      · exact overp_arcno ax ay bx b_y cx cy r f s L n px py g hq ha hb hB w
      · by_cases he : px = cx ∧ py = cy
        · obtain ⟨rfl, rfl⟩ := he
          rw [if_pos (by simp)]
          exact overp_mid ax ay bx b_y r f s L n px py g hq ha hb hB w
        · rw [if_neg (by simp [he])]
          exact overp_arc ax ay bx b_y cx cy r f s L n px py g hq ha hb hB he w
end Go.Proofs.YtdfkkknkiioghaaGreat

