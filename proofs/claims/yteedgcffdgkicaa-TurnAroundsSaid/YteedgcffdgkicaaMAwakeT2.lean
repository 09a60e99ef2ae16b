/-
  The walk of the examples of chapter 12.
-/
import Derived.Test.YteedgcffdgkicaaMLawsT
import Derived.Test.YteedgcffdgkicaaMTurnB2
import Derived.Test.YteedgcffdgkicaaMTurnC2
import Derived.Test.YteedgcffdgkicaaMTurnF2
import Derived.Test.YteedgcffdgkicaaMTurnE2
import Derived.Test.YteedgcffdgkicaaMTurnD2
namespace Go.Proofs.Yteedgcffdgkicaa
open Go.RowKit
set_option linter.unusedVariables false
set_option linter.unusedSimpArgs false
set_option maxHeartbeats 400000 in
theorem near_true (a b k : Int) (h1 : -1000000000000 ≤ a) (h2 : a ≤ 1000000000000) (h3 : -1000000000000 ≤ b) (h4 : b ≤ 1000000000000) (k1 : a - b ≤ k) (k2 : b - a ≤ k) (w : World) :
    Calls Try.prog 27 #[.int .i64 a, .int .i64 b, .int .i64 k] w fun e w' => e = .returned (.bool true) ∧ w = w' := by
  go_enter Try.func27, Try.ntmps27
  go_wp2
  all_goals
    go_ret
    exact ⟨ret_bool (by first | rfl | (simp; done) | (simp; omega)), rfl⟩
set_option maxHeartbeats 1000000 in
theorem beside_any (px py qx qy k : Int) (h1 : -4000000 ≤ px) (h2 : px ≤ 4000000) (h3 : -4000000 ≤ py) (h4 : py ≤ 4000000) (h5 : -4000000 ≤ qx) (h6 : qx ≤ 4000000) (h7 : -4000000 ≤ qy) (h8 : qy ≤ 4000000)
    (k1 : px - qx ≤ k) (k2 : qx - px ≤ k) (k3 : py - qy ≤ k) (k4 : qy - py ≤ k) (w : World) :
    Calls Try.prog 32 #[.agg #[.int .i64 px, .int .i64 py], .agg #[.int .i64 qx, .int .i64 qy], .int .i64 k] w fun e w' => e = .returned (.bool true) ∧ Below w.heap.size w w' := by
  go_enter Try.func32, Try.ntmps32
  go_wp2
  all_goals
    go_ret
    exact ⟨ret_bool (by first | rfl | (simp; done) | (simp; omega)), by (repeat (with_reducible (first | assumption | exact Below.refl _ _ | refine Below.drew ?_ | refine below_drewN ?_ _ | refine below_set ?_ (by simp; try omega) _ | refine below_alloc ?_ (Nat.le_refl _) _ | refine below_sub (by assumption) ?_)))⟩
set_option maxRecDepth 100000 in
set_option maxHeartbeats 4000000 in
theorem awake12_any (w : World) : Calls Try.prog 20 #[] w fun e w' => e = .returned (.bool true) ∧ Below w.heap.size w w' := by
  go_enter Try.func20, Try.ntmps20
  go_wp2_with fail
  refine (arcat_any 0 0 6000 0 32400000 9425 _ (6000, 0, 64800000, 0) aw12_at.symm).mono ?_
  rintro e w1 ⟨rfl, hb1⟩
  obtain ⟨f1, f2, f3, f4, f5⟩ : w1.cell? ⟨w.heap.size, 0, none⟩ = some (.int .i64 0) ∧ w1.cell? ⟨w.heap.size, 1, none⟩ = some (.int .i64 0) ∧ w1.cell? ⟨w.heap.size, 2, none⟩ = some (.int .i64 6000) ∧ w1.cell? ⟨w.heap.size, 3, none⟩ = some (.int .i64 0) ∧ w1.cell? ⟨w.heap.size, 4, none⟩ = some (.int .i64 32400000) := by
    refine ⟨?_, ?_, ?_, ?_, ?_⟩ <;> (refine cell_below hb1 ?_; repeat (first | (with_reducible assumption) | (with_reducible refine cell_drew ?_) | (with_reducible refine cell_drewN ?_ _) | (with_reducible refine cell_below (by assumption) ?_) | ((with_reducible refine cell_new ?_ ?_); (· (simp; done)); (· rfl)) | (with_reducible refine cell_alloc ?_ _) | ((with_reducible refine cell_set ?_ ?_ _); (· first | (simp; done) | (simp; omega) | omega))))
  have zf1 : w.heap.size < w1.heap.size := World.block_lt_of_cell? _ _ f1
  go_wp2_with fail
  refine (aoff_any 0 0 6000 0 32400000 3000 0 _ (3000, 9425, 0) aw12_off.symm).mono ?_
  rintro e w2 ⟨rfl, hb2⟩
  obtain ⟨f6, f7, f8, f9, f10, f11, f12⟩ : w2.cell? ⟨w.heap.size, 0, none⟩ = some (.int .i64 0) ∧ w2.cell? ⟨w.heap.size, 1, none⟩ = some (.int .i64 0) ∧ w2.cell? ⟨w.heap.size, 2, none⟩ = some (.int .i64 6000) ∧ w2.cell? ⟨w.heap.size, 3, none⟩ = some (.int .i64 0) ∧ w2.cell? ⟨w.heap.size, 4, none⟩ = some (.int .i64 32400000) ∧ w2.cell? ⟨w1.heap.size, 0, none⟩ = some (.int .i64 6000) ∧ w2.cell? ⟨w1.heap.size, 1, none⟩ = some (.int .i64 0) := by
    refine ⟨?_, ?_, ?_, ?_, ?_, ?_, ?_⟩ <;> (refine cell_below hb2 ?_; repeat (first | (with_reducible assumption) | (with_reducible refine cell_drew ?_) | (with_reducible refine cell_drewN ?_ _) | (with_reducible refine cell_below (by assumption) ?_) | ((with_reducible refine cell_new ?_ ?_); (· (simp; done)); (· rfl)) | (with_reducible refine cell_alloc ?_ _) | ((with_reducible refine cell_set ?_ ?_ _); (· first | (simp; done) | (simp; omega) | omega))))
  have zf6 : w.heap.size < w2.heap.size := World.block_lt_of_cell? _ _ f6
  have zf11 : w1.heap.size < w2.heap.size := World.block_lt_of_cell? _ _ f11
  clear f1 zf1 f2 f3 f4 f5
  go_wp2_with fail
  refine (tlen_any 0 0 6000 0 32400000 _).mono ?_
  rintro e w3 ⟨rfl, hb3⟩
  rw [aw12_len]
  obtain ⟨f13, f14, f15, f16, f17, f18, f19⟩ : w3.cell? ⟨w.heap.size, 0, none⟩ = some (.int .i64 0) ∧ w3.cell? ⟨w.heap.size, 1, none⟩ = some (.int .i64 0) ∧ w3.cell? ⟨w.heap.size, 2, none⟩ = some (.int .i64 6000) ∧ w3.cell? ⟨w.heap.size, 3, none⟩ = some (.int .i64 0) ∧ w3.cell? ⟨w.heap.size, 4, none⟩ = some (.int .i64 32400000) ∧ w3.cell? ⟨w1.heap.size, 0, none⟩ = some (.int .i64 6000) ∧ w3.cell? ⟨w1.heap.size, 1, none⟩ = some (.int .i64 0) := by
    refine ⟨?_, ?_, ?_, ?_, ?_, ?_, ?_⟩ <;> (refine cell_below hb3 ?_; repeat (first | (with_reducible assumption) | (with_reducible refine cell_drew ?_) | (with_reducible refine cell_drewN ?_ _) | (with_reducible refine cell_below (by assumption) ?_) | ((with_reducible refine cell_new ?_ ?_); (· (simp; done)); (· rfl)) | (with_reducible refine cell_alloc ?_ _) | ((with_reducible refine cell_set ?_ ?_ _); (· first | (simp; done) | (simp; omega) | omega))))
  have zf13 : w.heap.size < w3.heap.size := World.block_lt_of_cell? _ _ f13
  have zf18 : w1.heap.size < w3.heap.size := World.block_lt_of_cell? _ _ f18
  clear f6 zf6 f7 f8 f9 f10 f11 zf11 f12
  go_wp2_with fail
  refine (fly_any 0 (-10000) 0 0 10000 0 1000 (by unfold I64; omega) _ 1000 (-1000) 1000 97200000 32400000 0 (-1000) 1000 0 1000 0 aw12_fly.symm).mono ?_
  rintro e w4 ⟨rfl, hb4⟩
  obtain ⟨f20, f21, f22, f23, f24, f25, f26⟩ : w4.cell? ⟨w.heap.size, 0, none⟩ = some (.int .i64 0) ∧ w4.cell? ⟨w.heap.size, 1, none⟩ = some (.int .i64 0) ∧ w4.cell? ⟨w.heap.size, 2, none⟩ = some (.int .i64 6000) ∧ w4.cell? ⟨w.heap.size, 3, none⟩ = some (.int .i64 0) ∧ w4.cell? ⟨w.heap.size, 4, none⟩ = some (.int .i64 32400000) ∧ w4.cell? ⟨w1.heap.size, 0, none⟩ = some (.int .i64 6000) ∧ w4.cell? ⟨w1.heap.size, 1, none⟩ = some (.int .i64 0) := by
    refine ⟨?_, ?_, ?_, ?_, ?_, ?_, ?_⟩ <;> (refine cell_below hb4 ?_; repeat (first | (with_reducible assumption) | (with_reducible refine cell_drew ?_) | (with_reducible refine cell_drewN ?_ _) | (with_reducible refine cell_below (by assumption) ?_) | ((with_reducible refine cell_new ?_ ?_); (· (simp; done)); (· rfl)) | (with_reducible refine cell_alloc ?_ _) | ((with_reducible refine cell_set ?_ ?_ _); (· first | (simp; done) | (simp; omega) | omega))))
  have zf20 : w.heap.size < w4.heap.size := World.block_lt_of_cell? _ _ f20
  have zf25 : w1.heap.size < w4.heap.size := World.block_lt_of_cell? _ _ f25
  clear f13 zf13 f14 f15 f16 f17 f18 zf18 f19
  go_wp2_with fail
  refine (tan_r 0 0 3000 0 5000 (by unfold I64; omega) _ (-2400) 1800 0 aw12_tan.symm).mono ?_
  rintro e w5 ⟨rfl, hb5⟩
  obtain ⟨f27, f28, f29, f30, f31, f32, f33, f34, f35, f36, f37, f38, f39, f40, f41, f42, f43⟩ : w5.cell? ⟨w.heap.size, 0, none⟩ = some (.int .i64 0) ∧ w5.cell? ⟨w.heap.size, 1, none⟩ = some (.int .i64 0) ∧ w5.cell? ⟨w.heap.size, 2, none⟩ = some (.int .i64 6000) ∧ w5.cell? ⟨w.heap.size, 3, none⟩ = some (.int .i64 0) ∧ w5.cell? ⟨w.heap.size, 4, none⟩ = some (.int .i64 32400000) ∧ w5.cell? ⟨w1.heap.size, 0, none⟩ = some (.int .i64 6000) ∧ w5.cell? ⟨w1.heap.size, 1, none⟩ = some (.int .i64 0) ∧ w5.cell? ⟨w4.heap.size, 0, none⟩ = some (.int .i64 1000) ∧ w5.cell? ⟨w4.heap.size, 1, none⟩ = some (.int .i64 (-1000)) ∧ w5.cell? ⟨w4.heap.size, 2, none⟩ = some (.int .i64 1000) ∧ w5.cell? ⟨w4.heap.size, 3, none⟩ = some (.int .i64 97200000) ∧ w5.cell? ⟨w4.heap.size, 4, none⟩ = some (.int .i64 32400000) ∧ w5.cell? ⟨w4.heap.size, 5, none⟩ = some (.int .i64 0) ∧ w5.cell? ⟨w4.heap.size, 6, none⟩ = some (.int .i64 (-1000)) ∧ w5.cell? ⟨w4.heap.size, 7, none⟩ = some (.int .i64 1000) ∧ w5.cell? ⟨w4.heap.size, 8, none⟩ = some (.int .i64 0) ∧ w5.cell? ⟨w4.heap.size, 9, none⟩ = some (.int .i64 1000) := by
    refine ⟨?_, ?_, ?_, ?_, ?_, ?_, ?_, ?_, ?_, ?_, ?_, ?_, ?_, ?_, ?_, ?_, ?_⟩ <;> (refine cell_below hb5 ?_; repeat (first | (with_reducible assumption) | (with_reducible refine cell_drew ?_) | (with_reducible refine cell_drewN ?_ _) | (with_reducible refine cell_below (by assumption) ?_) | ((with_reducible refine cell_new ?_ ?_); (· (simp; done)); (· rfl)) | (with_reducible refine cell_alloc ?_ _) | ((with_reducible refine cell_set ?_ ?_ _); (· first | (simp; done) | (simp; omega) | omega))))
  have zf27 : w.heap.size < w5.heap.size := World.block_lt_of_cell? _ _ f27
  have zf32 : w1.heap.size < w5.heap.size := World.block_lt_of_cell? _ _ f32
  have zf34 : w4.heap.size < w5.heap.size := World.block_lt_of_cell? _ _ f34
  clear f20 zf20 f21 f22 f23 f24 f25 zf25 f26
  go_wp2_with fail
  refine (around_l 0 100 0 0 100 0 _ 0 0 100 0 (-97200000) 0 aw12_around.symm).mono ?_
  rintro e w6 ⟨rfl, hb6⟩
  obtain ⟨f44, f45, f46, f47, f48, f49, f50, f51, f52, f53, f54, f55, f56, f57, f58, f59, f60, f61, f62⟩ : w6.cell? ⟨w.heap.size, 0, none⟩ = some (.int .i64 0) ∧ w6.cell? ⟨w.heap.size, 1, none⟩ = some (.int .i64 0) ∧ w6.cell? ⟨w.heap.size, 2, none⟩ = some (.int .i64 6000) ∧ w6.cell? ⟨w.heap.size, 3, none⟩ = some (.int .i64 0) ∧ w6.cell? ⟨w.heap.size, 4, none⟩ = some (.int .i64 32400000) ∧ w6.cell? ⟨w1.heap.size, 0, none⟩ = some (.int .i64 6000) ∧ w6.cell? ⟨w1.heap.size, 1, none⟩ = some (.int .i64 0) ∧ w6.cell? ⟨w4.heap.size, 0, none⟩ = some (.int .i64 1000) ∧ w6.cell? ⟨w4.heap.size, 1, none⟩ = some (.int .i64 (-1000)) ∧ w6.cell? ⟨w4.heap.size, 2, none⟩ = some (.int .i64 1000) ∧ w6.cell? ⟨w4.heap.size, 3, none⟩ = some (.int .i64 97200000) ∧ w6.cell? ⟨w4.heap.size, 4, none⟩ = some (.int .i64 32400000) ∧ w6.cell? ⟨w4.heap.size, 5, none⟩ = some (.int .i64 0) ∧ w6.cell? ⟨w4.heap.size, 6, none⟩ = some (.int .i64 (-1000)) ∧ w6.cell? ⟨w4.heap.size, 7, none⟩ = some (.int .i64 1000) ∧ w6.cell? ⟨w4.heap.size, 8, none⟩ = some (.int .i64 0) ∧ w6.cell? ⟨w4.heap.size, 9, none⟩ = some (.int .i64 1000) ∧ w6.cell? ⟨w5.heap.size, 0, none⟩ = some (.int .i64 (-2400)) ∧ w6.cell? ⟨w5.heap.size, 1, none⟩ = some (.int .i64 1800) := by
    refine ⟨?_, ?_, ?_, ?_, ?_, ?_, ?_, ?_, ?_, ?_, ?_, ?_, ?_, ?_, ?_, ?_, ?_, ?_, ?_⟩ <;> (refine cell_below hb6 ?_; repeat (first | (with_reducible assumption) | (with_reducible refine cell_drew ?_) | (with_reducible refine cell_drewN ?_ _) | (with_reducible refine cell_below (by assumption) ?_) | ((with_reducible refine cell_new ?_ ?_); (· (simp; done)); (· rfl)) | (with_reducible refine cell_alloc ?_ _) | ((with_reducible refine cell_set ?_ ?_ _); (· first | (simp; done) | (simp; omega) | omega))))
  have zf44 : w.heap.size < w6.heap.size := World.block_lt_of_cell? _ _ f44
  have zf49 : w1.heap.size < w6.heap.size := World.block_lt_of_cell? _ _ f49
  have zf51 : w4.heap.size < w6.heap.size := World.block_lt_of_cell? _ _ f51
  have zf61 : w5.heap.size < w6.heap.size := World.block_lt_of_cell? _ _ f61
  clear f27 zf27 f28 f29 f30 f31 f32 zf32 f33 f34 zf34 f35 f36 f37 f38 f39 f40 f41 f42 f43
  go_wp2_with fail
  go_ret
  exact ⟨rfl, by (repeat (with_reducible (first | assumption | exact Below.refl _ _ | refine Below.drew ?_ | refine below_drewN ?_ _ | refine below_set ?_ (by simp; try omega) _ | refine below_alloc ?_ (Nat.le_refl _) _ | refine below_sub (by assumption) ?_)))⟩
end Go.Proofs.Yteedgcffdgkicaa

