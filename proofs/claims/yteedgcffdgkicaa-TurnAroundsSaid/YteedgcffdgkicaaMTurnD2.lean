/-
  The walks of Around.
-/
import Derived.Test.YteedgcffdgkicaaMTurnA2
import Derived.Test.YteedgcffdgkicaaMLineD
import Derived.Test.YteedgcffdgkicaaMLaws
namespace Go.Proofs.Yteedgcffdgkicaa
open Go.RowKit
set_option linter.unusedVariables false
set_option linter.unusedSimpArgs false
theorem around_no {ax ay cx cy bx b_y : Int} {right : Bool} (h : (vldB ax ay && vldB cx cy && vldB bx b_y) = false) : aroundF ax ay cx cy bx b_y right = (zeros5, 1) := by unfold aroundF; rw [h]; rfl
theorem around_far {ax ay cx cy bx b_y : Int} {right : Bool} (h : (vldB ax ay && vldB cx cy && vldB bx b_y) = true) (h2 : distF cx cy ax ay = 0 ∨ distF cx cy bx b_y = 0 ∨ distF cx cy ax ay - distF cx cy bx b_y > 8 ∨ distF cx cy bx b_y - distF cx cy ax ay > 8) : aroundF ax ay cx cy bx b_y right = (zeros5, 10) := by
  unfold aroundF; rw [h, if_neg (by simp), if_pos h2]
theorem dist_self (ax ay : Int) : distF ax ay ax ay = 0 := by
  unfold distF dist2
  rw [Int.sub_self, Int.sub_self]
  split
  · decide +kernel
  · rfl
theorem around_in {ax ay cx cy bx b_y : Int} {right : Bool} (h : (vldB ax ay && vldB cx cy && vldB bx b_y) = true) (h2 : ¬ (distF cx cy ax ay = 0 ∨ distF cx cy bx b_y = 0 ∨ distF cx cy ax ay - distF cx cy bx b_y > 8 ∨ distF cx cy bx b_y - distF cx cy ax ay > 8)) :
    aroundF ax ay cx cy bx b_y right = ([cx, cy, distF cx cy ax ay, (courseF cx cy ax ay).1, arSweep right (courseF cx cy ax ay).1 (courseF cx cy bx b_y).1], 0) := by
  have hv : (vldB ax ay = true ∧ vldB cx cy = true) ∧ vldB bx b_y = true := by simpa using h
  have e1 : ¬ (cx = ax ∧ cy = ay) := fun e => h2 (.inl (by rw [← e.1, ← e.2]; exact dist_self cx cy))
  have e2 : ¬ (cx = bx ∧ cy = b_y) := fun e => h2 (.inr (.inl (by rw [← e.1, ← e.2]; exact dist_self cx cy)))
  unfold aroundF
  rw [h, if_neg (by simp), if_neg h2]
  unfold courseF
  rw [hv.1.1, hv.1.2, hv.2, if_neg (by simp), if_neg e1, if_neg (by simp), if_neg e2]
def MineC7 (W : World) (b i : Nat) : Prop := W.cell? ⟨b, i, none⟩ = some (cellV W ⟨b, i, none⟩) ∧ W.frozen? ⟨b, i, none⟩ = false
set_option maxRecDepth 100000 in
set_option maxHeartbeats 4000000 in
theorem around_l (ax ay cx cy bx b_y : Int) (w : World) (v0 v1 v2 v3 v4 e0 : Int) (hR : ([v0, v1, v2, v3, v4], e0) = aroundF ax ay cx cy bx b_y false) :
    Calls Try.prog 35 #[.agg #[.int .i64 ax, .int .i64 ay], .agg #[.int .i64 cx, .int .i64 cy], .agg #[.int .i64 bx, .int .i64 b_y], .int .u8 1] w fun e w' => e = .returned (.tuple #[.agg #[.int .i64 v0, .int .i64 v1, .int .i64 v2, .int .i64 v3, .int .i64 v4], .int .i64 e0]) ∧ Below w.heap.size w w' := by
  rcases h0 : vldB ax ay with _ | _
  · rw [around_no (by rw [h0]; rfl)] at hR
    obtain ⟨⟨rfl, rfl, rfl, rfl, rfl⟩, rfl⟩ : (v0 = 0 ∧ v1 = 0 ∧ v2 = 0 ∧ v3 = 0 ∧ v4 = 0) ∧ e0 = 1 := by simpa [zeros5] using hR
    have PV0 := fun W => pvalid_e ax ay false h0 W
    clear hR h0
    go_enter Try.func35, Try.ntmps35
    go_wp2_with fail
    refine (PV0 _).mono ?_
    rintro e w1 ⟨rfl, hb1⟩
    obtain ⟨f1, f2, f3, f4, f5, f6⟩ : w1.cell? ⟨w.heap.size, 0, none⟩ = some (.int .i64 ax) ∧ w1.cell? ⟨w.heap.size, 1, none⟩ = some (.int .i64 ay) ∧ w1.cell? ⟨w.heap.size + 1, 0, none⟩ = some (.int .i64 cx) ∧ w1.cell? ⟨w.heap.size + 1, 1, none⟩ = some (.int .i64 cy) ∧ w1.cell? ⟨w.heap.size + 1 + 1, 0, none⟩ = some (.int .i64 bx) ∧ w1.cell? ⟨w.heap.size + 1 + 1, 1, none⟩ = some (.int .i64 b_y) := by
      refine ⟨?_, ?_, ?_, ?_, ?_, ?_⟩ <;> (refine cell_below hb1 ?_; repeat (first | (with_reducible assumption) | (with_reducible refine cell_drew ?_) | (with_reducible refine cell_drewN ?_ _) | (with_reducible refine cell_below (by assumption) ?_) | ((with_reducible refine cell_new ?_ ?_); (· (simp; done)); (· rfl)) | (with_reducible refine cell_alloc ?_ _) | ((with_reducible refine cell_set ?_ ?_ _); (· first | (simp; done) | (simp; omega) | omega))))
    have zf1 : w.heap.size < w1.heap.size := World.block_lt_of_cell? _ _ f1
    have zf3 : w.heap.size + 1 < w1.heap.size := World.block_lt_of_cell? _ _ f3
    have zf5 : w.heap.size + 1 + 1 < w1.heap.size := World.block_lt_of_cell? _ _ f5
    obtain ⟨⟨m7a, m7b⟩, ⟨m8a, m8b⟩, ⟨m9a, m9b⟩, ⟨m10a, m10b⟩, ⟨m11a, m11b⟩⟩ : MineC7 w1 (w.heap.size + 1 + 1 + 1) 0 ∧ MineC7 w1 (w.heap.size + 1 + 1 + 1) 1 ∧ MineC7 w1 (w.heap.size + 1 + 1 + 1) 2 ∧ MineC7 w1 (w.heap.size + 1 + 1 + 1) 3 ∧ MineC7 w1 (w.heap.size + 1 + 1 + 1) 4 := by
      refine ⟨?_, ?_, ?_, ?_, ?_⟩ <;> (refine mine_below hb1 (mine_of (v := .int .i64 0) ?_ ?_) <;> simp [go_sem])
    have zm7 : w.heap.size + 1 + 1 + 1 < w1.heap.size := World.block_lt_of_cell? _ _ m7a
    go_wp2_with fail
    exact bodyPost_ret (v := .tuple #[.agg #[.int .i64 0, .int .i64 0, .int .i64 0, .int .i64 0, .int .i64 0], .int .i64 1]) (by simp [results, Try.results35, go_sem, *]) rfl ⟨rfl, by (repeat (with_reducible (first | assumption | exact Below.refl _ _ | refine Below.drew ?_ | refine below_drewN ?_ _ | refine below_set ?_ (by simp; try omega) _ | refine below_alloc ?_ (Nat.le_refl _) _ | refine below_sub (by assumption) ?_)))⟩
  have PV0 := fun W => pvalid_e ax ay true h0 W
  rcases h1 : vldB cx cy with _ | _
  · rw [around_no (by rw [h0, h1]; rfl)] at hR
    obtain ⟨⟨rfl, rfl, rfl, rfl, rfl⟩, rfl⟩ : (v0 = 0 ∧ v1 = 0 ∧ v2 = 0 ∧ v3 = 0 ∧ v4 = 0) ∧ e0 = 1 := by simpa [zeros5] using hR
    have PV1 := fun W => pvalid_e cx cy false h1 W
    clear hR h0 h1
    go_enter Try.func35, Try.ntmps35
    go_wp2_with fail
    refine (PV0 _).mono ?_
    rintro e w1 ⟨rfl, hb1⟩
    obtain ⟨f1, f2, f3, f4, f5, f6⟩ : w1.cell? ⟨w.heap.size, 0, none⟩ = some (.int .i64 ax) ∧ w1.cell? ⟨w.heap.size, 1, none⟩ = some (.int .i64 ay) ∧ w1.cell? ⟨w.heap.size + 1, 0, none⟩ = some (.int .i64 cx) ∧ w1.cell? ⟨w.heap.size + 1, 1, none⟩ = some (.int .i64 cy) ∧ w1.cell? ⟨w.heap.size + 1 + 1, 0, none⟩ = some (.int .i64 bx) ∧ w1.cell? ⟨w.heap.size + 1 + 1, 1, none⟩ = some (.int .i64 b_y) := by
      refine ⟨?_, ?_, ?_, ?_, ?_, ?_⟩ <;> (refine cell_below hb1 ?_; repeat (first | (with_reducible assumption) | (with_reducible refine cell_drew ?_) | (with_reducible refine cell_drewN ?_ _) | (with_reducible refine cell_below (by assumption) ?_) | ((with_reducible refine cell_new ?_ ?_); (· (simp; done)); (· rfl)) | (with_reducible refine cell_alloc ?_ _) | ((with_reducible refine cell_set ?_ ?_ _); (· first | (simp; done) | (simp; omega) | omega))))
    have zf1 : w.heap.size < w1.heap.size := World.block_lt_of_cell? _ _ f1
    have zf3 : w.heap.size + 1 < w1.heap.size := World.block_lt_of_cell? _ _ f3
    have zf5 : w.heap.size + 1 + 1 < w1.heap.size := World.block_lt_of_cell? _ _ f5
    obtain ⟨⟨m7a, m7b⟩, ⟨m8a, m8b⟩, ⟨m9a, m9b⟩, ⟨m10a, m10b⟩, ⟨m11a, m11b⟩⟩ : MineC7 w1 (w.heap.size + 1 + 1 + 1) 0 ∧ MineC7 w1 (w.heap.size + 1 + 1 + 1) 1 ∧ MineC7 w1 (w.heap.size + 1 + 1 + 1) 2 ∧ MineC7 w1 (w.heap.size + 1 + 1 + 1) 3 ∧ MineC7 w1 (w.heap.size + 1 + 1 + 1) 4 := by
      refine ⟨?_, ?_, ?_, ?_, ?_⟩ <;> (refine mine_below hb1 (mine_of (v := .int .i64 0) ?_ ?_) <;> simp [go_sem])
    have zm7 : w.heap.size + 1 + 1 + 1 < w1.heap.size := World.block_lt_of_cell? _ _ m7a
    go_wp2_with fail
    refine (PV1 _).mono ?_
    rintro e w2 ⟨rfl, hb2⟩
    obtain ⟨f12, f13, f14, f15, f16, f17⟩ : w2.cell? ⟨w.heap.size, 0, none⟩ = some (.int .i64 ax) ∧ w2.cell? ⟨w.heap.size, 1, none⟩ = some (.int .i64 ay) ∧ w2.cell? ⟨w.heap.size + 1, 0, none⟩ = some (.int .i64 cx) ∧ w2.cell? ⟨w.heap.size + 1, 1, none⟩ = some (.int .i64 cy) ∧ w2.cell? ⟨w.heap.size + 1 + 1, 0, none⟩ = some (.int .i64 bx) ∧ w2.cell? ⟨w.heap.size + 1 + 1, 1, none⟩ = some (.int .i64 b_y) := by
      refine ⟨?_, ?_, ?_, ?_, ?_, ?_⟩ <;> (refine cell_below hb2 ?_; repeat (first | (with_reducible assumption) | (with_reducible refine cell_drew ?_) | (with_reducible refine cell_drewN ?_ _) | (with_reducible refine cell_below (by assumption) ?_) | ((with_reducible refine cell_new ?_ ?_); (· (simp; done)); (· rfl)) | (with_reducible refine cell_alloc ?_ _) | ((with_reducible refine cell_set ?_ ?_ _); (· first | (simp; done) | (simp; omega) | omega))))
    have zf12 : w.heap.size < w2.heap.size := World.block_lt_of_cell? _ _ f12
    have zf14 : w.heap.size + 1 < w2.heap.size := World.block_lt_of_cell? _ _ f14
    have zf16 : w.heap.size + 1 + 1 < w2.heap.size := World.block_lt_of_cell? _ _ f16
    obtain ⟨⟨m18a, m18b⟩, ⟨m19a, m19b⟩, ⟨m20a, m20b⟩, ⟨m21a, m21b⟩, ⟨m22a, m22b⟩⟩ : MineC7 w2 (w.heap.size + 1 + 1 + 1) 0 ∧ MineC7 w2 (w.heap.size + 1 + 1 + 1) 1 ∧ MineC7 w2 (w.heap.size + 1 + 1 + 1) 2 ∧ MineC7 w2 (w.heap.size + 1 + 1 + 1) 3 ∧ MineC7 w2 (w.heap.size + 1 + 1 + 1) 4 := by
      refine ⟨?_, ?_, ?_, ?_, ?_⟩ <;> (refine mine_below hb2 ?_; repeat (first | (with_reducible exact ⟨by assumption, by assumption⟩) | (with_reducible refine mine_drew ?_) | (with_reducible refine mine_drewN ?_ _) | (with_reducible refine mine_below (by assumption) ?_) | ((with_reducible refine mine_new ?_ ?_); (· (simp; done)); (· rfl)) | (with_reducible refine mine_alloc ?_ _) | (with_reducible refine mine_set ?_ _ _)))
    have zm18 : w.heap.size + 1 + 1 + 1 < w2.heap.size := World.block_lt_of_cell? _ _ m18a
    clear f1 zf1 f2 f3 zf3 f4 f5 zf5 f6 m7a m7b zm7 m8a m8b m9a m9b m10a m10b m11a m11b
    go_wp2_with fail
    exact bodyPost_ret (v := .tuple #[.agg #[.int .i64 0, .int .i64 0, .int .i64 0, .int .i64 0, .int .i64 0], .int .i64 1]) (by simp [results, Try.results35, go_sem, *]) rfl ⟨rfl, by (repeat (with_reducible (first | assumption | exact Below.refl _ _ | refine Below.drew ?_ | refine below_drewN ?_ _ | refine below_set ?_ (by simp; try omega) _ | refine below_alloc ?_ (Nat.le_refl _) _ | refine below_sub (by assumption) ?_)))⟩
  have PV1 := fun W => pvalid_e cx cy true h1 W
  rcases h2 : vldB bx b_y with _ | _
  · rw [around_no (by rw [h0, h1, h2]; rfl)] at hR
    obtain ⟨⟨rfl, rfl, rfl, rfl, rfl⟩, rfl⟩ : (v0 = 0 ∧ v1 = 0 ∧ v2 = 0 ∧ v3 = 0 ∧ v4 = 0) ∧ e0 = 1 := by simpa [zeros5] using hR
    have PV2 := fun W => pvalid_e bx b_y false h2 W
    clear hR h0 h1 h2
    go_enter Try.func35, Try.ntmps35
    go_wp2_with fail
    refine (PV0 _).mono ?_
    rintro e w1 ⟨rfl, hb1⟩
    obtain ⟨f1, f2, f3, f4, f5, f6⟩ : w1.cell? ⟨w.heap.size, 0, none⟩ = some (.int .i64 ax) ∧ w1.cell? ⟨w.heap.size, 1, none⟩ = some (.int .i64 ay) ∧ w1.cell? ⟨w.heap.size + 1, 0, none⟩ = some (.int .i64 cx) ∧ w1.cell? ⟨w.heap.size + 1, 1, none⟩ = some (.int .i64 cy) ∧ w1.cell? ⟨w.heap.size + 1 + 1, 0, none⟩ = some (.int .i64 bx) ∧ w1.cell? ⟨w.heap.size + 1 + 1, 1, none⟩ = some (.int .i64 b_y) := by
      refine ⟨?_, ?_, ?_, ?_, ?_, ?_⟩ <;> (refine cell_below hb1 ?_; repeat (first | (with_reducible assumption) | (with_reducible refine cell_drew ?_) | (with_reducible refine cell_drewN ?_ _) | (with_reducible refine cell_below (by assumption) ?_) | ((with_reducible refine cell_new ?_ ?_); (· (simp; done)); (· rfl)) | (with_reducible refine cell_alloc ?_ _) | ((with_reducible refine cell_set ?_ ?_ _); (· first | (simp; done) | (simp; omega) | omega))))
    have zf1 : w.heap.size < w1.heap.size := World.block_lt_of_cell? _ _ f1
    have zf3 : w.heap.size + 1 < w1.heap.size := World.block_lt_of_cell? _ _ f3
    have zf5 : w.heap.size + 1 + 1 < w1.heap.size := World.block_lt_of_cell? _ _ f5
    obtain ⟨⟨m7a, m7b⟩, ⟨m8a, m8b⟩, ⟨m9a, m9b⟩, ⟨m10a, m10b⟩, ⟨m11a, m11b⟩⟩ : MineC7 w1 (w.heap.size + 1 + 1 + 1) 0 ∧ MineC7 w1 (w.heap.size + 1 + 1 + 1) 1 ∧ MineC7 w1 (w.heap.size + 1 + 1 + 1) 2 ∧ MineC7 w1 (w.heap.size + 1 + 1 + 1) 3 ∧ MineC7 w1 (w.heap.size + 1 + 1 + 1) 4 := by
      refine ⟨?_, ?_, ?_, ?_, ?_⟩ <;> (refine mine_below hb1 (mine_of (v := .int .i64 0) ?_ ?_) <;> simp [go_sem])
    have zm7 : w.heap.size + 1 + 1 + 1 < w1.heap.size := World.block_lt_of_cell? _ _ m7a
    go_wp2_with fail
    refine (PV1 _).mono ?_
    rintro e w2 ⟨rfl, hb2⟩
    obtain ⟨f12, f13, f14, f15, f16, f17⟩ : w2.cell? ⟨w.heap.size, 0, none⟩ = some (.int .i64 ax) ∧ w2.cell? ⟨w.heap.size, 1, none⟩ = some (.int .i64 ay) ∧ w2.cell? ⟨w.heap.size + 1, 0, none⟩ = some (.int .i64 cx) ∧ w2.cell? ⟨w.heap.size + 1, 1, none⟩ = some (.int .i64 cy) ∧ w2.cell? ⟨w.heap.size + 1 + 1, 0, none⟩ = some (.int .i64 bx) ∧ w2.cell? ⟨w.heap.size + 1 + 1, 1, none⟩ = some (.int .i64 b_y) := by
      refine ⟨?_, ?_, ?_, ?_, ?_, ?_⟩ <;> (refine cell_below hb2 ?_; repeat (first | (with_reducible assumption) | (with_reducible refine cell_drew ?_) | (with_reducible refine cell_drewN ?_ _) | (with_reducible refine cell_below (by assumption) ?_) | ((with_reducible refine cell_new ?_ ?_); (· (simp; done)); (· rfl)) | (with_reducible refine cell_alloc ?_ _) | ((with_reducible refine cell_set ?_ ?_ _); (· first | (simp; done) | (simp; omega) | omega))))
    have zf12 : w.heap.size < w2.heap.size := World.block_lt_of_cell? _ _ f12
    have zf14 : w.heap.size + 1 < w2.heap.size := World.block_lt_of_cell? _ _ f14
    have zf16 : w.heap.size + 1 + 1 < w2.heap.size := World.block_lt_of_cell? _ _ f16
    obtain ⟨⟨m18a, m18b⟩, ⟨m19a, m19b⟩, ⟨m20a, m20b⟩, ⟨m21a, m21b⟩, ⟨m22a, m22b⟩⟩ : MineC7 w2 (w.heap.size + 1 + 1 + 1) 0 ∧ MineC7 w2 (w.heap.size + 1 + 1 + 1) 1 ∧ MineC7 w2 (w.heap.size + 1 + 1 + 1) 2 ∧ MineC7 w2 (w.heap.size + 1 + 1 + 1) 3 ∧ MineC7 w2 (w.heap.size + 1 + 1 + 1) 4 := by
      refine ⟨?_, ?_, ?_, ?_, ?_⟩ <;> (refine mine_below hb2 ?_; repeat (first | (with_reducible exact ⟨by assumption, by assumption⟩) | (with_reducible refine mine_drew ?_) | (with_reducible refine mine_drewN ?_ _) | (with_reducible refine mine_below (by assumption) ?_) | ((with_reducible refine mine_new ?_ ?_); (· (simp; done)); (· rfl)) | (with_reducible refine mine_alloc ?_ _) | (with_reducible refine mine_set ?_ _ _)))
    have zm18 : w.heap.size + 1 + 1 + 1 < w2.heap.size := World.block_lt_of_cell? _ _ m18a
    clear f1 zf1 f2 f3 zf3 f4 f5 zf5 f6 m7a m7b zm7 m8a m8b m9a m9b m10a m10b m11a m11b
    go_wp2_with fail
    refine (PV2 _).mono ?_
    rintro e w3 ⟨rfl, hb3⟩
    obtain ⟨f23, f24, f25, f26, f27, f28⟩ : w3.cell? ⟨w.heap.size, 0, none⟩ = some (.int .i64 ax) ∧ w3.cell? ⟨w.heap.size, 1, none⟩ = some (.int .i64 ay) ∧ w3.cell? ⟨w.heap.size + 1, 0, none⟩ = some (.int .i64 cx) ∧ w3.cell? ⟨w.heap.size + 1, 1, none⟩ = some (.int .i64 cy) ∧ w3.cell? ⟨w.heap.size + 1 + 1, 0, none⟩ = some (.int .i64 bx) ∧ w3.cell? ⟨w.heap.size + 1 + 1, 1, none⟩ = some (.int .i64 b_y) := by
      refine ⟨?_, ?_, ?_, ?_, ?_, ?_⟩ <;> (refine cell_below hb3 ?_; repeat (first | (with_reducible assumption) | (with_reducible refine cell_drew ?_) | (with_reducible refine cell_drewN ?_ _) | (with_reducible refine cell_below (by assumption) ?_) | ((with_reducible refine cell_new ?_ ?_); (· (simp; done)); (· rfl)) | (with_reducible refine cell_alloc ?_ _) | ((with_reducible refine cell_set ?_ ?_ _); (· first | (simp; done) | (simp; omega) | omega))))
    have zf23 : w.heap.size < w3.heap.size := World.block_lt_of_cell? _ _ f23
    have zf25 : w.heap.size + 1 < w3.heap.size := World.block_lt_of_cell? _ _ f25
    have zf27 : w.heap.size + 1 + 1 < w3.heap.size := World.block_lt_of_cell? _ _ f27
    obtain ⟨⟨m29a, m29b⟩, ⟨m30a, m30b⟩, ⟨m31a, m31b⟩, ⟨m32a, m32b⟩, ⟨m33a, m33b⟩⟩ : MineC7 w3 (w.heap.size + 1 + 1 + 1) 0 ∧ MineC7 w3 (w.heap.size + 1 + 1 + 1) 1 ∧ MineC7 w3 (w.heap.size + 1 + 1 + 1) 2 ∧ MineC7 w3 (w.heap.size + 1 + 1 + 1) 3 ∧ MineC7 w3 (w.heap.size + 1 + 1 + 1) 4 := by
      refine ⟨?_, ?_, ?_, ?_, ?_⟩ <;> (refine mine_below hb3 ?_; repeat (first | (with_reducible exact ⟨by assumption, by assumption⟩) | (with_reducible refine mine_drew ?_) | (with_reducible refine mine_drewN ?_ _) | (with_reducible refine mine_below (by assumption) ?_) | ((with_reducible refine mine_new ?_ ?_); (· (simp; done)); (· rfl)) | (with_reducible refine mine_alloc ?_ _) | (with_reducible refine mine_set ?_ _ _)))
    have zm29 : w.heap.size + 1 + 1 + 1 < w3.heap.size := World.block_lt_of_cell? _ _ m29a
    clear f12 zf12 f13 f14 zf14 f15 f16 zf16 f17 m18a m18b zm18 m19a m19b m20a m20b m21a m21b m22a m22b
    go_wp2_with fail
    exact bodyPost_ret (v := .tuple #[.agg #[.int .i64 0, .int .i64 0, .int .i64 0, .int .i64 0, .int .i64 0], .int .i64 1]) (by simp [results, Try.results35, go_sem, *]) rfl ⟨rfl, by (repeat (with_reducible (first | assumption | exact Below.refl _ _ | refine Below.drew ?_ | refine below_drewN ?_ _ | refine below_set ?_ (by simp; try omega) _ | refine below_alloc ?_ (Nat.le_refl _) _ | refine below_sub (by assumption) ?_)))⟩
  have PV2 := fun W => pvalid_e bx b_y true h2 W
  have DA := fun W => dist_any cx cy ax ay W
  have DB := fun W => dist_any cx cy bx b_y W
  have da := distF_bd cx cy ax ay
  have db := distF_bd cx cy bx b_y
  by_cases h3 : distF cx cy ax ay = 0 ∨ distF cx cy bx b_y = 0 ∨ distF cx cy ax ay - distF cx cy bx b_y > 8 ∨ distF cx cy bx b_y - distF cx cy ax ay > 8
  · rw [around_far (by rw [h0, h1, h2]; rfl) h3] at hR
    obtain ⟨⟨rfl, rfl, rfl, rfl, rfl⟩, rfl⟩ : (v0 = 0 ∧ v1 = 0 ∧ v2 = 0 ∧ v3 = 0 ∧ v4 = 0) ∧ e0 = 10 := by simpa [zeros5] using hR
    clear hR h0 h1 h2
    generalize distF cx cy ax ay = m at *
    generalize distF cx cy bx b_y = n at *
    have AB := fun W => abs_any (m - n) (by unfold I64; omega) (by omega) W
    rcases h3 with h3 | h3 | h3 | h3
    all_goals
      go_enter Try.func35, Try.ntmps35
      go_wp2_with fail
      refine (PV0 _).mono ?_
      rintro e w1 ⟨rfl, hb1⟩
      obtain ⟨f1, f2, f3, f4, f5, f6⟩ : w1.cell? ⟨w.heap.size, 0, none⟩ = some (.int .i64 ax) ∧ w1.cell? ⟨w.heap.size, 1, none⟩ = some (.int .i64 ay) ∧ w1.cell? ⟨w.heap.size + 1, 0, none⟩ = some (.int .i64 cx) ∧ w1.cell? ⟨w.heap.size + 1, 1, none⟩ = some (.int .i64 cy) ∧ w1.cell? ⟨w.heap.size + 1 + 1, 0, none⟩ = some (.int .i64 bx) ∧ w1.cell? ⟨w.heap.size + 1 + 1, 1, none⟩ = some (.int .i64 b_y) := by
        refine ⟨?_, ?_, ?_, ?_, ?_, ?_⟩ <;> (refine cell_below hb1 ?_; repeat (first | (with_reducible assumption) | (with_reducible refine cell_drew ?_) | (with_reducible refine cell_drewN ?_ _) | (with_reducible refine cell_below (by assumption) ?_) | ((with_reducible refine cell_new ?_ ?_); (· (simp; done)); (· rfl)) | (with_reducible refine cell_alloc ?_ _) | ((with_reducible refine cell_set ?_ ?_ _); (· first | (simp; done) | (simp; omega) | omega))))
      have zf1 : w.heap.size < w1.heap.size := World.block_lt_of_cell? _ _ f1
      have zf3 : w.heap.size + 1 < w1.heap.size := World.block_lt_of_cell? _ _ f3
      have zf5 : w.heap.size + 1 + 1 < w1.heap.size := World.block_lt_of_cell? _ _ f5
      obtain ⟨⟨m7a, m7b⟩, ⟨m8a, m8b⟩, ⟨m9a, m9b⟩, ⟨m10a, m10b⟩, ⟨m11a, m11b⟩⟩ : MineC7 w1 (w.heap.size + 1 + 1 + 1) 0 ∧ MineC7 w1 (w.heap.size + 1 + 1 + 1) 1 ∧ MineC7 w1 (w.heap.size + 1 + 1 + 1) 2 ∧ MineC7 w1 (w.heap.size + 1 + 1 + 1) 3 ∧ MineC7 w1 (w.heap.size + 1 + 1 + 1) 4 := by
        refine ⟨?_, ?_, ?_, ?_, ?_⟩ <;> (refine mine_below hb1 (mine_of (v := .int .i64 0) ?_ ?_) <;> simp [go_sem])
      have zm7 : w.heap.size + 1 + 1 + 1 < w1.heap.size := World.block_lt_of_cell? _ _ m7a
      go_wp2_with fail
      refine (PV1 _).mono ?_
      rintro e w2 ⟨rfl, hb2⟩
      obtain ⟨f12, f13, f14, f15, f16, f17⟩ : w2.cell? ⟨w.heap.size, 0, none⟩ = some (.int .i64 ax) ∧ w2.cell? ⟨w.heap.size, 1, none⟩ = some (.int .i64 ay) ∧ w2.cell? ⟨w.heap.size + 1, 0, none⟩ = some (.int .i64 cx) ∧ w2.cell? ⟨w.heap.size + 1, 1, none⟩ = some (.int .i64 cy) ∧ w2.cell? ⟨w.heap.size + 1 + 1, 0, none⟩ = some (.int .i64 bx) ∧ w2.cell? ⟨w.heap.size + 1 + 1, 1, none⟩ = some (.int .i64 b_y) := by
        refine ⟨?_, ?_, ?_, ?_, ?_, ?_⟩ <;> (refine cell_below hb2 ?_; repeat (first | (with_reducible assumption) | (with_reducible refine cell_drew ?_) | (with_reducible refine cell_drewN ?_ _) | (with_reducible refine cell_below (by assumption) ?_) | ((with_reducible refine cell_new ?_ ?_); (· (simp; done)); (· rfl)) | (with_reducible refine cell_alloc ?_ _) | ((with_reducible refine cell_set ?_ ?_ _); (· first | (simp; done) | (simp; omega) | omega))))
      have zf12 : w.heap.size < w2.heap.size := World.block_lt_of_cell? _ _ f12
      have zf14 : w.heap.size + 1 < w2.heap.size := World.block_lt_of_cell? _ _ f14
      have zf16 : w.heap.size + 1 + 1 < w2.heap.size := World.block_lt_of_cell? _ _ f16
      obtain ⟨⟨m18a, m18b⟩, ⟨m19a, m19b⟩, ⟨m20a, m20b⟩, ⟨m21a, m21b⟩, ⟨m22a, m22b⟩⟩ : MineC7 w2 (w.heap.size + 1 + 1 + 1) 0 ∧ MineC7 w2 (w.heap.size + 1 + 1 + 1) 1 ∧ MineC7 w2 (w.heap.size + 1 + 1 + 1) 2 ∧ MineC7 w2 (w.heap.size + 1 + 1 + 1) 3 ∧ MineC7 w2 (w.heap.size + 1 + 1 + 1) 4 := by
        refine ⟨?_, ?_, ?_, ?_, ?_⟩ <;> (refine mine_below hb2 ?_; repeat (first | (with_reducible exact ⟨by assumption, by assumption⟩) | (with_reducible refine mine_drew ?_) | (with_reducible refine mine_drewN ?_ _) | (with_reducible refine mine_below (by assumption) ?_) | ((with_reducible refine mine_new ?_ ?_); (· (simp; done)); (· rfl)) | (with_reducible refine mine_alloc ?_ _) | (with_reducible refine mine_set ?_ _ _)))
      have zm18 : w.heap.size + 1 + 1 + 1 < w2.heap.size := World.block_lt_of_cell? _ _ m18a
      clear f1 zf1 f2 f3 zf3 f4 f5 zf5 f6 m7a m7b zm7 m8a m8b m9a m9b m10a m10b m11a m11b
      go_wp2_with fail
      refine (PV2 _).mono ?_
      rintro e w3 ⟨rfl, hb3⟩
      obtain ⟨f23, f24, f25, f26, f27, f28⟩ : w3.cell? ⟨w.heap.size, 0, none⟩ = some (.int .i64 ax) ∧ w3.cell? ⟨w.heap.size, 1, none⟩ = some (.int .i64 ay) ∧ w3.cell? ⟨w.heap.size + 1, 0, none⟩ = some (.int .i64 cx) ∧ w3.cell? ⟨w.heap.size + 1, 1, none⟩ = some (.int .i64 cy) ∧ w3.cell? ⟨w.heap.size + 1 + 1, 0, none⟩ = some (.int .i64 bx) ∧ w3.cell? ⟨w.heap.size + 1 + 1, 1, none⟩ = some (.int .i64 b_y) := by
        refine ⟨?_, ?_, ?_, ?_, ?_, ?_⟩ <;> (refine cell_below hb3 ?_; repeat (first | (with_reducible assumption) | (with_reducible refine cell_drew ?_) | (with_reducible refine cell_drewN ?_ _) | (with_reducible refine cell_below (by assumption) ?_) | ((with_reducible refine cell_new ?_ ?_); (· (simp; done)); (· rfl)) | (with_reducible refine cell_alloc ?_ _) | ((with_reducible refine cell_set ?_ ?_ _); (· first | (simp; done) | (simp; omega) | omega))))
      have zf23 : w.heap.size < w3.heap.size := World.block_lt_of_cell? _ _ f23
      have zf25 : w.heap.size + 1 < w3.heap.size := World.block_lt_of_cell? _ _ f25
      have zf27 : w.heap.size + 1 + 1 < w3.heap.size := World.block_lt_of_cell? _ _ f27
      obtain ⟨⟨m29a, m29b⟩, ⟨m30a, m30b⟩, ⟨m31a, m31b⟩, ⟨m32a, m32b⟩, ⟨m33a, m33b⟩⟩ : MineC7 w3 (w.heap.size + 1 + 1 + 1) 0 ∧ MineC7 w3 (w.heap.size + 1 + 1 + 1) 1 ∧ MineC7 w3 (w.heap.size + 1 + 1 + 1) 2 ∧ MineC7 w3 (w.heap.size + 1 + 1 + 1) 3 ∧ MineC7 w3 (w.heap.size + 1 + 1 + 1) 4 := by
        refine ⟨?_, ?_, ?_, ?_, ?_⟩ <;> (refine mine_below hb3 ?_; repeat (first | (with_reducible exact ⟨by assumption, by assumption⟩) | (with_reducible refine mine_drew ?_) | (with_reducible refine mine_drewN ?_ _) | (with_reducible refine mine_below (by assumption) ?_) | ((with_reducible refine mine_new ?_ ?_); (· (simp; done)); (· rfl)) | (with_reducible refine mine_alloc ?_ _) | (with_reducible refine mine_set ?_ _ _)))
      have zm29 : w.heap.size + 1 + 1 + 1 < w3.heap.size := World.block_lt_of_cell? _ _ m29a
      clear f12 zf12 f13 f14 zf14 f15 f16 zf16 f17 m18a m18b zm18 m19a m19b m20a m20b m21a m21b m22a m22b
      go_wp2_with fail
      go_region_held3 (fun w' => w'.cell? ⟨w.heap.size, 0, none⟩ = some (.int .i64 ax) ∧ w'.cell? ⟨w.heap.size, 1, none⟩ = some (.int .i64 ay) ∧ w'.cell? ⟨w.heap.size + 1, 0, none⟩ = some (.int .i64 cx) ∧ w'.cell? ⟨w.heap.size + 1, 1, none⟩ = some (.int .i64 cy) ∧ w'.cell? ⟨w.heap.size + 1 + 1, 0, none⟩ = some (.int .i64 bx) ∧ w'.cell? ⟨w.heap.size + 1 + 1, 1, none⟩ = some (.int .i64 b_y) ∧ (w'.cell? ⟨w.heap.size + 1 + 1 + 1, 0, none⟩ = some (cellV w' ⟨w.heap.size + 1 + 1 + 1, 0, none⟩) ∧ w'.frozen? ⟨w.heap.size + 1 + 1 + 1, 0, none⟩ = false) ∧ (w'.cell? ⟨w.heap.size + 1 + 1 + 1, 1, none⟩ = some (cellV w' ⟨w.heap.size + 1 + 1 + 1, 1, none⟩) ∧ w'.frozen? ⟨w.heap.size + 1 + 1 + 1, 1, none⟩ = false) ∧ (w'.cell? ⟨w.heap.size + 1 + 1 + 1, 2, none⟩ = some (cellV w' ⟨w.heap.size + 1 + 1 + 1, 2, none⟩) ∧ w'.frozen? ⟨w.heap.size + 1 + 1 + 1, 2, none⟩ = false) ∧ (w'.cell? ⟨w.heap.size + 1 + 1 + 1, 3, none⟩ = some (cellV w' ⟨w.heap.size + 1 + 1 + 1, 3, none⟩) ∧ w'.frozen? ⟨w.heap.size + 1 + 1 + 1, 3, none⟩ = false) ∧ (w'.cell? ⟨w.heap.size + 1 + 1 + 1, 4, none⟩ = some (cellV w' ⟨w.heap.size + 1 + 1 + 1, 4, none⟩) ∧ w'.frozen? ⟨w.heap.size + 1 + 1 + 1, 4, none⟩ = false)) ((go_split_ands; refine ⟨?_, ?_, ?_, ?_, ?_, ?_, ?_, ?_, ?_, ?_, ?_⟩ <;> (first | ((repeat (first | (with_reducible assumption) | (with_reducible refine cell_drew ?_) | (with_reducible refine cell_drewN ?_ _) | (with_reducible refine cell_below (by assumption) ?_) | ((with_reducible refine cell_new ?_ ?_); (· (simp; done)); (· rfl)) | (with_reducible refine cell_alloc ?_ _) | ((with_reducible refine cell_set ?_ ?_ _); (· first | (simp; done) | (simp; omega) | omega)))); done) | (repeat (first | (with_reducible exact ⟨by assumption, by assumption⟩) | (with_reducible refine mine_drew ?_) | (with_reducible refine mine_drewN ?_ _) | (with_reducible refine mine_below (by assumption) ?_) | ((with_reducible refine mine_new ?_ ?_); (· (simp; done)); (· rfl)) | (with_reducible refine mine_alloc ?_ _) | (with_reducible refine mine_set ?_ _ _))))))
        (first
          | (go_at_call 52; (first | (with_reducible refine (DA _).mono ?_) | (with_reducible refine (DB _).mono ?_)); rintro e w' ⟨rfl, hb'⟩))
      rename_i hH
      obtain ⟨f34, f35, f36, f37, f38, f39, ⟨m40a, m40b⟩, ⟨m41a, m41b⟩, ⟨m42a, m42b⟩, ⟨m43a, m43b⟩, ⟨m44a, m44b⟩⟩ := hH
      have zf34 : w.heap.size < w'.heap.size := World.block_lt_of_cell? _ _ f34
      have zf36 : w.heap.size + 1 < w'.heap.size := World.block_lt_of_cell? _ _ f36
      have zf38 : w.heap.size + 1 + 1 < w'.heap.size := World.block_lt_of_cell? _ _ f38
      have zm40 : w.heap.size + 1 + 1 + 1 < w'.heap.size := World.block_lt_of_cell? _ _ m40a
      clear f23 zf23 f24 f25 zf25 f26 f27 zf27 f28 m29a m29b zm29 m30a m30b m31a m31b m32a m32b m33a m33b
      go_wp2_with (go_at_call 59; refine (AB _).mono ?_; rintro e w' ⟨rfl, rfl⟩)
      all_goals
        exact bodyPost_ret (v := .tuple #[.agg #[.int .i64 0, .int .i64 0, .int .i64 0, .int .i64 0, .int .i64 0], .int .i64 10]) (by simp [results, Try.results35, go_sem, *]) rfl ⟨rfl, by (repeat (with_reducible (first | assumption | exact Below.refl _ _ | refine Below.drew ?_ | refine below_drewN ?_ _ | refine below_set ?_ (by simp; try omega) _ | refine below_alloc ?_ (Nat.le_refl _) _ | refine below_sub (by assumption) ?_)))⟩
  rw [around_in (by rw [h0, h1, h2]; rfl) h3] at hR
  obtain ⟨⟨rfl, rfl, rfl, rfl, rfl⟩, rfl⟩ : (cx = v0 ∧ cy = v1 ∧ distF cx cy ax ay = v2 ∧ (courseF cx cy ax ay).1 = v3 ∧ arSweep false (courseF cx cy ax ay).1 (courseF cx cy bx b_y).1 = v4) ∧ 0 = e0 := by simpa using hR.symm
  have CA := fun W => course_any cx cy ax ay W
  have CB := fun W => course_any cx cy bx b_y W
  have ca := courseF_bd cx cy ax ay
  have cb := courseF_bd cx cy bx b_y
  clear hR h0 h1 h2
  unfold arSweep
  generalize (courseF cx cy ax ay).1 = x at *
  generalize (courseF cx cy ax ay).2 = xe at *
  generalize (courseF cx cy bx b_y).1 = y at *
  generalize (courseF cx cy bx b_y).2 = ye at *
  generalize distF cx cy ax ay = m at *
  generalize distF cx cy bx b_y = n at *
  have AB := fun W => abs_any (m - n) (by unfold I64; omega) (by omega) W
  have SW := fun W => sweep_left x y (by unfold I64; omega) (by unfold I64; omega) W
  rw [show norm (norm x - norm y) = sweepF false x y from rfl] at SW
  have sw : 0 ≤ sweepF false x y ∧ sweepF false x y < 129600000 := norm_bd _
  generalize sweepF false x y = u at *
  have d1 : (m == 0) = false := by rw [beq_eq_false_iff_ne]; omega
  have d2 : (n == 0) = false := by rw [beq_eq_false_iff_ne]; omega
  have d3 : ((m - n).natAbs : Int) ≤ 8 := by omega
  simp only [if_true, if_false, Bool.false_eq_true]
  by_cases hu : u = 0
  · rw [if_pos hu]
    subst hu
    go_enter Try.func35, Try.ntmps35
    go_wp2_with fail
    refine (PV0 _).mono ?_
    rintro e w1 ⟨rfl, hb1⟩
    obtain ⟨f1, f2, f3, f4, f5, f6⟩ : w1.cell? ⟨w.heap.size, 0, none⟩ = some (.int .i64 ax) ∧ w1.cell? ⟨w.heap.size, 1, none⟩ = some (.int .i64 ay) ∧ w1.cell? ⟨w.heap.size + 1, 0, none⟩ = some (.int .i64 cx) ∧ w1.cell? ⟨w.heap.size + 1, 1, none⟩ = some (.int .i64 cy) ∧ w1.cell? ⟨w.heap.size + 1 + 1, 0, none⟩ = some (.int .i64 bx) ∧ w1.cell? ⟨w.heap.size + 1 + 1, 1, none⟩ = some (.int .i64 b_y) := by
      refine ⟨?_, ?_, ?_, ?_, ?_, ?_⟩ <;> (refine cell_below hb1 ?_; repeat (first | (with_reducible assumption) | (with_reducible refine cell_drew ?_) | (with_reducible refine cell_drewN ?_ _) | (with_reducible refine cell_below (by assumption) ?_) | ((with_reducible refine cell_new ?_ ?_); (· (simp; done)); (· rfl)) | (with_reducible refine cell_alloc ?_ _) | ((with_reducible refine cell_set ?_ ?_ _); (· first | (simp; done) | (simp; omega) | omega))))
    have zf1 : w.heap.size < w1.heap.size := World.block_lt_of_cell? _ _ f1
    have zf3 : w.heap.size + 1 < w1.heap.size := World.block_lt_of_cell? _ _ f3
    have zf5 : w.heap.size + 1 + 1 < w1.heap.size := World.block_lt_of_cell? _ _ f5
    obtain ⟨⟨m7a, m7b⟩, ⟨m8a, m8b⟩, ⟨m9a, m9b⟩, ⟨m10a, m10b⟩, ⟨m11a, m11b⟩⟩ : MineC7 w1 (w.heap.size + 1 + 1 + 1) 0 ∧ MineC7 w1 (w.heap.size + 1 + 1 + 1) 1 ∧ MineC7 w1 (w.heap.size + 1 + 1 + 1) 2 ∧ MineC7 w1 (w.heap.size + 1 + 1 + 1) 3 ∧ MineC7 w1 (w.heap.size + 1 + 1 + 1) 4 := by
      refine ⟨?_, ?_, ?_, ?_, ?_⟩ <;> (refine mine_below hb1 (mine_of (v := .int .i64 0) ?_ ?_) <;> simp [go_sem])
    have zm7 : w.heap.size + 1 + 1 + 1 < w1.heap.size := World.block_lt_of_cell? _ _ m7a
    go_wp2_with fail
    refine (PV1 _).mono ?_
    rintro e w2 ⟨rfl, hb2⟩
    obtain ⟨f12, f13, f14, f15, f16, f17⟩ : w2.cell? ⟨w.heap.size, 0, none⟩ = some (.int .i64 ax) ∧ w2.cell? ⟨w.heap.size, 1, none⟩ = some (.int .i64 ay) ∧ w2.cell? ⟨w.heap.size + 1, 0, none⟩ = some (.int .i64 cx) ∧ w2.cell? ⟨w.heap.size + 1, 1, none⟩ = some (.int .i64 cy) ∧ w2.cell? ⟨w.heap.size + 1 + 1, 0, none⟩ = some (.int .i64 bx) ∧ w2.cell? ⟨w.heap.size + 1 + 1, 1, none⟩ = some (.int .i64 b_y) := by
      refine ⟨?_, ?_, ?_, ?_, ?_, ?_⟩ <;> (refine cell_below hb2 ?_; repeat (first | (with_reducible assumption) | (with_reducible refine cell_drew ?_) | (with_reducible refine cell_drewN ?_ _) | (with_reducible refine cell_below (by assumption) ?_) | ((with_reducible refine cell_new ?_ ?_); (· (simp; done)); (· rfl)) | (with_reducible refine cell_alloc ?_ _) | ((with_reducible refine cell_set ?_ ?_ _); (· first | (simp; done) | (simp; omega) | omega))))
    have zf12 : w.heap.size < w2.heap.size := World.block_lt_of_cell? _ _ f12
    have zf14 : w.heap.size + 1 < w2.heap.size := World.block_lt_of_cell? _ _ f14
    have zf16 : w.heap.size + 1 + 1 < w2.heap.size := World.block_lt_of_cell? _ _ f16
    obtain ⟨⟨m18a, m18b⟩, ⟨m19a, m19b⟩, ⟨m20a, m20b⟩, ⟨m21a, m21b⟩, ⟨m22a, m22b⟩⟩ : MineC7 w2 (w.heap.size + 1 + 1 + 1) 0 ∧ MineC7 w2 (w.heap.size + 1 + 1 + 1) 1 ∧ MineC7 w2 (w.heap.size + 1 + 1 + 1) 2 ∧ MineC7 w2 (w.heap.size + 1 + 1 + 1) 3 ∧ MineC7 w2 (w.heap.size + 1 + 1 + 1) 4 := by
      refine ⟨?_, ?_, ?_, ?_, ?_⟩ <;> (refine mine_below hb2 ?_; repeat (first | (with_reducible exact ⟨by assumption, by assumption⟩) | (with_reducible refine mine_drew ?_) | (with_reducible refine mine_drewN ?_ _) | (with_reducible refine mine_below (by assumption) ?_) | ((with_reducible refine mine_new ?_ ?_); (· (simp; done)); (· rfl)) | (with_reducible refine mine_alloc ?_ _) | (with_reducible refine mine_set ?_ _ _)))
    have zm18 : w.heap.size + 1 + 1 + 1 < w2.heap.size := World.block_lt_of_cell? _ _ m18a
    clear f1 zf1 f2 f3 zf3 f4 f5 zf5 f6 m7a m7b zm7 m8a m8b m9a m9b m10a m10b m11a m11b
    go_wp2_with fail
    refine (PV2 _).mono ?_
    rintro e w3 ⟨rfl, hb3⟩
    obtain ⟨f23, f24, f25, f26, f27, f28⟩ : w3.cell? ⟨w.heap.size, 0, none⟩ = some (.int .i64 ax) ∧ w3.cell? ⟨w.heap.size, 1, none⟩ = some (.int .i64 ay) ∧ w3.cell? ⟨w.heap.size + 1, 0, none⟩ = some (.int .i64 cx) ∧ w3.cell? ⟨w.heap.size + 1, 1, none⟩ = some (.int .i64 cy) ∧ w3.cell? ⟨w.heap.size + 1 + 1, 0, none⟩ = some (.int .i64 bx) ∧ w3.cell? ⟨w.heap.size + 1 + 1, 1, none⟩ = some (.int .i64 b_y) := by
      refine ⟨?_, ?_, ?_, ?_, ?_, ?_⟩ <;> (refine cell_below hb3 ?_; repeat (first | (with_reducible assumption) | (with_reducible refine cell_drew ?_) | (with_reducible refine cell_drewN ?_ _) | (with_reducible refine cell_below (by assumption) ?_) | ((with_reducible refine cell_new ?_ ?_); (· (simp; done)); (· rfl)) | (with_reducible refine cell_alloc ?_ _) | ((with_reducible refine cell_set ?_ ?_ _); (· first | (simp; done) | (simp; omega) | omega))))
    have zf23 : w.heap.size < w3.heap.size := World.block_lt_of_cell? _ _ f23
    have zf25 : w.heap.size + 1 < w3.heap.size := World.block_lt_of_cell? _ _ f25
    have zf27 : w.heap.size + 1 + 1 < w3.heap.size := World.block_lt_of_cell? _ _ f27
    obtain ⟨⟨m29a, m29b⟩, ⟨m30a, m30b⟩, ⟨m31a, m31b⟩, ⟨m32a, m32b⟩, ⟨m33a, m33b⟩⟩ : MineC7 w3 (w.heap.size + 1 + 1 + 1) 0 ∧ MineC7 w3 (w.heap.size + 1 + 1 + 1) 1 ∧ MineC7 w3 (w.heap.size + 1 + 1 + 1) 2 ∧ MineC7 w3 (w.heap.size + 1 + 1 + 1) 3 ∧ MineC7 w3 (w.heap.size + 1 + 1 + 1) 4 := by
      refine ⟨?_, ?_, ?_, ?_, ?_⟩ <;> (refine mine_below hb3 ?_; repeat (first | (with_reducible exact ⟨by assumption, by assumption⟩) | (with_reducible refine mine_drew ?_) | (with_reducible refine mine_drewN ?_ _) | (with_reducible refine mine_below (by assumption) ?_) | ((with_reducible refine mine_new ?_ ?_); (· (simp; done)); (· rfl)) | (with_reducible refine mine_alloc ?_ _) | (with_reducible refine mine_set ?_ _ _)))
    have zm29 : w.heap.size + 1 + 1 + 1 < w3.heap.size := World.block_lt_of_cell? _ _ m29a
    clear f12 zf12 f13 f14 zf14 f15 f16 zf16 f17 m18a m18b zm18 m19a m19b m20a m20b m21a m21b m22a m22b
    go_wp2_with fail
    go_region_held3 (fun w' => w'.cell? ⟨w.heap.size, 0, none⟩ = some (.int .i64 ax) ∧ w'.cell? ⟨w.heap.size, 1, none⟩ = some (.int .i64 ay) ∧ w'.cell? ⟨w.heap.size + 1, 0, none⟩ = some (.int .i64 cx) ∧ w'.cell? ⟨w.heap.size + 1, 1, none⟩ = some (.int .i64 cy) ∧ w'.cell? ⟨w.heap.size + 1 + 1, 0, none⟩ = some (.int .i64 bx) ∧ w'.cell? ⟨w.heap.size + 1 + 1, 1, none⟩ = some (.int .i64 b_y) ∧ (w'.cell? ⟨w.heap.size + 1 + 1 + 1, 0, none⟩ = some (cellV w' ⟨w.heap.size + 1 + 1 + 1, 0, none⟩) ∧ w'.frozen? ⟨w.heap.size + 1 + 1 + 1, 0, none⟩ = false) ∧ (w'.cell? ⟨w.heap.size + 1 + 1 + 1, 1, none⟩ = some (cellV w' ⟨w.heap.size + 1 + 1 + 1, 1, none⟩) ∧ w'.frozen? ⟨w.heap.size + 1 + 1 + 1, 1, none⟩ = false) ∧ (w'.cell? ⟨w.heap.size + 1 + 1 + 1, 2, none⟩ = some (cellV w' ⟨w.heap.size + 1 + 1 + 1, 2, none⟩) ∧ w'.frozen? ⟨w.heap.size + 1 + 1 + 1, 2, none⟩ = false) ∧ (w'.cell? ⟨w.heap.size + 1 + 1 + 1, 3, none⟩ = some (cellV w' ⟨w.heap.size + 1 + 1 + 1, 3, none⟩) ∧ w'.frozen? ⟨w.heap.size + 1 + 1 + 1, 3, none⟩ = false) ∧ (w'.cell? ⟨w.heap.size + 1 + 1 + 1, 4, none⟩ = some (cellV w' ⟨w.heap.size + 1 + 1 + 1, 4, none⟩) ∧ w'.frozen? ⟨w.heap.size + 1 + 1 + 1, 4, none⟩ = false)) ((go_split_ands; refine ⟨?_, ?_, ?_, ?_, ?_, ?_, ?_, ?_, ?_, ?_, ?_⟩ <;> (first | ((repeat (first | (with_reducible assumption) | (with_reducible refine cell_drew ?_) | (with_reducible refine cell_drewN ?_ _) | (with_reducible refine cell_below (by assumption) ?_) | ((with_reducible refine cell_new ?_ ?_); (· (simp; done)); (· rfl)) | (with_reducible refine cell_alloc ?_ _) | ((with_reducible refine cell_set ?_ ?_ _); (· first | (simp; done) | (simp; omega) | omega)))); done) | (repeat (first | (with_reducible exact ⟨by assumption, by assumption⟩) | (with_reducible refine mine_drew ?_) | (with_reducible refine mine_drewN ?_ _) | (with_reducible refine mine_below (by assumption) ?_) | ((with_reducible refine mine_new ?_ ?_); (· (simp; done)); (· rfl)) | (with_reducible refine mine_alloc ?_ _) | (with_reducible refine mine_set ?_ _ _))))))
      (first
        | (go_at_call 52; (first | (with_reducible refine (DA _).mono ?_) | (with_reducible refine (DB _).mono ?_)); rintro e w' ⟨rfl, hb'⟩))
    rename_i hH
    obtain ⟨f34, f35, f36, f37, f38, f39, ⟨m40a, m40b⟩, ⟨m41a, m41b⟩, ⟨m42a, m42b⟩, ⟨m43a, m43b⟩, ⟨m44a, m44b⟩⟩ := hH
    have zf34 : w.heap.size < w'.heap.size := World.block_lt_of_cell? _ _ f34
    have zf36 : w.heap.size + 1 < w'.heap.size := World.block_lt_of_cell? _ _ f36
    have zf38 : w.heap.size + 1 + 1 < w'.heap.size := World.block_lt_of_cell? _ _ f38
    have zm40 : w.heap.size + 1 + 1 + 1 < w'.heap.size := World.block_lt_of_cell? _ _ m40a
    clear f23 zf23 f24 f25 zf25 f26 f27 zf27 f28 m29a m29b zm29 m30a m30b m31a m31b m32a m32b m33a m33b
    go_wp2_with (go_at_call 59; refine (AB _).mono ?_; rintro e w' ⟨rfl, rfl⟩)
    refine (CA _).mono ?_
    rintro e w4 ⟨rfl, hb4⟩
    obtain ⟨f45, f46, f47, f48, f49, f50⟩ : w4.cell? ⟨w.heap.size, 0, none⟩ = some (.int .i64 ax) ∧ w4.cell? ⟨w.heap.size, 1, none⟩ = some (.int .i64 ay) ∧ w4.cell? ⟨w.heap.size + 1, 0, none⟩ = some (.int .i64 cx) ∧ w4.cell? ⟨w.heap.size + 1, 1, none⟩ = some (.int .i64 cy) ∧ w4.cell? ⟨w.heap.size + 1 + 1, 0, none⟩ = some (.int .i64 bx) ∧ w4.cell? ⟨w.heap.size + 1 + 1, 1, none⟩ = some (.int .i64 b_y) := by
      refine ⟨?_, ?_, ?_, ?_, ?_, ?_⟩ <;> (refine cell_below hb4 ?_; repeat (first | (with_reducible assumption) | (with_reducible refine cell_drew ?_) | (with_reducible refine cell_drewN ?_ _) | (with_reducible refine cell_below (by assumption) ?_) | ((with_reducible refine cell_new ?_ ?_); (· (simp; done)); (· rfl)) | (with_reducible refine cell_alloc ?_ _) | ((with_reducible refine cell_set ?_ ?_ _); (· first | (simp; done) | (simp; omega) | omega))))
    have zf45 : w.heap.size < w4.heap.size := World.block_lt_of_cell? _ _ f45
    have zf47 : w.heap.size + 1 < w4.heap.size := World.block_lt_of_cell? _ _ f47
    have zf49 : w.heap.size + 1 + 1 < w4.heap.size := World.block_lt_of_cell? _ _ f49
    obtain ⟨⟨m51a, m51b⟩, ⟨m52a, m52b⟩, ⟨m53a, m53b⟩, ⟨m54a, m54b⟩, ⟨m55a, m55b⟩⟩ : MineC7 w4 (w.heap.size + 1 + 1 + 1) 0 ∧ MineC7 w4 (w.heap.size + 1 + 1 + 1) 1 ∧ MineC7 w4 (w.heap.size + 1 + 1 + 1) 2 ∧ MineC7 w4 (w.heap.size + 1 + 1 + 1) 3 ∧ MineC7 w4 (w.heap.size + 1 + 1 + 1) 4 := by
      refine ⟨?_, ?_, ?_, ?_, ?_⟩ <;> (refine mine_below hb4 ?_; repeat (first | (with_reducible exact ⟨by assumption, by assumption⟩) | (with_reducible refine mine_drew ?_) | (with_reducible refine mine_drewN ?_ _) | (with_reducible refine mine_below (by assumption) ?_) | ((with_reducible refine mine_new ?_ ?_); (· (simp; done)); (· rfl)) | (with_reducible refine mine_alloc ?_ _) | (with_reducible refine mine_set ?_ _ _)))
    have zm51 : w.heap.size + 1 + 1 + 1 < w4.heap.size := World.block_lt_of_cell? _ _ m51a
    clear f34 zf34 f35 f36 zf36 f37 f38 zf38 f39 m40a m40b zm40 m41a m41b m42a m42b m43a m43b m44a m44b
    go_wp2_with fail
    refine (CB _).mono ?_
    rintro e w5 ⟨rfl, hb5⟩
    obtain ⟨f56, f57, f58, f59, f60, f61⟩ : w5.cell? ⟨w.heap.size, 0, none⟩ = some (.int .i64 ax) ∧ w5.cell? ⟨w.heap.size, 1, none⟩ = some (.int .i64 ay) ∧ w5.cell? ⟨w.heap.size + 1, 0, none⟩ = some (.int .i64 cx) ∧ w5.cell? ⟨w.heap.size + 1, 1, none⟩ = some (.int .i64 cy) ∧ w5.cell? ⟨w.heap.size + 1 + 1, 0, none⟩ = some (.int .i64 bx) ∧ w5.cell? ⟨w.heap.size + 1 + 1, 1, none⟩ = some (.int .i64 b_y) := by
      refine ⟨?_, ?_, ?_, ?_, ?_, ?_⟩ <;> (refine cell_below hb5 ?_; repeat (first | (with_reducible assumption) | (with_reducible refine cell_drew ?_) | (with_reducible refine cell_drewN ?_ _) | (with_reducible refine cell_below (by assumption) ?_) | ((with_reducible refine cell_new ?_ ?_); (· (simp; done)); (· rfl)) | (with_reducible refine cell_alloc ?_ _) | ((with_reducible refine cell_set ?_ ?_ _); (· first | (simp; done) | (simp; omega) | omega))))
    have zf56 : w.heap.size < w5.heap.size := World.block_lt_of_cell? _ _ f56
    have zf58 : w.heap.size + 1 < w5.heap.size := World.block_lt_of_cell? _ _ f58
    have zf60 : w.heap.size + 1 + 1 < w5.heap.size := World.block_lt_of_cell? _ _ f60
    obtain ⟨⟨m62a, m62b⟩, ⟨m63a, m63b⟩, ⟨m64a, m64b⟩, ⟨m65a, m65b⟩, ⟨m66a, m66b⟩⟩ : MineC7 w5 (w.heap.size + 1 + 1 + 1) 0 ∧ MineC7 w5 (w.heap.size + 1 + 1 + 1) 1 ∧ MineC7 w5 (w.heap.size + 1 + 1 + 1) 2 ∧ MineC7 w5 (w.heap.size + 1 + 1 + 1) 3 ∧ MineC7 w5 (w.heap.size + 1 + 1 + 1) 4 := by
      refine ⟨?_, ?_, ?_, ?_, ?_⟩ <;> (refine mine_below hb5 ?_; repeat (first | (with_reducible exact ⟨by assumption, by assumption⟩) | (with_reducible refine mine_drew ?_) | (with_reducible refine mine_drewN ?_ _) | (with_reducible refine mine_below (by assumption) ?_) | ((with_reducible refine mine_new ?_ ?_); (· (simp; done)); (· rfl)) | (with_reducible refine mine_alloc ?_ _) | (with_reducible refine mine_set ?_ _ _)))
    have zm62 : w.heap.size + 1 + 1 + 1 < w5.heap.size := World.block_lt_of_cell? _ _ m62a
    clear f45 zf45 f46 f47 zf47 f48 f49 zf49 f50 m51a m51b zm51 m52a m52b m53a m53b m54a m54b m55a m55b
    go_wp2_with (go_at_call 70; refine (SW _).mono ?_; rintro e w' ⟨rfl, rfl⟩)
    exact bodyPost_ret (v := .tuple #[.agg #[.int .i64 cx, .int .i64 cy, .int .i64 m, .int .i64 x, .int .i64 (-129600000)], .int .i64 0]) (by simp [results, Try.results35, go_sem, *]) rfl ⟨rfl, by (repeat (with_reducible (first | assumption | exact Below.refl _ _ | refine Below.drew ?_ | refine below_drewN ?_ _ | refine below_set ?_ (by simp; try omega) _ | refine below_alloc ?_ (Nat.le_refl _) _ | refine below_sub (by assumption) ?_)))⟩
  · rw [if_neg hu]
    go_enter Try.func35, Try.ntmps35
    go_wp2_with fail
    refine (PV0 _).mono ?_
    rintro e w1 ⟨rfl, hb1⟩
    obtain ⟨f1, f2, f3, f4, f5, f6⟩ : w1.cell? ⟨w.heap.size, 0, none⟩ = some (.int .i64 ax) ∧ w1.cell? ⟨w.heap.size, 1, none⟩ = some (.int .i64 ay) ∧ w1.cell? ⟨w.heap.size + 1, 0, none⟩ = some (.int .i64 cx) ∧ w1.cell? ⟨w.heap.size + 1, 1, none⟩ = some (.int .i64 cy) ∧ w1.cell? ⟨w.heap.size + 1 + 1, 0, none⟩ = some (.int .i64 bx) ∧ w1.cell? ⟨w.heap.size + 1 + 1, 1, none⟩ = some (.int .i64 b_y) := by
      refine ⟨?_, ?_, ?_, ?_, ?_, ?_⟩ <;> (refine cell_below hb1 ?_; repeat (first | (with_reducible assumption) | (with_reducible refine cell_drew ?_) | (with_reducible refine cell_drewN ?_ _) | (with_reducible refine cell_below (by assumption) ?_) | ((with_reducible refine cell_new ?_ ?_); (· (simp; done)); (· rfl)) | (with_reducible refine cell_alloc ?_ _) | ((with_reducible refine cell_set ?_ ?_ _); (· first | (simp; done) | (simp; omega) | omega))))
    have zf1 : w.heap.size < w1.heap.size := World.block_lt_of_cell? _ _ f1
    have zf3 : w.heap.size + 1 < w1.heap.size := World.block_lt_of_cell? _ _ f3
    have zf5 : w.heap.size + 1 + 1 < w1.heap.size := World.block_lt_of_cell? _ _ f5
    obtain ⟨⟨m7a, m7b⟩, ⟨m8a, m8b⟩, ⟨m9a, m9b⟩, ⟨m10a, m10b⟩, ⟨m11a, m11b⟩⟩ : MineC7 w1 (w.heap.size + 1 + 1 + 1) 0 ∧ MineC7 w1 (w.heap.size + 1 + 1 + 1) 1 ∧ MineC7 w1 (w.heap.size + 1 + 1 + 1) 2 ∧ MineC7 w1 (w.heap.size + 1 + 1 + 1) 3 ∧ MineC7 w1 (w.heap.size + 1 + 1 + 1) 4 := by
      refine ⟨?_, ?_, ?_, ?_, ?_⟩ <;> (refine mine_below hb1 (mine_of (v := .int .i64 0) ?_ ?_) <;> simp [go_sem])
    have zm7 : w.heap.size + 1 + 1 + 1 < w1.heap.size := World.block_lt_of_cell? _ _ m7a
    go_wp2_with fail
    refine (PV1 _).mono ?_
    rintro e w2 ⟨rfl, hb2⟩
    obtain ⟨f12, f13, f14, f15, f16, f17⟩ : w2.cell? ⟨w.heap.size, 0, none⟩ = some (.int .i64 ax) ∧ w2.cell? ⟨w.heap.size, 1, none⟩ = some (.int .i64 ay) ∧ w2.cell? ⟨w.heap.size + 1, 0, none⟩ = some (.int .i64 cx) ∧ w2.cell? ⟨w.heap.size + 1, 1, none⟩ = some (.int .i64 cy) ∧ w2.cell? ⟨w.heap.size + 1 + 1, 0, none⟩ = some (.int .i64 bx) ∧ w2.cell? ⟨w.heap.size + 1 + 1, 1, none⟩ = some (.int .i64 b_y) := by
      refine ⟨?_, ?_, ?_, ?_, ?_, ?_⟩ <;> (refine cell_below hb2 ?_; repeat (first | (with_reducible assumption) | (with_reducible refine cell_drew ?_) | (with_reducible refine cell_drewN ?_ _) | (with_reducible refine cell_below (by assumption) ?_) | ((with_reducible refine cell_new ?_ ?_); (· (simp; done)); (· rfl)) | (with_reducible refine cell_alloc ?_ _) | ((with_reducible refine cell_set ?_ ?_ _); (· first | (simp; done) | (simp; omega) | omega))))
    have zf12 : w.heap.size < w2.heap.size := World.block_lt_of_cell? _ _ f12
    have zf14 : w.heap.size + 1 < w2.heap.size := World.block_lt_of_cell? _ _ f14
    have zf16 : w.heap.size + 1 + 1 < w2.heap.size := World.block_lt_of_cell? _ _ f16
    obtain ⟨⟨m18a, m18b⟩, ⟨m19a, m19b⟩, ⟨m20a, m20b⟩, ⟨m21a, m21b⟩, ⟨m22a, m22b⟩⟩ : MineC7 w2 (w.heap.size + 1 + 1 + 1) 0 ∧ MineC7 w2 (w.heap.size + 1 + 1 + 1) 1 ∧ MineC7 w2 (w.heap.size + 1 + 1 + 1) 2 ∧ MineC7 w2 (w.heap.size + 1 + 1 + 1) 3 ∧ MineC7 w2 (w.heap.size + 1 + 1 + 1) 4 := by
      refine ⟨?_, ?_, ?_, ?_, ?_⟩ <;> (refine mine_below hb2 ?_; repeat (first | (with_reducible exact ⟨by assumption, by assumption⟩) | (with_reducible refine mine_drew ?_) | (with_reducible refine mine_drewN ?_ _) | (with_reducible refine mine_below (by assumption) ?_) | ((with_reducible refine mine_new ?_ ?_); (· (simp; done)); (· rfl)) | (with_reducible refine mine_alloc ?_ _) | (with_reducible refine mine_set ?_ _ _)))
    have zm18 : w.heap.size + 1 + 1 + 1 < w2.heap.size := World.block_lt_of_cell? _ _ m18a
    clear f1 zf1 f2 f3 zf3 f4 f5 zf5 f6 m7a m7b zm7 m8a m8b m9a m9b m10a m10b m11a m11b
    go_wp2_with fail
    refine (PV2 _).mono ?_
    rintro e w3 ⟨rfl, hb3⟩
    obtain ⟨f23, f24, f25, f26, f27, f28⟩ : w3.cell? ⟨w.heap.size, 0, none⟩ = some (.int .i64 ax) ∧ w3.cell? ⟨w.heap.size, 1, none⟩ = some (.int .i64 ay) ∧ w3.cell? ⟨w.heap.size + 1, 0, none⟩ = some (.int .i64 cx) ∧ w3.cell? ⟨w.heap.size + 1, 1, none⟩ = some (.int .i64 cy) ∧ w3.cell? ⟨w.heap.size + 1 + 1, 0, none⟩ = some (.int .i64 bx) ∧ w3.cell? ⟨w.heap.size + 1 + 1, 1, none⟩ = some (.int .i64 b_y) := by
      refine ⟨?_, ?_, ?_, ?_, ?_, ?_⟩ <;> (refine cell_below hb3 ?_; repeat (first | (with_reducible assumption) | (with_reducible refine cell_drew ?_) | (with_reducible refine cell_drewN ?_ _) | (with_reducible refine cell_below (by assumption) ?_) | ((with_reducible refine cell_new ?_ ?_); (· (simp; done)); (· rfl)) | (with_reducible refine cell_alloc ?_ _) | ((with_reducible refine cell_set ?_ ?_ _); (· first | (simp; done) | (simp; omega) | omega))))
    have zf23 : w.heap.size < w3.heap.size := World.block_lt_of_cell? _ _ f23
    have zf25 : w.heap.size + 1 < w3.heap.size := World.block_lt_of_cell? _ _ f25
    have zf27 : w.heap.size + 1 + 1 < w3.heap.size := World.block_lt_of_cell? _ _ f27
    obtain ⟨⟨m29a, m29b⟩, ⟨m30a, m30b⟩, ⟨m31a, m31b⟩, ⟨m32a, m32b⟩, ⟨m33a, m33b⟩⟩ : MineC7 w3 (w.heap.size + 1 + 1 + 1) 0 ∧ MineC7 w3 (w.heap.size + 1 + 1 + 1) 1 ∧ MineC7 w3 (w.heap.size + 1 + 1 + 1) 2 ∧ MineC7 w3 (w.heap.size + 1 + 1 + 1) 3 ∧ MineC7 w3 (w.heap.size + 1 + 1 + 1) 4 := by
      refine ⟨?_, ?_, ?_, ?_, ?_⟩ <;> (refine mine_below hb3 ?_; repeat (first | (with_reducible exact ⟨by assumption, by assumption⟩) | (with_reducible refine mine_drew ?_) | (with_reducible refine mine_drewN ?_ _) | (with_reducible refine mine_below (by assumption) ?_) | ((with_reducible refine mine_new ?_ ?_); (· (simp; done)); (· rfl)) | (with_reducible refine mine_alloc ?_ _) | (with_reducible refine mine_set ?_ _ _)))
    have zm29 : w.heap.size + 1 + 1 + 1 < w3.heap.size := World.block_lt_of_cell? _ _ m29a
    clear f12 zf12 f13 f14 zf14 f15 f16 zf16 f17 m18a m18b zm18 m19a m19b m20a m20b m21a m21b m22a m22b
    go_wp2_with fail
    go_region_held3 (fun w' => w'.cell? ⟨w.heap.size, 0, none⟩ = some (.int .i64 ax) ∧ w'.cell? ⟨w.heap.size, 1, none⟩ = some (.int .i64 ay) ∧ w'.cell? ⟨w.heap.size + 1, 0, none⟩ = some (.int .i64 cx) ∧ w'.cell? ⟨w.heap.size + 1, 1, none⟩ = some (.int .i64 cy) ∧ w'.cell? ⟨w.heap.size + 1 + 1, 0, none⟩ = some (.int .i64 bx) ∧ w'.cell? ⟨w.heap.size + 1 + 1, 1, none⟩ = some (.int .i64 b_y) ∧ (w'.cell? ⟨w.heap.size + 1 + 1 + 1, 0, none⟩ = some (cellV w' ⟨w.heap.size + 1 + 1 + 1, 0, none⟩) ∧ w'.frozen? ⟨w.heap.size + 1 + 1 + 1, 0, none⟩ = false) ∧ (w'.cell? ⟨w.heap.size + 1 + 1 + 1, 1, none⟩ = some (cellV w' ⟨w.heap.size + 1 + 1 + 1, 1, none⟩) ∧ w'.frozen? ⟨w.heap.size + 1 + 1 + 1, 1, none⟩ = false) ∧ (w'.cell? ⟨w.heap.size + 1 + 1 + 1, 2, none⟩ = some (cellV w' ⟨w.heap.size + 1 + 1 + 1, 2, none⟩) ∧ w'.frozen? ⟨w.heap.size + 1 + 1 + 1, 2, none⟩ = false) ∧ (w'.cell? ⟨w.heap.size + 1 + 1 + 1, 3, none⟩ = some (cellV w' ⟨w.heap.size + 1 + 1 + 1, 3, none⟩) ∧ w'.frozen? ⟨w.heap.size + 1 + 1 + 1, 3, none⟩ = false) ∧ (w'.cell? ⟨w.heap.size + 1 + 1 + 1, 4, none⟩ = some (cellV w' ⟨w.heap.size + 1 + 1 + 1, 4, none⟩) ∧ w'.frozen? ⟨w.heap.size + 1 + 1 + 1, 4, none⟩ = false)) ((go_split_ands; refine ⟨?_, ?_, ?_, ?_, ?_, ?_, ?_, ?_, ?_, ?_, ?_⟩ <;> (first | ((repeat (first | (with_reducible assumption) | (with_reducible refine cell_drew ?_) | (with_reducible refine cell_drewN ?_ _) | (with_reducible refine cell_below (by assumption) ?_) | ((with_reducible refine cell_new ?_ ?_); (· (simp; done)); (· rfl)) | (with_reducible refine cell_alloc ?_ _) | ((with_reducible refine cell_set ?_ ?_ _); (· first | (simp; done) | (simp; omega) | omega)))); done) | (repeat (first | (with_reducible exact ⟨by assumption, by assumption⟩) | (with_reducible refine mine_drew ?_) | (with_reducible refine mine_drewN ?_ _) | (with_reducible refine mine_below (by assumption) ?_) | ((with_reducible refine mine_new ?_ ?_); (· (simp; done)); (· rfl)) | (with_reducible refine mine_alloc ?_ _) | (with_reducible refine mine_set ?_ _ _))))))
      (first
        | (go_at_call 52; (first | (with_reducible refine (DA _).mono ?_) | (with_reducible refine (DB _).mono ?_)); rintro e w' ⟨rfl, hb'⟩))
    rename_i hH
    obtain ⟨f34, f35, f36, f37, f38, f39, ⟨m40a, m40b⟩, ⟨m41a, m41b⟩, ⟨m42a, m42b⟩, ⟨m43a, m43b⟩, ⟨m44a, m44b⟩⟩ := hH
    have zf34 : w.heap.size < w'.heap.size := World.block_lt_of_cell? _ _ f34
    have zf36 : w.heap.size + 1 < w'.heap.size := World.block_lt_of_cell? _ _ f36
    have zf38 : w.heap.size + 1 + 1 < w'.heap.size := World.block_lt_of_cell? _ _ f38
    have zm40 : w.heap.size + 1 + 1 + 1 < w'.heap.size := World.block_lt_of_cell? _ _ m40a
    clear f23 zf23 f24 f25 zf25 f26 f27 zf27 f28 m29a m29b zm29 m30a m30b m31a m31b m32a m32b m33a m33b
    go_wp2_with (go_at_call 59; refine (AB _).mono ?_; rintro e w' ⟨rfl, rfl⟩)
    refine (CA _).mono ?_
    rintro e w4 ⟨rfl, hb4⟩
    obtain ⟨f45, f46, f47, f48, f49, f50⟩ : w4.cell? ⟨w.heap.size, 0, none⟩ = some (.int .i64 ax) ∧ w4.cell? ⟨w.heap.size, 1, none⟩ = some (.int .i64 ay) ∧ w4.cell? ⟨w.heap.size + 1, 0, none⟩ = some (.int .i64 cx) ∧ w4.cell? ⟨w.heap.size + 1, 1, none⟩ = some (.int .i64 cy) ∧ w4.cell? ⟨w.heap.size + 1 + 1, 0, none⟩ = some (.int .i64 bx) ∧ w4.cell? ⟨w.heap.size + 1 + 1, 1, none⟩ = some (.int .i64 b_y) := by
      refine ⟨?_, ?_, ?_, ?_, ?_, ?_⟩ <;> (refine cell_below hb4 ?_; repeat (first | (with_reducible assumption) | (with_reducible refine cell_drew ?_) | (with_reducible refine cell_drewN ?_ _) | (with_reducible refine cell_below (by assumption) ?_) | ((with_reducible refine cell_new ?_ ?_); (· (simp; done)); (· rfl)) | (with_reducible refine cell_alloc ?_ _) | ((with_reducible refine cell_set ?_ ?_ _); (· first | (simp; done) | (simp; omega) | omega))))
    have zf45 : w.heap.size < w4.heap.size := World.block_lt_of_cell? _ _ f45
    have zf47 : w.heap.size + 1 < w4.heap.size := World.block_lt_of_cell? _ _ f47
    have zf49 : w.heap.size + 1 + 1 < w4.heap.size := World.block_lt_of_cell? _ _ f49
    obtain ⟨⟨m51a, m51b⟩, ⟨m52a, m52b⟩, ⟨m53a, m53b⟩, ⟨m54a, m54b⟩, ⟨m55a, m55b⟩⟩ : MineC7 w4 (w.heap.size + 1 + 1 + 1) 0 ∧ MineC7 w4 (w.heap.size + 1 + 1 + 1) 1 ∧ MineC7 w4 (w.heap.size + 1 + 1 + 1) 2 ∧ MineC7 w4 (w.heap.size + 1 + 1 + 1) 3 ∧ MineC7 w4 (w.heap.size + 1 + 1 + 1) 4 := by
      refine ⟨?_, ?_, ?_, ?_, ?_⟩ <;> (refine mine_below hb4 ?_; repeat (first | (with_reducible exact ⟨by assumption, by assumption⟩) | (with_reducible refine mine_drew ?_) | (with_reducible refine mine_drewN ?_ _) | (with_reducible refine mine_below (by assumption) ?_) | ((with_reducible refine mine_new ?_ ?_); (· (simp; done)); (· rfl)) | (with_reducible refine mine_alloc ?_ _) | (with_reducible refine mine_set ?_ _ _)))
    have zm51 : w.heap.size + 1 + 1 + 1 < w4.heap.size := World.block_lt_of_cell? _ _ m51a
    clear f34 zf34 f35 f36 zf36 f37 f38 zf38 f39 m40a m40b zm40 m41a m41b m42a m42b m43a m43b m44a m44b
    go_wp2_with fail
    refine (CB _).mono ?_
    rintro e w5 ⟨rfl, hb5⟩
    obtain ⟨f56, f57, f58, f59, f60, f61⟩ : w5.cell? ⟨w.heap.size, 0, none⟩ = some (.int .i64 ax) ∧ w5.cell? ⟨w.heap.size, 1, none⟩ = some (.int .i64 ay) ∧ w5.cell? ⟨w.heap.size + 1, 0, none⟩ = some (.int .i64 cx) ∧ w5.cell? ⟨w.heap.size + 1, 1, none⟩ = some (.int .i64 cy) ∧ w5.cell? ⟨w.heap.size + 1 + 1, 0, none⟩ = some (.int .i64 bx) ∧ w5.cell? ⟨w.heap.size + 1 + 1, 1, none⟩ = some (.int .i64 b_y) := by
      refine ⟨?_, ?_, ?_, ?_, ?_, ?_⟩ <;> (refine cell_below hb5 ?_; repeat (first | (with_reducible assumption) | (with_reducible refine cell_drew ?_) | (with_reducible refine cell_drewN ?_ _) | (with_reducible refine cell_below (by assumption) ?_) | ((with_reducible refine cell_new ?_ ?_); (· (simp; done)); (· rfl)) | (with_reducible refine cell_alloc ?_ _) | ((with_reducible refine cell_set ?_ ?_ _); (· first | (simp; done) | (simp; omega) | omega))))
    have zf56 : w.heap.size < w5.heap.size := World.block_lt_of_cell? _ _ f56
    have zf58 : w.heap.size + 1 < w5.heap.size := World.block_lt_of_cell? _ _ f58
    have zf60 : w.heap.size + 1 + 1 < w5.heap.size := World.block_lt_of_cell? _ _ f60
    obtain ⟨⟨m62a, m62b⟩, ⟨m63a, m63b⟩, ⟨m64a, m64b⟩, ⟨m65a, m65b⟩, ⟨m66a, m66b⟩⟩ : MineC7 w5 (w.heap.size + 1 + 1 + 1) 0 ∧ MineC7 w5 (w.heap.size + 1 + 1 + 1) 1 ∧ MineC7 w5 (w.heap.size + 1 + 1 + 1) 2 ∧ MineC7 w5 (w.heap.size + 1 + 1 + 1) 3 ∧ MineC7 w5 (w.heap.size + 1 + 1 + 1) 4 := by
      refine ⟨?_, ?_, ?_, ?_, ?_⟩ <;> (refine mine_below hb5 ?_; repeat (first | (with_reducible exact ⟨by assumption, by assumption⟩) | (with_reducible refine mine_drew ?_) | (with_reducible refine mine_drewN ?_ _) | (with_reducible refine mine_below (by assumption) ?_) | ((with_reducible refine mine_new ?_ ?_); (· (simp; done)); (· rfl)) | (with_reducible refine mine_alloc ?_ _) | (with_reducible refine mine_set ?_ _ _)))
    have zm62 : w.heap.size + 1 + 1 + 1 < w5.heap.size := World.block_lt_of_cell? _ _ m62a
    clear f45 zf45 f46 f47 zf47 f48 f49 zf49 f50 m51a m51b zm51 m52a m52b m53a m53b m54a m54b m55a m55b
    go_wp2_with (go_at_call 70; refine (SW _).mono ?_; rintro e w' ⟨rfl, rfl⟩)
    exact bodyPost_ret (v := .tuple #[.agg #[.int .i64 cx, .int .i64 cy, .int .i64 m, .int .i64 x, .int .i64 (-u)], .int .i64 0]) (by simp [results, Try.results35, go_sem, *]) rfl ⟨rfl, by (repeat (with_reducible (first | assumption | exact Below.refl _ _ | refine Below.drew ?_ | refine below_drewN ?_ _ | refine below_set ?_ (by simp; try omega) _ | refine below_alloc ?_ (Nat.le_refl _) _ | refine below_sub (by assumption) ?_)))⟩
set_option maxRecDepth 100000 in
set_option maxHeartbeats 4000000 in
theorem around_r (ax ay cx cy bx b_y : Int) (w : World) (v0 v1 v2 v3 v4 e0 : Int) (hR : ([v0, v1, v2, v3, v4], e0) = aroundF ax ay cx cy bx b_y true) :
    Calls Try.prog 35 #[.agg #[.int .i64 ax, .int .i64 ay], .agg #[.int .i64 cx, .int .i64 cy], .agg #[.int .i64 bx, .int .i64 b_y], .int .u8 2] w fun e w' => e = .returned (.tuple #[.agg #[.int .i64 v0, .int .i64 v1, .int .i64 v2, .int .i64 v3, .int .i64 v4], .int .i64 e0]) ∧ Below w.heap.size w w' := by
  rcases h0 : vldB ax ay with _ | _
  · rw [around_no (by rw [h0]; rfl)] at hR
    obtain ⟨⟨rfl, rfl, rfl, rfl, rfl⟩, rfl⟩ : (v0 = 0 ∧ v1 = 0 ∧ v2 = 0 ∧ v3 = 0 ∧ v4 = 0) ∧ e0 = 1 := by simpa [zeros5] using hR
    have PV0 := fun W => pvalid_e ax ay false h0 W
    clear hR h0
    go_enter Try.func35, Try.ntmps35
    go_wp2_with fail
    refine (PV0 _).mono ?_
    rintro e w1 ⟨rfl, hb1⟩
    obtain ⟨f1, f2, f3, f4, f5, f6⟩ : w1.cell? ⟨w.heap.size, 0, none⟩ = some (.int .i64 ax) ∧ w1.cell? ⟨w.heap.size, 1, none⟩ = some (.int .i64 ay) ∧ w1.cell? ⟨w.heap.size + 1, 0, none⟩ = some (.int .i64 cx) ∧ w1.cell? ⟨w.heap.size + 1, 1, none⟩ = some (.int .i64 cy) ∧ w1.cell? ⟨w.heap.size + 1 + 1, 0, none⟩ = some (.int .i64 bx) ∧ w1.cell? ⟨w.heap.size + 1 + 1, 1, none⟩ = some (.int .i64 b_y) := by
      refine ⟨?_, ?_, ?_, ?_, ?_, ?_⟩ <;> (refine cell_below hb1 ?_; repeat (first | (with_reducible assumption) | (with_reducible refine cell_drew ?_) | (with_reducible refine cell_drewN ?_ _) | (with_reducible refine cell_below (by assumption) ?_) | ((with_reducible refine cell_new ?_ ?_); (· (simp; done)); (· rfl)) | (with_reducible refine cell_alloc ?_ _) | ((with_reducible refine cell_set ?_ ?_ _); (· first | (simp; done) | (simp; omega) | omega))))
    have zf1 : w.heap.size < w1.heap.size := World.block_lt_of_cell? _ _ f1
    have zf3 : w.heap.size + 1 < w1.heap.size := World.block_lt_of_cell? _ _ f3
    have zf5 : w.heap.size + 1 + 1 < w1.heap.size := World.block_lt_of_cell? _ _ f5
    obtain ⟨⟨m7a, m7b⟩, ⟨m8a, m8b⟩, ⟨m9a, m9b⟩, ⟨m10a, m10b⟩, ⟨m11a, m11b⟩⟩ : MineC7 w1 (w.heap.size + 1 + 1 + 1) 0 ∧ MineC7 w1 (w.heap.size + 1 + 1 + 1) 1 ∧ MineC7 w1 (w.heap.size + 1 + 1 + 1) 2 ∧ MineC7 w1 (w.heap.size + 1 + 1 + 1) 3 ∧ MineC7 w1 (w.heap.size + 1 + 1 + 1) 4 := by
      refine ⟨?_, ?_, ?_, ?_, ?_⟩ <;> (refine mine_below hb1 (mine_of (v := .int .i64 0) ?_ ?_) <;> simp [go_sem])
    have zm7 : w.heap.size + 1 + 1 + 1 < w1.heap.size := World.block_lt_of_cell? _ _ m7a
    go_wp2_with fail
    exact bodyPost_ret (v := .tuple #[.agg #[.int .i64 0, .int .i64 0, .int .i64 0, .int .i64 0, .int .i64 0], .int .i64 1]) (by simp [results, Try.results35, go_sem, *]) rfl ⟨rfl, by (repeat (with_reducible (first | assumption | exact Below.refl _ _ | refine Below.drew ?_ | refine below_drewN ?_ _ | refine below_set ?_ (by simp; try omega) _ | refine below_alloc ?_ (Nat.le_refl _) _ | refine below_sub (by assumption) ?_)))⟩
  have PV0 := fun W => pvalid_e ax ay true h0 W
  rcases h1 : vldB cx cy with _ | _
  · rw [around_no (by rw [h0, h1]; rfl)] at hR
    obtain ⟨⟨rfl, rfl, rfl, rfl, rfl⟩, rfl⟩ : (v0 = 0 ∧ v1 = 0 ∧ v2 = 0 ∧ v3 = 0 ∧ v4 = 0) ∧ e0 = 1 := by simpa [zeros5] using hR
    have PV1 := fun W => pvalid_e cx cy false h1 W
    clear hR h0 h1
    go_enter Try.func35, Try.ntmps35
    go_wp2_with fail
    refine (PV0 _).mono ?_
    rintro e w1 ⟨rfl, hb1⟩
    obtain ⟨f1, f2, f3, f4, f5, f6⟩ : w1.cell? ⟨w.heap.size, 0, none⟩ = some (.int .i64 ax) ∧ w1.cell? ⟨w.heap.size, 1, none⟩ = some (.int .i64 ay) ∧ w1.cell? ⟨w.heap.size + 1, 0, none⟩ = some (.int .i64 cx) ∧ w1.cell? ⟨w.heap.size + 1, 1, none⟩ = some (.int .i64 cy) ∧ w1.cell? ⟨w.heap.size + 1 + 1, 0, none⟩ = some (.int .i64 bx) ∧ w1.cell? ⟨w.heap.size + 1 + 1, 1, none⟩ = some (.int .i64 b_y) := by
      refine ⟨?_, ?_, ?_, ?_, ?_, ?_⟩ <;> (refine cell_below hb1 ?_; repeat (first | (with_reducible assumption) | (with_reducible refine cell_drew ?_) | (with_reducible refine cell_drewN ?_ _) | (with_reducible refine cell_below (by assumption) ?_) | ((with_reducible refine cell_new ?_ ?_); (· (simp; done)); (· rfl)) | (with_reducible refine cell_alloc ?_ _) | ((with_reducible refine cell_set ?_ ?_ _); (· first | (simp; done) | (simp; omega) | omega))))
    have zf1 : w.heap.size < w1.heap.size := World.block_lt_of_cell? _ _ f1
    have zf3 : w.heap.size + 1 < w1.heap.size := World.block_lt_of_cell? _ _ f3
    have zf5 : w.heap.size + 1 + 1 < w1.heap.size := World.block_lt_of_cell? _ _ f5
    obtain ⟨⟨m7a, m7b⟩, ⟨m8a, m8b⟩, ⟨m9a, m9b⟩, ⟨m10a, m10b⟩, ⟨m11a, m11b⟩⟩ : MineC7 w1 (w.heap.size + 1 + 1 + 1) 0 ∧ MineC7 w1 (w.heap.size + 1 + 1 + 1) 1 ∧ MineC7 w1 (w.heap.size + 1 + 1 + 1) 2 ∧ MineC7 w1 (w.heap.size + 1 + 1 + 1) 3 ∧ MineC7 w1 (w.heap.size + 1 + 1 + 1) 4 := by
      refine ⟨?_, ?_, ?_, ?_, ?_⟩ <;> (refine mine_below hb1 (mine_of (v := .int .i64 0) ?_ ?_) <;> simp [go_sem])
    have zm7 : w.heap.size + 1 + 1 + 1 < w1.heap.size := World.block_lt_of_cell? _ _ m7a
    go_wp2_with fail
    refine (PV1 _).mono ?_
    rintro e w2 ⟨rfl, hb2⟩
    obtain ⟨f12, f13, f14, f15, f16, f17⟩ : w2.cell? ⟨w.heap.size, 0, none⟩ = some (.int .i64 ax) ∧ w2.cell? ⟨w.heap.size, 1, none⟩ = some (.int .i64 ay) ∧ w2.cell? ⟨w.heap.size + 1, 0, none⟩ = some (.int .i64 cx) ∧ w2.cell? ⟨w.heap.size + 1, 1, none⟩ = some (.int .i64 cy) ∧ w2.cell? ⟨w.heap.size + 1 + 1, 0, none⟩ = some (.int .i64 bx) ∧ w2.cell? ⟨w.heap.size + 1 + 1, 1, none⟩ = some (.int .i64 b_y) := by
      refine ⟨?_, ?_, ?_, ?_, ?_, ?_⟩ <;> (refine cell_below hb2 ?_; repeat (first | (with_reducible assumption) | (with_reducible refine cell_drew ?_) | (with_reducible refine cell_drewN ?_ _) | (with_reducible refine cell_below (by assumption) ?_) | ((with_reducible refine cell_new ?_ ?_); (· (simp; done)); (· rfl)) | (with_reducible refine cell_alloc ?_ _) | ((with_reducible refine cell_set ?_ ?_ _); (· first | (simp; done) | (simp; omega) | omega))))
    have zf12 : w.heap.size < w2.heap.size := World.block_lt_of_cell? _ _ f12
    have zf14 : w.heap.size + 1 < w2.heap.size := World.block_lt_of_cell? _ _ f14
    have zf16 : w.heap.size + 1 + 1 < w2.heap.size := World.block_lt_of_cell? _ _ f16
    obtain ⟨⟨m18a, m18b⟩, ⟨m19a, m19b⟩, ⟨m20a, m20b⟩, ⟨m21a, m21b⟩, ⟨m22a, m22b⟩⟩ : MineC7 w2 (w.heap.size + 1 + 1 + 1) 0 ∧ MineC7 w2 (w.heap.size + 1 + 1 + 1) 1 ∧ MineC7 w2 (w.heap.size + 1 + 1 + 1) 2 ∧ MineC7 w2 (w.heap.size + 1 + 1 + 1) 3 ∧ MineC7 w2 (w.heap.size + 1 + 1 + 1) 4 := by
      refine ⟨?_, ?_, ?_, ?_, ?_⟩ <;> (refine mine_below hb2 ?_; repeat (first | (with_reducible exact ⟨by assumption, by assumption⟩) | (with_reducible refine mine_drew ?_) | (with_reducible refine mine_drewN ?_ _) | (with_reducible refine mine_below (by assumption) ?_) | ((with_reducible refine mine_new ?_ ?_); (· (simp; done)); (· rfl)) | (with_reducible refine mine_alloc ?_ _) | (with_reducible refine mine_set ?_ _ _)))
    have zm18 : w.heap.size + 1 + 1 + 1 < w2.heap.size := World.block_lt_of_cell? _ _ m18a
    clear f1 zf1 f2 f3 zf3 f4 f5 zf5 f6 m7a m7b zm7 m8a m8b m9a m9b m10a m10b m11a m11b
    go_wp2_with fail
    exact bodyPost_ret (v := .tuple #[.agg #[.int .i64 0, .int .i64 0, .int .i64 0, .int .i64 0, .int .i64 0], .int .i64 1]) (by simp [results, Try.results35, go_sem, *]) rfl ⟨rfl, by (repeat (with_reducible (first | assumption | exact Below.refl _ _ | refine Below.drew ?_ | refine below_drewN ?_ _ | refine below_set ?_ (by simp; try omega) _ | refine below_alloc ?_ (Nat.le_refl _) _ | refine below_sub (by assumption) ?_)))⟩
  have PV1 := fun W => pvalid_e cx cy true h1 W
  rcases h2 : vldB bx b_y with _ | _
  · rw [around_no (by rw [h0, h1, h2]; rfl)] at hR
    obtain ⟨⟨rfl, rfl, rfl, rfl, rfl⟩, rfl⟩ : (v0 = 0 ∧ v1 = 0 ∧ v2 = 0 ∧ v3 = 0 ∧ v4 = 0) ∧ e0 = 1 := by simpa [zeros5] using hR
    have PV2 := fun W => pvalid_e bx b_y false h2 W
    clear hR h0 h1 h2
    go_enter Try.func35, Try.ntmps35
    go_wp2_with fail
    refine (PV0 _).mono ?_
    rintro e w1 ⟨rfl, hb1⟩
    obtain ⟨f1, f2, f3, f4, f5, f6⟩ : w1.cell? ⟨w.heap.size, 0, none⟩ = some (.int .i64 ax) ∧ w1.cell? ⟨w.heap.size, 1, none⟩ = some (.int .i64 ay) ∧ w1.cell? ⟨w.heap.size + 1, 0, none⟩ = some (.int .i64 cx) ∧ w1.cell? ⟨w.heap.size + 1, 1, none⟩ = some (.int .i64 cy) ∧ w1.cell? ⟨w.heap.size + 1 + 1, 0, none⟩ = some (.int .i64 bx) ∧ w1.cell? ⟨w.heap.size + 1 + 1, 1, none⟩ = some (.int .i64 b_y) := by
      refine ⟨?_, ?_, ?_, ?_, ?_, ?_⟩ <;> (refine cell_below hb1 ?_; repeat (first | (with_reducible assumption) | (with_reducible refine cell_drew ?_) | (with_reducible refine cell_drewN ?_ _) | (with_reducible refine cell_below (by assumption) ?_) | ((with_reducible refine cell_new ?_ ?_); (· (simp; done)); (· rfl)) | (with_reducible refine cell_alloc ?_ _) | ((with_reducible refine cell_set ?_ ?_ _); (· first | (simp; done) | (simp; omega) | omega))))
    have zf1 : w.heap.size < w1.heap.size := World.block_lt_of_cell? _ _ f1
    have zf3 : w.heap.size + 1 < w1.heap.size := World.block_lt_of_cell? _ _ f3
    have zf5 : w.heap.size + 1 + 1 < w1.heap.size := World.block_lt_of_cell? _ _ f5
    obtain ⟨⟨m7a, m7b⟩, ⟨m8a, m8b⟩, ⟨m9a, m9b⟩, ⟨m10a, m10b⟩, ⟨m11a, m11b⟩⟩ : MineC7 w1 (w.heap.size + 1 + 1 + 1) 0 ∧ MineC7 w1 (w.heap.size + 1 + 1 + 1) 1 ∧ MineC7 w1 (w.heap.size + 1 + 1 + 1) 2 ∧ MineC7 w1 (w.heap.size + 1 + 1 + 1) 3 ∧ MineC7 w1 (w.heap.size + 1 + 1 + 1) 4 := by
      refine ⟨?_, ?_, ?_, ?_, ?_⟩ <;> (refine mine_below hb1 (mine_of (v := .int .i64 0) ?_ ?_) <;> simp [go_sem])
    have zm7 : w.heap.size + 1 + 1 + 1 < w1.heap.size := World.block_lt_of_cell? _ _ m7a
    go_wp2_with fail
    refine (PV1 _).mono ?_
    rintro e w2 ⟨rfl, hb2⟩
    obtain ⟨f12, f13, f14, f15, f16, f17⟩ : w2.cell? ⟨w.heap.size, 0, none⟩ = some (.int .i64 ax) ∧ w2.cell? ⟨w.heap.size, 1, none⟩ = some (.int .i64 ay) ∧ w2.cell? ⟨w.heap.size + 1, 0, none⟩ = some (.int .i64 cx) ∧ w2.cell? ⟨w.heap.size + 1, 1, none⟩ = some (.int .i64 cy) ∧ w2.cell? ⟨w.heap.size + 1 + 1, 0, none⟩ = some (.int .i64 bx) ∧ w2.cell? ⟨w.heap.size + 1 + 1, 1, none⟩ = some (.int .i64 b_y) := by
      refine ⟨?_, ?_, ?_, ?_, ?_, ?_⟩ <;> (refine cell_below hb2 ?_; repeat (first | (with_reducible assumption) | (with_reducible refine cell_drew ?_) | (with_reducible refine cell_drewN ?_ _) | (with_reducible refine cell_below (by assumption) ?_) | ((with_reducible refine cell_new ?_ ?_); (· (simp; done)); (· rfl)) | (with_reducible refine cell_alloc ?_ _) | ((with_reducible refine cell_set ?_ ?_ _); (· first | (simp; done) | (simp; omega) | omega))))
    have zf12 : w.heap.size < w2.heap.size := World.block_lt_of_cell? _ _ f12
    have zf14 : w.heap.size + 1 < w2.heap.size := World.block_lt_of_cell? _ _ f14
    have zf16 : w.heap.size + 1 + 1 < w2.heap.size := World.block_lt_of_cell? _ _ f16
    obtain ⟨⟨m18a, m18b⟩, ⟨m19a, m19b⟩, ⟨m20a, m20b⟩, ⟨m21a, m21b⟩, ⟨m22a, m22b⟩⟩ : MineC7 w2 (w.heap.size + 1 + 1 + 1) 0 ∧ MineC7 w2 (w.heap.size + 1 + 1 + 1) 1 ∧ MineC7 w2 (w.heap.size + 1 + 1 + 1) 2 ∧ MineC7 w2 (w.heap.size + 1 + 1 + 1) 3 ∧ MineC7 w2 (w.heap.size + 1 + 1 + 1) 4 := by
      refine ⟨?_, ?_, ?_, ?_, ?_⟩ <;> (refine mine_below hb2 ?_; repeat (first | (with_reducible exact ⟨by assumption, by assumption⟩) | (with_reducible refine mine_drew ?_) | (with_reducible refine mine_drewN ?_ _) | (with_reducible refine mine_below (by assumption) ?_) | ((with_reducible refine mine_new ?_ ?_); (· (simp; done)); (· rfl)) | (with_reducible refine mine_alloc ?_ _) | (with_reducible refine mine_set ?_ _ _)))
    have zm18 : w.heap.size + 1 + 1 + 1 < w2.heap.size := World.block_lt_of_cell? _ _ m18a
    clear f1 zf1 f2 f3 zf3 f4 f5 zf5 f6 m7a m7b zm7 m8a m8b m9a m9b m10a m10b m11a m11b
    go_wp2_with fail
    refine (PV2 _).mono ?_
    rintro e w3 ⟨rfl, hb3⟩
    obtain ⟨f23, f24, f25, f26, f27, f28⟩ : w3.cell? ⟨w.heap.size, 0, none⟩ = some (.int .i64 ax) ∧ w3.cell? ⟨w.heap.size, 1, none⟩ = some (.int .i64 ay) ∧ w3.cell? ⟨w.heap.size + 1, 0, none⟩ = some (.int .i64 cx) ∧ w3.cell? ⟨w.heap.size + 1, 1, none⟩ = some (.int .i64 cy) ∧ w3.cell? ⟨w.heap.size + 1 + 1, 0, none⟩ = some (.int .i64 bx) ∧ w3.cell? ⟨w.heap.size + 1 + 1, 1, none⟩ = some (.int .i64 b_y) := by
      refine ⟨?_, ?_, ?_, ?_, ?_, ?_⟩ <;> (refine cell_below hb3 ?_; repeat (first | (with_reducible assumption) | (with_reducible refine cell_drew ?_) | (with_reducible refine cell_drewN ?_ _) | (with_reducible refine cell_below (by assumption) ?_) | ((with_reducible refine cell_new ?_ ?_); (· (simp; done)); (· rfl)) | (with_reducible refine cell_alloc ?_ _) | ((with_reducible refine cell_set ?_ ?_ _); (· first | (simp; done) | (simp; omega) | omega))))
    have zf23 : w.heap.size < w3.heap.size := World.block_lt_of_cell? _ _ f23
    have zf25 : w.heap.size + 1 < w3.heap.size := World.block_lt_of_cell? _ _ f25
    have zf27 : w.heap.size + 1 + 1 < w3.heap.size := World.block_lt_of_cell? _ _ f27
    obtain ⟨⟨m29a, m29b⟩, ⟨m30a, m30b⟩, ⟨m31a, m31b⟩, ⟨m32a, m32b⟩, ⟨m33a, m33b⟩⟩ : MineC7 w3 (w.heap.size + 1 + 1 + 1) 0 ∧ MineC7 w3 (w.heap.size + 1 + 1 + 1) 1 ∧ MineC7 w3 (w.heap.size + 1 + 1 + 1) 2 ∧ MineC7 w3 (w.heap.size + 1 + 1 + 1) 3 ∧ MineC7 w3 (w.heap.size + 1 + 1 + 1) 4 := by
      refine ⟨?_, ?_, ?_, ?_, ?_⟩ <;> (refine mine_below hb3 ?_; repeat (first | (with_reducible exact ⟨by assumption, by assumption⟩) | (with_reducible refine mine_drew ?_) | (with_reducible refine mine_drewN ?_ _) | (with_reducible refine mine_below (by assumption) ?_) | ((with_reducible refine mine_new ?_ ?_); (· (simp; done)); (· rfl)) | (with_reducible refine mine_alloc ?_ _) | (with_reducible refine mine_set ?_ _ _)))
    have zm29 : w.heap.size + 1 + 1 + 1 < w3.heap.size := World.block_lt_of_cell? _ _ m29a
    clear f12 zf12 f13 f14 zf14 f15 f16 zf16 f17 m18a m18b zm18 m19a m19b m20a m20b m21a m21b m22a m22b
    go_wp2_with fail
    exact bodyPost_ret (v := .tuple #[.agg #[.int .i64 0, .int .i64 0, .int .i64 0, .int .i64 0, .int .i64 0], .int .i64 1]) (by simp [results, Try.results35, go_sem, *]) rfl ⟨rfl, by (repeat (with_reducible (first | assumption | exact Below.refl _ _ | refine Below.drew ?_ | refine below_drewN ?_ _ | refine below_set ?_ (by simp; try omega) _ | refine below_alloc ?_ (Nat.le_refl _) _ | refine below_sub (by assumption) ?_)))⟩
  have PV2 := fun W => pvalid_e bx b_y true h2 W
  have DA := fun W => dist_any cx cy ax ay W
  have DB := fun W => dist_any cx cy bx b_y W
  have da := distF_bd cx cy ax ay
  have db := distF_bd cx cy bx b_y
  by_cases h3 : distF cx cy ax ay = 0 ∨ distF cx cy bx b_y = 0 ∨ distF cx cy ax ay - distF cx cy bx b_y > 8 ∨ distF cx cy bx b_y - distF cx cy ax ay > 8
  · rw [around_far (by rw [h0, h1, h2]; rfl) h3] at hR
    obtain ⟨⟨rfl, rfl, rfl, rfl, rfl⟩, rfl⟩ : (v0 = 0 ∧ v1 = 0 ∧ v2 = 0 ∧ v3 = 0 ∧ v4 = 0) ∧ e0 = 10 := by simpa [zeros5] using hR
    clear hR h0 h1 h2
    generalize distF cx cy ax ay = m at *
    generalize distF cx cy bx b_y = n at *
    have AB := fun W => abs_any (m - n) (by unfold I64; omega) (by omega) W
    rcases h3 with h3 | h3 | h3 | h3
    all_goals
      go_enter Try.func35, Try.ntmps35
      go_wp2_with fail
      refine (PV0 _).mono ?_
      rintro e w1 ⟨rfl, hb1⟩
      obtain ⟨f1, f2, f3, f4, f5, f6⟩ : w1.cell? ⟨w.heap.size, 0, none⟩ = some (.int .i64 ax) ∧ w1.cell? ⟨w.heap.size, 1, none⟩ = some (.int .i64 ay) ∧ w1.cell? ⟨w.heap.size + 1, 0, none⟩ = some (.int .i64 cx) ∧ w1.cell? ⟨w.heap.size + 1, 1, none⟩ = some (.int .i64 cy) ∧ w1.cell? ⟨w.heap.size + 1 + 1, 0, none⟩ = some (.int .i64 bx) ∧ w1.cell? ⟨w.heap.size + 1 + 1, 1, none⟩ = some (.int .i64 b_y) := by
        refine ⟨?_, ?_, ?_, ?_, ?_, ?_⟩ <;> (refine cell_below hb1 ?_; repeat (first | (with_reducible assumption) | (with_reducible refine cell_drew ?_) | (with_reducible refine cell_drewN ?_ _) | (with_reducible refine cell_below (by assumption) ?_) | ((with_reducible refine cell_new ?_ ?_); (· (simp; done)); (· rfl)) | (with_reducible refine cell_alloc ?_ _) | ((with_reducible refine cell_set ?_ ?_ _); (· first | (simp; done) | (simp; omega) | omega))))
      have zf1 : w.heap.size < w1.heap.size := World.block_lt_of_cell? _ _ f1
      have zf3 : w.heap.size + 1 < w1.heap.size := World.block_lt_of_cell? _ _ f3
      have zf5 : w.heap.size + 1 + 1 < w1.heap.size := World.block_lt_of_cell? _ _ f5
      obtain ⟨⟨m7a, m7b⟩, ⟨m8a, m8b⟩, ⟨m9a, m9b⟩, ⟨m10a, m10b⟩, ⟨m11a, m11b⟩⟩ : MineC7 w1 (w.heap.size + 1 + 1 + 1) 0 ∧ MineC7 w1 (w.heap.size + 1 + 1 + 1) 1 ∧ MineC7 w1 (w.heap.size + 1 + 1 + 1) 2 ∧ MineC7 w1 (w.heap.size + 1 + 1 + 1) 3 ∧ MineC7 w1 (w.heap.size + 1 + 1 + 1) 4 := by
        refine ⟨?_, ?_, ?_, ?_, ?_⟩ <;> (refine mine_below hb1 (mine_of (v := .int .i64 0) ?_ ?_) <;> simp [go_sem])
      have zm7 : w.heap.size + 1 + 1 + 1 < w1.heap.size := World.block_lt_of_cell? _ _ m7a
      go_wp2_with fail
      refine (PV1 _).mono ?_
      rintro e w2 ⟨rfl, hb2⟩
      obtain ⟨f12, f13, f14, f15, f16, f17⟩ : w2.cell? ⟨w.heap.size, 0, none⟩ = some (.int .i64 ax) ∧ w2.cell? ⟨w.heap.size, 1, none⟩ = some (.int .i64 ay) ∧ w2.cell? ⟨w.heap.size + 1, 0, none⟩ = some (.int .i64 cx) ∧ w2.cell? ⟨w.heap.size + 1, 1, none⟩ = some (.int .i64 cy) ∧ w2.cell? ⟨w.heap.size + 1 + 1, 0, none⟩ = some (.int .i64 bx) ∧ w2.cell? ⟨w.heap.size + 1 + 1, 1, none⟩ = some (.int .i64 b_y) := by
        refine ⟨?_, ?_, ?_, ?_, ?_, ?_⟩ <;> (refine cell_below hb2 ?_; repeat (first | (with_reducible assumption) | (with_reducible refine cell_drew ?_) | (with_reducible refine cell_drewN ?_ _) | (with_reducible refine cell_below (by assumption) ?_) | ((with_reducible refine cell_new ?_ ?_); (· (simp; done)); (· rfl)) | (with_reducible refine cell_alloc ?_ _) | ((with_reducible refine cell_set ?_ ?_ _); (· first | (simp; done) | (simp; omega) | omega))))
      have zf12 : w.heap.size < w2.heap.size := World.block_lt_of_cell? _ _ f12
      have zf14 : w.heap.size + 1 < w2.heap.size := World.block_lt_of_cell? _ _ f14
      have zf16 : w.heap.size + 1 + 1 < w2.heap.size := World.block_lt_of_cell? _ _ f16
      obtain ⟨⟨m18a, m18b⟩, ⟨m19a, m19b⟩, ⟨m20a, m20b⟩, ⟨m21a, m21b⟩, ⟨m22a, m22b⟩⟩ : MineC7 w2 (w.heap.size + 1 + 1 + 1) 0 ∧ MineC7 w2 (w.heap.size + 1 + 1 + 1) 1 ∧ MineC7 w2 (w.heap.size + 1 + 1 + 1) 2 ∧ MineC7 w2 (w.heap.size + 1 + 1 + 1) 3 ∧ MineC7 w2 (w.heap.size + 1 + 1 + 1) 4 := by
        refine ⟨?_, ?_, ?_, ?_, ?_⟩ <;> (refine mine_below hb2 ?_; repeat (first | (with_reducible exact ⟨by assumption, by assumption⟩) | (with_reducible refine mine_drew ?_) | (with_reducible refine mine_drewN ?_ _) | (with_reducible refine mine_below (by assumption) ?_) | ((with_reducible refine mine_new ?_ ?_); (· (simp; done)); (· rfl)) | (with_reducible refine mine_alloc ?_ _) | (with_reducible refine mine_set ?_ _ _)))
      have zm18 : w.heap.size + 1 + 1 + 1 < w2.heap.size := World.block_lt_of_cell? _ _ m18a
      clear f1 zf1 f2 f3 zf3 f4 f5 zf5 f6 m7a m7b zm7 m8a m8b m9a m9b m10a m10b m11a m11b
      go_wp2_with fail
      refine (PV2 _).mono ?_
      rintro e w3 ⟨rfl, hb3⟩
      obtain ⟨f23, f24, f25, f26, f27, f28⟩ : w3.cell? ⟨w.heap.size, 0, none⟩ = some (.int .i64 ax) ∧ w3.cell? ⟨w.heap.size, 1, none⟩ = some (.int .i64 ay) ∧ w3.cell? ⟨w.heap.size + 1, 0, none⟩ = some (.int .i64 cx) ∧ w3.cell? ⟨w.heap.size + 1, 1, none⟩ = some (.int .i64 cy) ∧ w3.cell? ⟨w.heap.size + 1 + 1, 0, none⟩ = some (.int .i64 bx) ∧ w3.cell? ⟨w.heap.size + 1 + 1, 1, none⟩ = some (.int .i64 b_y) := by
        refine ⟨?_, ?_, ?_, ?_, ?_, ?_⟩ <;> (refine cell_below hb3 ?_; repeat (first | (with_reducible assumption) | (with_reducible refine cell_drew ?_) | (with_reducible refine cell_drewN ?_ _) | (with_reducible refine cell_below (by assumption) ?_) | ((with_reducible refine cell_new ?_ ?_); (· (simp; done)); (· rfl)) | (with_reducible refine cell_alloc ?_ _) | ((with_reducible refine cell_set ?_ ?_ _); (· first | (simp; done) | (simp; omega) | omega))))
      have zf23 : w.heap.size < w3.heap.size := World.block_lt_of_cell? _ _ f23
      have zf25 : w.heap.size + 1 < w3.heap.size := World.block_lt_of_cell? _ _ f25
      have zf27 : w.heap.size + 1 + 1 < w3.heap.size := World.block_lt_of_cell? _ _ f27
      obtain ⟨⟨m29a, m29b⟩, ⟨m30a, m30b⟩, ⟨m31a, m31b⟩, ⟨m32a, m32b⟩, ⟨m33a, m33b⟩⟩ : MineC7 w3 (w.heap.size + 1 + 1 + 1) 0 ∧ MineC7 w3 (w.heap.size + 1 + 1 + 1) 1 ∧ MineC7 w3 (w.heap.size + 1 + 1 + 1) 2 ∧ MineC7 w3 (w.heap.size + 1 + 1 + 1) 3 ∧ MineC7 w3 (w.heap.size + 1 + 1 + 1) 4 := by
        refine ⟨?_, ?_, ?_, ?_, ?_⟩ <;> (refine mine_below hb3 ?_; repeat (first | (with_reducible exact ⟨by assumption, by assumption⟩) | (with_reducible refine mine_drew ?_) | (with_reducible refine mine_drewN ?_ _) | (with_reducible refine mine_below (by assumption) ?_) | ((with_reducible refine mine_new ?_ ?_); (· (simp; done)); (· rfl)) | (with_reducible refine mine_alloc ?_ _) | (with_reducible refine mine_set ?_ _ _)))
      have zm29 : w.heap.size + 1 + 1 + 1 < w3.heap.size := World.block_lt_of_cell? _ _ m29a
      clear f12 zf12 f13 f14 zf14 f15 f16 zf16 f17 m18a m18b zm18 m19a m19b m20a m20b m21a m21b m22a m22b
      go_wp2_with fail
      go_region_held3 (fun w' => w'.cell? ⟨w.heap.size, 0, none⟩ = some (.int .i64 ax) ∧ w'.cell? ⟨w.heap.size, 1, none⟩ = some (.int .i64 ay) ∧ w'.cell? ⟨w.heap.size + 1, 0, none⟩ = some (.int .i64 cx) ∧ w'.cell? ⟨w.heap.size + 1, 1, none⟩ = some (.int .i64 cy) ∧ w'.cell? ⟨w.heap.size + 1 + 1, 0, none⟩ = some (.int .i64 bx) ∧ w'.cell? ⟨w.heap.size + 1 + 1, 1, none⟩ = some (.int .i64 b_y) ∧ (w'.cell? ⟨w.heap.size + 1 + 1 + 1, 0, none⟩ = some (cellV w' ⟨w.heap.size + 1 + 1 + 1, 0, none⟩) ∧ w'.frozen? ⟨w.heap.size + 1 + 1 + 1, 0, none⟩ = false) ∧ (w'.cell? ⟨w.heap.size + 1 + 1 + 1, 1, none⟩ = some (cellV w' ⟨w.heap.size + 1 + 1 + 1, 1, none⟩) ∧ w'.frozen? ⟨w.heap.size + 1 + 1 + 1, 1, none⟩ = false) ∧ (w'.cell? ⟨w.heap.size + 1 + 1 + 1, 2, none⟩ = some (cellV w' ⟨w.heap.size + 1 + 1 + 1, 2, none⟩) ∧ w'.frozen? ⟨w.heap.size + 1 + 1 + 1, 2, none⟩ = false) ∧ (w'.cell? ⟨w.heap.size + 1 + 1 + 1, 3, none⟩ = some (cellV w' ⟨w.heap.size + 1 + 1 + 1, 3, none⟩) ∧ w'.frozen? ⟨w.heap.size + 1 + 1 + 1, 3, none⟩ = false) ∧ (w'.cell? ⟨w.heap.size + 1 + 1 + 1, 4, none⟩ = some (cellV w' ⟨w.heap.size + 1 + 1 + 1, 4, none⟩) ∧ w'.frozen? ⟨w.heap.size + 1 + 1 + 1, 4, none⟩ = false)) ((go_split_ands; refine ⟨?_, ?_, ?_, ?_, ?_, ?_, ?_, ?_, ?_, ?_, ?_⟩ <;> (first | ((repeat (first | (with_reducible assumption) | (with_reducible refine cell_drew ?_) | (with_reducible refine cell_drewN ?_ _) | (with_reducible refine cell_below (by assumption) ?_) | ((with_reducible refine cell_new ?_ ?_); (· (simp; done)); (· rfl)) | (with_reducible refine cell_alloc ?_ _) | ((with_reducible refine cell_set ?_ ?_ _); (· first | (simp; done) | (simp; omega) | omega)))); done) | (repeat (first | (with_reducible exact ⟨by assumption, by assumption⟩) | (with_reducible refine mine_drew ?_) | (with_reducible refine mine_drewN ?_ _) | (with_reducible refine mine_below (by assumption) ?_) | ((with_reducible refine mine_new ?_ ?_); (· (simp; done)); (· rfl)) | (with_reducible refine mine_alloc ?_ _) | (with_reducible refine mine_set ?_ _ _))))))
        (first
          | (go_at_call 52; (first | (with_reducible refine (DA _).mono ?_) | (with_reducible refine (DB _).mono ?_)); rintro e w' ⟨rfl, hb'⟩))
      rename_i hH
      obtain ⟨f34, f35, f36, f37, f38, f39, ⟨m40a, m40b⟩, ⟨m41a, m41b⟩, ⟨m42a, m42b⟩, ⟨m43a, m43b⟩, ⟨m44a, m44b⟩⟩ := hH
      have zf34 : w.heap.size < w'.heap.size := World.block_lt_of_cell? _ _ f34
      have zf36 : w.heap.size + 1 < w'.heap.size := World.block_lt_of_cell? _ _ f36
      have zf38 : w.heap.size + 1 + 1 < w'.heap.size := World.block_lt_of_cell? _ _ f38
      have zm40 : w.heap.size + 1 + 1 + 1 < w'.heap.size := World.block_lt_of_cell? _ _ m40a
      clear f23 zf23 f24 f25 zf25 f26 f27 zf27 f28 m29a m29b zm29 m30a m30b m31a m31b m32a m32b m33a m33b
      go_wp2_with (go_at_call 59; refine (AB _).mono ?_; rintro e w' ⟨rfl, rfl⟩)
      all_goals
        exact bodyPost_ret (v := .tuple #[.agg #[.int .i64 0, .int .i64 0, .int .i64 0, .int .i64 0, .int .i64 0], .int .i64 10]) (by simp [results, Try.results35, go_sem, *]) rfl ⟨rfl, by (repeat (with_reducible (first | assumption | exact Below.refl _ _ | refine Below.drew ?_ | refine below_drewN ?_ _ | refine below_set ?_ (by simp; try omega) _ | refine below_alloc ?_ (Nat.le_refl _) _ | refine below_sub (by assumption) ?_)))⟩
  rw [around_in (by rw [h0, h1, h2]; rfl) h3] at hR
  obtain ⟨⟨rfl, rfl, rfl, rfl, rfl⟩, rfl⟩ : (cx = v0 ∧ cy = v1 ∧ distF cx cy ax ay = v2 ∧ (courseF cx cy ax ay).1 = v3 ∧ arSweep true (courseF cx cy ax ay).1 (courseF cx cy bx b_y).1 = v4) ∧ 0 = e0 := by simpa using hR.symm
  have CA := fun W => course_any cx cy ax ay W
  have CB := fun W => course_any cx cy bx b_y W
  have ca := courseF_bd cx cy ax ay
  have cb := courseF_bd cx cy bx b_y
  clear hR h0 h1 h2
  unfold arSweep
  generalize (courseF cx cy ax ay).1 = x at *
  generalize (courseF cx cy ax ay).2 = xe at *
  generalize (courseF cx cy bx b_y).1 = y at *
  generalize (courseF cx cy bx b_y).2 = ye at *
  generalize distF cx cy ax ay = m at *
  generalize distF cx cy bx b_y = n at *
  have AB := fun W => abs_any (m - n) (by unfold I64; omega) (by omega) W
  have SW := fun W => sweep_right x y (by unfold I64; omega) (by unfold I64; omega) W
  rw [show norm (norm y - norm x) = sweepF true x y from rfl] at SW
  have sw : 0 ≤ sweepF true x y ∧ sweepF true x y < 129600000 := norm_bd _
  generalize sweepF true x y = u at *
  have d1 : (m == 0) = false := by rw [beq_eq_false_iff_ne]; omega
  have d2 : (n == 0) = false := by rw [beq_eq_false_iff_ne]; omega
  have d3 : ((m - n).natAbs : Int) ≤ 8 := by omega
  simp only [if_true, if_false, Bool.false_eq_true]
  by_cases hu : u = 0
  · rw [if_pos hu]
    subst hu
    go_enter Try.func35, Try.ntmps35
    go_wp2_with fail
    refine (PV0 _).mono ?_
    rintro e w1 ⟨rfl, hb1⟩
    obtain ⟨f1, f2, f3, f4, f5, f6⟩ : w1.cell? ⟨w.heap.size, 0, none⟩ = some (.int .i64 ax) ∧ w1.cell? ⟨w.heap.size, 1, none⟩ = some (.int .i64 ay) ∧ w1.cell? ⟨w.heap.size + 1, 0, none⟩ = some (.int .i64 cx) ∧ w1.cell? ⟨w.heap.size + 1, 1, none⟩ = some (.int .i64 cy) ∧ w1.cell? ⟨w.heap.size + 1 + 1, 0, none⟩ = some (.int .i64 bx) ∧ w1.cell? ⟨w.heap.size + 1 + 1, 1, none⟩ = some (.int .i64 b_y) := by
      refine ⟨?_, ?_, ?_, ?_, ?_, ?_⟩ <;> (refine cell_below hb1 ?_; repeat (first | (with_reducible assumption) | (with_reducible refine cell_drew ?_) | (with_reducible refine cell_drewN ?_ _) | (with_reducible refine cell_below (by assumption) ?_) | ((with_reducible refine cell_new ?_ ?_); (· (simp; done)); (· rfl)) | (with_reducible refine cell_alloc ?_ _) | ((with_reducible refine cell_set ?_ ?_ _); (· first | (simp; done) | (simp; omega) | omega))))
    have zf1 : w.heap.size < w1.heap.size := World.block_lt_of_cell? _ _ f1
    have zf3 : w.heap.size + 1 < w1.heap.size := World.block_lt_of_cell? _ _ f3
    have zf5 : w.heap.size + 1 + 1 < w1.heap.size := World.block_lt_of_cell? _ _ f5
    obtain ⟨⟨m7a, m7b⟩, ⟨m8a, m8b⟩, ⟨m9a, m9b⟩, ⟨m10a, m10b⟩, ⟨m11a, m11b⟩⟩ : MineC7 w1 (w.heap.size + 1 + 1 + 1) 0 ∧ MineC7 w1 (w.heap.size + 1 + 1 + 1) 1 ∧ MineC7 w1 (w.heap.size + 1 + 1 + 1) 2 ∧ MineC7 w1 (w.heap.size + 1 + 1 + 1) 3 ∧ MineC7 w1 (w.heap.size + 1 + 1 + 1) 4 := by
      refine ⟨?_, ?_, ?_, ?_, ?_⟩ <;> (refine mine_below hb1 (mine_of (v := .int .i64 0) ?_ ?_) <;> simp [go_sem])
    have zm7 : w.heap.size + 1 + 1 + 1 < w1.heap.size := World.block_lt_of_cell? _ _ m7a
    go_wp2_with fail
    refine (PV1 _).mono ?_
    rintro e w2 ⟨rfl, hb2⟩
    obtain ⟨f12, f13, f14, f15, f16, f17⟩ : w2.cell? ⟨w.heap.size, 0, none⟩ = some (.int .i64 ax) ∧ w2.cell? ⟨w.heap.size, 1, none⟩ = some (.int .i64 ay) ∧ w2.cell? ⟨w.heap.size + 1, 0, none⟩ = some (.int .i64 cx) ∧ w2.cell? ⟨w.heap.size + 1, 1, none⟩ = some (.int .i64 cy) ∧ w2.cell? ⟨w.heap.size + 1 + 1, 0, none⟩ = some (.int .i64 bx) ∧ w2.cell? ⟨w.heap.size + 1 + 1, 1, none⟩ = some (.int .i64 b_y) := by
      refine ⟨?_, ?_, ?_, ?_, ?_, ?_⟩ <;> (refine cell_below hb2 ?_; repeat (first | (with_reducible assumption) | (with_reducible refine cell_drew ?_) | (with_reducible refine cell_drewN ?_ _) | (with_reducible refine cell_below (by assumption) ?_) | ((with_reducible refine cell_new ?_ ?_); (· (simp; done)); (· rfl)) | (with_reducible refine cell_alloc ?_ _) | ((with_reducible refine cell_set ?_ ?_ _); (· first | (simp; done) | (simp; omega) | omega))))
    have zf12 : w.heap.size < w2.heap.size := World.block_lt_of_cell? _ _ f12
    have zf14 : w.heap.size + 1 < w2.heap.size := World.block_lt_of_cell? _ _ f14
    have zf16 : w.heap.size + 1 + 1 < w2.heap.size := World.block_lt_of_cell? _ _ f16
    obtain ⟨⟨m18a, m18b⟩, ⟨m19a, m19b⟩, ⟨m20a, m20b⟩, ⟨m21a, m21b⟩, ⟨m22a, m22b⟩⟩ : MineC7 w2 (w.heap.size + 1 + 1 + 1) 0 ∧ MineC7 w2 (w.heap.size + 1 + 1 + 1) 1 ∧ MineC7 w2 (w.heap.size + 1 + 1 + 1) 2 ∧ MineC7 w2 (w.heap.size + 1 + 1 + 1) 3 ∧ MineC7 w2 (w.heap.size + 1 + 1 + 1) 4 := by
      refine ⟨?_, ?_, ?_, ?_, ?_⟩ <;> (refine mine_below hb2 ?_; repeat (first | (with_reducible exact ⟨by assumption, by assumption⟩) | (with_reducible refine mine_drew ?_) | (with_reducible refine mine_drewN ?_ _) | (with_reducible refine mine_below (by assumption) ?_) | ((with_reducible refine mine_new ?_ ?_); (· (simp; done)); (· rfl)) | (with_reducible refine mine_alloc ?_ _) | (with_reducible refine mine_set ?_ _ _)))
    have zm18 : w.heap.size + 1 + 1 + 1 < w2.heap.size := World.block_lt_of_cell? _ _ m18a
    clear f1 zf1 f2 f3 zf3 f4 f5 zf5 f6 m7a m7b zm7 m8a m8b m9a m9b m10a m10b m11a m11b
    go_wp2_with fail
    refine (PV2 _).mono ?_
    rintro e w3 ⟨rfl, hb3⟩
    obtain ⟨f23, f24, f25, f26, f27, f28⟩ : w3.cell? ⟨w.heap.size, 0, none⟩ = some (.int .i64 ax) ∧ w3.cell? ⟨w.heap.size, 1, none⟩ = some (.int .i64 ay) ∧ w3.cell? ⟨w.heap.size + 1, 0, none⟩ = some (.int .i64 cx) ∧ w3.cell? ⟨w.heap.size + 1, 1, none⟩ = some (.int .i64 cy) ∧ w3.cell? ⟨w.heap.size + 1 + 1, 0, none⟩ = some (.int .i64 bx) ∧ w3.cell? ⟨w.heap.size + 1 + 1, 1, none⟩ = some (.int .i64 b_y) := by
      refine ⟨?_, ?_, ?_, ?_, ?_, ?_⟩ <;> (refine cell_below hb3 ?_; repeat (first | (with_reducible assumption) | (with_reducible refine cell_drew ?_) | (with_reducible refine cell_drewN ?_ _) | (with_reducible refine cell_below (by assumption) ?_) | ((with_reducible refine cell_new ?_ ?_); (· (simp; done)); (· rfl)) | (with_reducible refine cell_alloc ?_ _) | ((with_reducible refine cell_set ?_ ?_ _); (· first | (simp; done) | (simp; omega) | omega))))
    have zf23 : w.heap.size < w3.heap.size := World.block_lt_of_cell? _ _ f23
    have zf25 : w.heap.size + 1 < w3.heap.size := World.block_lt_of_cell? _ _ f25
    have zf27 : w.heap.size + 1 + 1 < w3.heap.size := World.block_lt_of_cell? _ _ f27
    obtain ⟨⟨m29a, m29b⟩, ⟨m30a, m30b⟩, ⟨m31a, m31b⟩, ⟨m32a, m32b⟩, ⟨m33a, m33b⟩⟩ : MineC7 w3 (w.heap.size + 1 + 1 + 1) 0 ∧ MineC7 w3 (w.heap.size + 1 + 1 + 1) 1 ∧ MineC7 w3 (w.heap.size + 1 + 1 + 1) 2 ∧ MineC7 w3 (w.heap.size + 1 + 1 + 1) 3 ∧ MineC7 w3 (w.heap.size + 1 + 1 + 1) 4 := by
      refine ⟨?_, ?_, ?_, ?_, ?_⟩ <;> (refine mine_below hb3 ?_; repeat (first | (with_reducible exact ⟨by assumption, by assumption⟩) | (with_reducible refine mine_drew ?_) | (with_reducible refine mine_drewN ?_ _) | (with_reducible refine mine_below (by assumption) ?_) | ((with_reducible refine mine_new ?_ ?_); (· (simp; done)); (· rfl)) | (with_reducible refine mine_alloc ?_ _) | (with_reducible refine mine_set ?_ _ _)))
    have zm29 : w.heap.size + 1 + 1 + 1 < w3.heap.size := World.block_lt_of_cell? _ _ m29a
    clear f12 zf12 f13 f14 zf14 f15 f16 zf16 f17 m18a m18b zm18 m19a m19b m20a m20b m21a m21b m22a m22b
    go_wp2_with fail
    go_region_held3 (fun w' => w'.cell? ⟨w.heap.size, 0, none⟩ = some (.int .i64 ax) ∧ w'.cell? ⟨w.heap.size, 1, none⟩ = some (.int .i64 ay) ∧ w'.cell? ⟨w.heap.size + 1, 0, none⟩ = some (.int .i64 cx) ∧ w'.cell? ⟨w.heap.size + 1, 1, none⟩ = some (.int .i64 cy) ∧ w'.cell? ⟨w.heap.size + 1 + 1, 0, none⟩ = some (.int .i64 bx) ∧ w'.cell? ⟨w.heap.size + 1 + 1, 1, none⟩ = some (.int .i64 b_y) ∧ (w'.cell? ⟨w.heap.size + 1 + 1 + 1, 0, none⟩ = some (cellV w' ⟨w.heap.size + 1 + 1 + 1, 0, none⟩) ∧ w'.frozen? ⟨w.heap.size + 1 + 1 + 1, 0, none⟩ = false) ∧ (w'.cell? ⟨w.heap.size + 1 + 1 + 1, 1, none⟩ = some (cellV w' ⟨w.heap.size + 1 + 1 + 1, 1, none⟩) ∧ w'.frozen? ⟨w.heap.size + 1 + 1 + 1, 1, none⟩ = false) ∧ (w'.cell? ⟨w.heap.size + 1 + 1 + 1, 2, none⟩ = some (cellV w' ⟨w.heap.size + 1 + 1 + 1, 2, none⟩) ∧ w'.frozen? ⟨w.heap.size + 1 + 1 + 1, 2, none⟩ = false) ∧ (w'.cell? ⟨w.heap.size + 1 + 1 + 1, 3, none⟩ = some (cellV w' ⟨w.heap.size + 1 + 1 + 1, 3, none⟩) ∧ w'.frozen? ⟨w.heap.size + 1 + 1 + 1, 3, none⟩ = false) ∧ (w'.cell? ⟨w.heap.size + 1 + 1 + 1, 4, none⟩ = some (cellV w' ⟨w.heap.size + 1 + 1 + 1, 4, none⟩) ∧ w'.frozen? ⟨w.heap.size + 1 + 1 + 1, 4, none⟩ = false)) ((go_split_ands; refine ⟨?_, ?_, ?_, ?_, ?_, ?_, ?_, ?_, ?_, ?_, ?_⟩ <;> (first | ((repeat (first | (with_reducible assumption) | (with_reducible refine cell_drew ?_) | (with_reducible refine cell_drewN ?_ _) | (with_reducible refine cell_below (by assumption) ?_) | ((with_reducible refine cell_new ?_ ?_); (· (simp; done)); (· rfl)) | (with_reducible refine cell_alloc ?_ _) | ((with_reducible refine cell_set ?_ ?_ _); (· first | (simp; done) | (simp; omega) | omega)))); done) | (repeat (first | (with_reducible exact ⟨by assumption, by assumption⟩) | (with_reducible refine mine_drew ?_) | (with_reducible refine mine_drewN ?_ _) | (with_reducible refine mine_below (by assumption) ?_) | ((with_reducible refine mine_new ?_ ?_); (· (simp; done)); (· rfl)) | (with_reducible refine mine_alloc ?_ _) | (with_reducible refine mine_set ?_ _ _))))))
      (first
        | (go_at_call 52; (first | (with_reducible refine (DA _).mono ?_) | (with_reducible refine (DB _).mono ?_)); rintro e w' ⟨rfl, hb'⟩))
    rename_i hH
    obtain ⟨f34, f35, f36, f37, f38, f39, ⟨m40a, m40b⟩, ⟨m41a, m41b⟩, ⟨m42a, m42b⟩, ⟨m43a, m43b⟩, ⟨m44a, m44b⟩⟩ := hH
    have zf34 : w.heap.size < w'.heap.size := World.block_lt_of_cell? _ _ f34
    have zf36 : w.heap.size + 1 < w'.heap.size := World.block_lt_of_cell? _ _ f36
    have zf38 : w.heap.size + 1 + 1 < w'.heap.size := World.block_lt_of_cell? _ _ f38
    have zm40 : w.heap.size + 1 + 1 + 1 < w'.heap.size := World.block_lt_of_cell? _ _ m40a
    clear f23 zf23 f24 f25 zf25 f26 f27 zf27 f28 m29a m29b zm29 m30a m30b m31a m31b m32a m32b m33a m33b
    go_wp2_with (go_at_call 59; refine (AB _).mono ?_; rintro e w' ⟨rfl, rfl⟩)
    refine (CA _).mono ?_
    rintro e w4 ⟨rfl, hb4⟩
    obtain ⟨f45, f46, f47, f48, f49, f50⟩ : w4.cell? ⟨w.heap.size, 0, none⟩ = some (.int .i64 ax) ∧ w4.cell? ⟨w.heap.size, 1, none⟩ = some (.int .i64 ay) ∧ w4.cell? ⟨w.heap.size + 1, 0, none⟩ = some (.int .i64 cx) ∧ w4.cell? ⟨w.heap.size + 1, 1, none⟩ = some (.int .i64 cy) ∧ w4.cell? ⟨w.heap.size + 1 + 1, 0, none⟩ = some (.int .i64 bx) ∧ w4.cell? ⟨w.heap.size + 1 + 1, 1, none⟩ = some (.int .i64 b_y) := by
      refine ⟨?_, ?_, ?_, ?_, ?_, ?_⟩ <;> (refine cell_below hb4 ?_; repeat (first | (with_reducible assumption) | (with_reducible refine cell_drew ?_) | (with_reducible refine cell_drewN ?_ _) | (with_reducible refine cell_below (by assumption) ?_) | ((with_reducible refine cell_new ?_ ?_); (· (simp; done)); (· rfl)) | (with_reducible refine cell_alloc ?_ _) | ((with_reducible refine cell_set ?_ ?_ _); (· first | (simp; done) | (simp; omega) | omega))))
    have zf45 : w.heap.size < w4.heap.size := World.block_lt_of_cell? _ _ f45
    have zf47 : w.heap.size + 1 < w4.heap.size := World.block_lt_of_cell? _ _ f47
    have zf49 : w.heap.size + 1 + 1 < w4.heap.size := World.block_lt_of_cell? _ _ f49
    obtain ⟨⟨m51a, m51b⟩, ⟨m52a, m52b⟩, ⟨m53a, m53b⟩, ⟨m54a, m54b⟩, ⟨m55a, m55b⟩⟩ : MineC7 w4 (w.heap.size + 1 + 1 + 1) 0 ∧ MineC7 w4 (w.heap.size + 1 + 1 + 1) 1 ∧ MineC7 w4 (w.heap.size + 1 + 1 + 1) 2 ∧ MineC7 w4 (w.heap.size + 1 + 1 + 1) 3 ∧ MineC7 w4 (w.heap.size + 1 + 1 + 1) 4 := by
      refine ⟨?_, ?_, ?_, ?_, ?_⟩ <;> (refine mine_below hb4 ?_; repeat (first | (with_reducible exact ⟨by assumption, by assumption⟩) | (with_reducible refine mine_drew ?_) | (with_reducible refine mine_drewN ?_ _) | (with_reducible refine mine_below (by assumption) ?_) | ((with_reducible refine mine_new ?_ ?_); (· (simp; done)); (· rfl)) | (with_reducible refine mine_alloc ?_ _) | (with_reducible refine mine_set ?_ _ _)))
    have zm51 : w.heap.size + 1 + 1 + 1 < w4.heap.size := World.block_lt_of_cell? _ _ m51a
    clear f34 zf34 f35 f36 zf36 f37 f38 zf38 f39 m40a m40b zm40 m41a m41b m42a m42b m43a m43b m44a m44b
    go_wp2_with fail
    refine (CB _).mono ?_
    rintro e w5 ⟨rfl, hb5⟩
    obtain ⟨f56, f57, f58, f59, f60, f61⟩ : w5.cell? ⟨w.heap.size, 0, none⟩ = some (.int .i64 ax) ∧ w5.cell? ⟨w.heap.size, 1, none⟩ = some (.int .i64 ay) ∧ w5.cell? ⟨w.heap.size + 1, 0, none⟩ = some (.int .i64 cx) ∧ w5.cell? ⟨w.heap.size + 1, 1, none⟩ = some (.int .i64 cy) ∧ w5.cell? ⟨w.heap.size + 1 + 1, 0, none⟩ = some (.int .i64 bx) ∧ w5.cell? ⟨w.heap.size + 1 + 1, 1, none⟩ = some (.int .i64 b_y) := by
      refine ⟨?_, ?_, ?_, ?_, ?_, ?_⟩ <;> (refine cell_below hb5 ?_; repeat (first | (with_reducible assumption) | (with_reducible refine cell_drew ?_) | (with_reducible refine cell_drewN ?_ _) | (with_reducible refine cell_below (by assumption) ?_) | ((with_reducible refine cell_new ?_ ?_); (· (simp; done)); (· rfl)) | (with_reducible refine cell_alloc ?_ _) | ((with_reducible refine cell_set ?_ ?_ _); (· first | (simp; done) | (simp; omega) | omega))))
    have zf56 : w.heap.size < w5.heap.size := World.block_lt_of_cell? _ _ f56
    have zf58 : w.heap.size + 1 < w5.heap.size := World.block_lt_of_cell? _ _ f58
    have zf60 : w.heap.size + 1 + 1 < w5.heap.size := World.block_lt_of_cell? _ _ f60
    obtain ⟨⟨m62a, m62b⟩, ⟨m63a, m63b⟩, ⟨m64a, m64b⟩, ⟨m65a, m65b⟩, ⟨m66a, m66b⟩⟩ : MineC7 w5 (w.heap.size + 1 + 1 + 1) 0 ∧ MineC7 w5 (w.heap.size + 1 + 1 + 1) 1 ∧ MineC7 w5 (w.heap.size + 1 + 1 + 1) 2 ∧ MineC7 w5 (w.heap.size + 1 + 1 + 1) 3 ∧ MineC7 w5 (w.heap.size + 1 + 1 + 1) 4 := by
      refine ⟨?_, ?_, ?_, ?_, ?_⟩ <;> (refine mine_below hb5 ?_; repeat (first | (with_reducible exact ⟨by assumption, by assumption⟩) | (with_reducible refine mine_drew ?_) | (with_reducible refine mine_drewN ?_ _) | (with_reducible refine mine_below (by assumption) ?_) | ((with_reducible refine mine_new ?_ ?_); (· (simp; done)); (· rfl)) | (with_reducible refine mine_alloc ?_ _) | (with_reducible refine mine_set ?_ _ _)))
    have zm62 : w.heap.size + 1 + 1 + 1 < w5.heap.size := World.block_lt_of_cell? _ _ m62a
    clear f45 zf45 f46 f47 zf47 f48 f49 zf49 f50 m51a m51b zm51 m52a m52b m53a m53b m54a m54b m55a m55b
    go_wp2_with (go_at_call 70; refine (SW _).mono ?_; rintro e w' ⟨rfl, rfl⟩)
    exact bodyPost_ret (v := .tuple #[.agg #[.int .i64 cx, .int .i64 cy, .int .i64 m, .int .i64 x, .int .i64 (129600000)], .int .i64 0]) (by simp [results, Try.results35, go_sem, *]) rfl ⟨rfl, by (repeat (with_reducible (first | assumption | exact Below.refl _ _ | refine Below.drew ?_ | refine below_drewN ?_ _ | refine below_set ?_ (by simp; try omega) _ | refine below_alloc ?_ (Nat.le_refl _) _ | refine below_sub (by assumption) ?_)))⟩
  · rw [if_neg hu]
    go_enter Try.func35, Try.ntmps35
    go_wp2_with fail
    refine (PV0 _).mono ?_
    rintro e w1 ⟨rfl, hb1⟩
    obtain ⟨f1, f2, f3, f4, f5, f6⟩ : w1.cell? ⟨w.heap.size, 0, none⟩ = some (.int .i64 ax) ∧ w1.cell? ⟨w.heap.size, 1, none⟩ = some (.int .i64 ay) ∧ w1.cell? ⟨w.heap.size + 1, 0, none⟩ = some (.int .i64 cx) ∧ w1.cell? ⟨w.heap.size + 1, 1, none⟩ = some (.int .i64 cy) ∧ w1.cell? ⟨w.heap.size + 1 + 1, 0, none⟩ = some (.int .i64 bx) ∧ w1.cell? ⟨w.heap.size + 1 + 1, 1, none⟩ = some (.int .i64 b_y) := by
      refine ⟨?_, ?_, ?_, ?_, ?_, ?_⟩ <;> (refine cell_below hb1 ?_; repeat (first | (with_reducible assumption) | (with_reducible refine cell_drew ?_) | (with_reducible refine cell_drewN ?_ _) | (with_reducible refine cell_below (by assumption) ?_) | ((with_reducible refine cell_new ?_ ?_); (· (simp; done)); (· rfl)) | (with_reducible refine cell_alloc ?_ _) | ((with_reducible refine cell_set ?_ ?_ _); (· first | (simp; done) | (simp; omega) | omega))))
    have zf1 : w.heap.size < w1.heap.size := World.block_lt_of_cell? _ _ f1
    have zf3 : w.heap.size + 1 < w1.heap.size := World.block_lt_of_cell? _ _ f3
    have zf5 : w.heap.size + 1 + 1 < w1.heap.size := World.block_lt_of_cell? _ _ f5
    obtain ⟨⟨m7a, m7b⟩, ⟨m8a, m8b⟩, ⟨m9a, m9b⟩, ⟨m10a, m10b⟩, ⟨m11a, m11b⟩⟩ : MineC7 w1 (w.heap.size + 1 + 1 + 1) 0 ∧ MineC7 w1 (w.heap.size + 1 + 1 + 1) 1 ∧ MineC7 w1 (w.heap.size + 1 + 1 + 1) 2 ∧ MineC7 w1 (w.heap.size + 1 + 1 + 1) 3 ∧ MineC7 w1 (w.heap.size + 1 + 1 + 1) 4 := by
      refine ⟨?_, ?_, ?_, ?_, ?_⟩ <;> (refine mine_below hb1 (mine_of (v := .int .i64 0) ?_ ?_) <;> simp [go_sem])
    have zm7 : w.heap.size + 1 + 1 + 1 < w1.heap.size := World.block_lt_of_cell? _ _ m7a
    go_wp2_with fail
    refine (PV1 _).mono ?_
    rintro e w2 ⟨rfl, hb2⟩
    obtain ⟨f12, f13, f14, f15, f16, f17⟩ : w2.cell? ⟨w.heap.size, 0, none⟩ = some (.int .i64 ax) ∧ w2.cell? ⟨w.heap.size, 1, none⟩ = some (.int .i64 ay) ∧ w2.cell? ⟨w.heap.size + 1, 0, none⟩ = some (.int .i64 cx) ∧ w2.cell? ⟨w.heap.size + 1, 1, none⟩ = some (.int .i64 cy) ∧ w2.cell? ⟨w.heap.size + 1 + 1, 0, none⟩ = some (.int .i64 bx) ∧ w2.cell? ⟨w.heap.size + 1 + 1, 1, none⟩ = some (.int .i64 b_y) := by
      refine ⟨?_, ?_, ?_, ?_, ?_, ?_⟩ <;> (refine cell_below hb2 ?_; repeat (first | (with_reducible assumption) | (with_reducible refine cell_drew ?_) | (with_reducible refine cell_drewN ?_ _) | (with_reducible refine cell_below (by assumption) ?_) | ((with_reducible refine cell_new ?_ ?_); (· (simp; done)); (· rfl)) | (with_reducible refine cell_alloc ?_ _) | ((with_reducible refine cell_set ?_ ?_ _); (· first | (simp; done) | (simp; omega) | omega))))
    have zf12 : w.heap.size < w2.heap.size := World.block_lt_of_cell? _ _ f12
    have zf14 : w.heap.size + 1 < w2.heap.size := World.block_lt_of_cell? _ _ f14
    have zf16 : w.heap.size + 1 + 1 < w2.heap.size := World.block_lt_of_cell? _ _ f16
    obtain ⟨⟨m18a, m18b⟩, ⟨m19a, m19b⟩, ⟨m20a, m20b⟩, ⟨m21a, m21b⟩, ⟨m22a, m22b⟩⟩ : MineC7 w2 (w.heap.size + 1 + 1 + 1) 0 ∧ MineC7 w2 (w.heap.size + 1 + 1 + 1) 1 ∧ MineC7 w2 (w.heap.size + 1 + 1 + 1) 2 ∧ MineC7 w2 (w.heap.size + 1 + 1 + 1) 3 ∧ MineC7 w2 (w.heap.size + 1 + 1 + 1) 4 := by
      refine ⟨?_, ?_, ?_, ?_, ?_⟩ <;> (refine mine_below hb2 ?_; repeat (first | (with_reducible exact ⟨by assumption, by assumption⟩) | (with_reducible refine mine_drew ?_) | (with_reducible refine mine_drewN ?_ _) | (with_reducible refine mine_below (by assumption) ?_) | ((with_reducible refine mine_new ?_ ?_); (· (simp; done)); (· rfl)) | (with_reducible refine mine_alloc ?_ _) | (with_reducible refine mine_set ?_ _ _)))
    have zm18 : w.heap.size + 1 + 1 + 1 < w2.heap.size := World.block_lt_of_cell? _ _ m18a
    clear f1 zf1 f2 f3 zf3 f4 f5 zf5 f6 m7a m7b zm7 m8a m8b m9a m9b m10a m10b m11a m11b
    go_wp2_with fail
    refine (PV2 _).mono ?_
    rintro e w3 ⟨rfl, hb3⟩
    obtain ⟨f23, f24, f25, f26, f27, f28⟩ : w3.cell? ⟨w.heap.size, 0, none⟩ = some (.int .i64 ax) ∧ w3.cell? ⟨w.heap.size, 1, none⟩ = some (.int .i64 ay) ∧ w3.cell? ⟨w.heap.size + 1, 0, none⟩ = some (.int .i64 cx) ∧ w3.cell? ⟨w.heap.size + 1, 1, none⟩ = some (.int .i64 cy) ∧ w3.cell? ⟨w.heap.size + 1 + 1, 0, none⟩ = some (.int .i64 bx) ∧ w3.cell? ⟨w.heap.size + 1 + 1, 1, none⟩ = some (.int .i64 b_y) := by
      refine ⟨?_, ?_, ?_, ?_, ?_, ?_⟩ <;> (refine cell_below hb3 ?_; repeat (first | (with_reducible assumption) | (with_reducible refine cell_drew ?_) | (with_reducible refine cell_drewN ?_ _) | (with_reducible refine cell_below (by assumption) ?_) | ((with_reducible refine cell_new ?_ ?_); (· (simp; done)); (· rfl)) | (with_reducible refine cell_alloc ?_ _) | ((with_reducible refine cell_set ?_ ?_ _); (· first | (simp; done) | (simp; omega) | omega))))
    have zf23 : w.heap.size < w3.heap.size := World.block_lt_of_cell? _ _ f23
    have zf25 : w.heap.size + 1 < w3.heap.size := World.block_lt_of_cell? _ _ f25
    have zf27 : w.heap.size + 1 + 1 < w3.heap.size := World.block_lt_of_cell? _ _ f27
    obtain ⟨⟨m29a, m29b⟩, ⟨m30a, m30b⟩, ⟨m31a, m31b⟩, ⟨m32a, m32b⟩, ⟨m33a, m33b⟩⟩ : MineC7 w3 (w.heap.size + 1 + 1 + 1) 0 ∧ MineC7 w3 (w.heap.size + 1 + 1 + 1) 1 ∧ MineC7 w3 (w.heap.size + 1 + 1 + 1) 2 ∧ MineC7 w3 (w.heap.size + 1 + 1 + 1) 3 ∧ MineC7 w3 (w.heap.size + 1 + 1 + 1) 4 := by
      refine ⟨?_, ?_, ?_, ?_, ?_⟩ <;> (refine mine_below hb3 ?_; repeat (first | (with_reducible exact ⟨by assumption, by assumption⟩) | (with_reducible refine mine_drew ?_) | (with_reducible refine mine_drewN ?_ _) | (with_reducible refine mine_below (by assumption) ?_) | ((with_reducible refine mine_new ?_ ?_); (· (simp; done)); (· rfl)) | (with_reducible refine mine_alloc ?_ _) | (with_reducible refine mine_set ?_ _ _)))
    have zm29 : w.heap.size + 1 + 1 + 1 < w3.heap.size := World.block_lt_of_cell? _ _ m29a
    clear f12 zf12 f13 f14 zf14 f15 f16 zf16 f17 m18a m18b zm18 m19a m19b m20a m20b m21a m21b m22a m22b
    go_wp2_with fail
    go_region_held3 (fun w' => w'.cell? ⟨w.heap.size, 0, none⟩ = some (.int .i64 ax) ∧ w'.cell? ⟨w.heap.size, 1, none⟩ = some (.int .i64 ay) ∧ w'.cell? ⟨w.heap.size + 1, 0, none⟩ = some (.int .i64 cx) ∧ w'.cell? ⟨w.heap.size + 1, 1, none⟩ = some (.int .i64 cy) ∧ w'.cell? ⟨w.heap.size + 1 + 1, 0, none⟩ = some (.int .i64 bx) ∧ w'.cell? ⟨w.heap.size + 1 + 1, 1, none⟩ = some (.int .i64 b_y) ∧ (w'.cell? ⟨w.heap.size + 1 + 1 + 1, 0, none⟩ = some (cellV w' ⟨w.heap.size + 1 + 1 + 1, 0, none⟩) ∧ w'.frozen? ⟨w.heap.size + 1 + 1 + 1, 0, none⟩ = false) ∧ (w'.cell? ⟨w.heap.size + 1 + 1 + 1, 1, none⟩ = some (cellV w' ⟨w.heap.size + 1 + 1 + 1, 1, none⟩) ∧ w'.frozen? ⟨w.heap.size + 1 + 1 + 1, 1, none⟩ = false) ∧ (w'.cell? ⟨w.heap.size + 1 + 1 + 1, 2, none⟩ = some (cellV w' ⟨w.heap.size + 1 + 1 + 1, 2, none⟩) ∧ w'.frozen? ⟨w.heap.size + 1 + 1 + 1, 2, none⟩ = false) ∧ (w'.cell? ⟨w.heap.size + 1 + 1 + 1, 3, none⟩ = some (cellV w' ⟨w.heap.size + 1 + 1 + 1, 3, none⟩) ∧ w'.frozen? ⟨w.heap.size + 1 + 1 + 1, 3, none⟩ = false) ∧ (w'.cell? ⟨w.heap.size + 1 + 1 + 1, 4, none⟩ = some (cellV w' ⟨w.heap.size + 1 + 1 + 1, 4, none⟩) ∧ w'.frozen? ⟨w.heap.size + 1 + 1 + 1, 4, none⟩ = false)) ((go_split_ands; refine ⟨?_, ?_, ?_, ?_, ?_, ?_, ?_, ?_, ?_, ?_, ?_⟩ <;> (first | ((repeat (first | (with_reducible assumption) | (with_reducible refine cell_drew ?_) | (with_reducible refine cell_drewN ?_ _) | (with_reducible refine cell_below (by assumption) ?_) | ((with_reducible refine cell_new ?_ ?_); (· (simp; done)); (· rfl)) | (with_reducible refine cell_alloc ?_ _) | ((with_reducible refine cell_set ?_ ?_ _); (· first | (simp; done) | (simp; omega) | omega)))); done) | (repeat (first | (with_reducible exact ⟨by assumption, by assumption⟩) | (with_reducible refine mine_drew ?_) | (with_reducible refine mine_drewN ?_ _) | (with_reducible refine mine_below (by assumption) ?_) | ((with_reducible refine mine_new ?_ ?_); (· (simp; done)); (· rfl)) | (with_reducible refine mine_alloc ?_ _) | (with_reducible refine mine_set ?_ _ _))))))
      (first
        | (go_at_call 52; (first | (with_reducible refine (DA _).mono ?_) | (with_reducible refine (DB _).mono ?_)); rintro e w' ⟨rfl, hb'⟩))
    rename_i hH
    obtain ⟨f34, f35, f36, f37, f38, f39, ⟨m40a, m40b⟩, ⟨m41a, m41b⟩, ⟨m42a, m42b⟩, ⟨m43a, m43b⟩, ⟨m44a, m44b⟩⟩ := hH
    have zf34 : w.heap.size < w'.heap.size := World.block_lt_of_cell? _ _ f34
    have zf36 : w.heap.size + 1 < w'.heap.size := World.block_lt_of_cell? _ _ f36
    have zf38 : w.heap.size + 1 + 1 < w'.heap.size := World.block_lt_of_cell? _ _ f38
    have zm40 : w.heap.size + 1 + 1 + 1 < w'.heap.size := World.block_lt_of_cell? _ _ m40a
    clear f23 zf23 f24 f25 zf25 f26 f27 zf27 f28 m29a m29b zm29 m30a m30b m31a m31b m32a m32b m33a m33b
    go_wp2_with (go_at_call 59; refine (AB _).mono ?_; rintro e w' ⟨rfl, rfl⟩)
    refine (CA _).mono ?_
    rintro e w4 ⟨rfl, hb4⟩
    obtain ⟨f45, f46, f47, f48, f49, f50⟩ : w4.cell? ⟨w.heap.size, 0, none⟩ = some (.int .i64 ax) ∧ w4.cell? ⟨w.heap.size, 1, none⟩ = some (.int .i64 ay) ∧ w4.cell? ⟨w.heap.size + 1, 0, none⟩ = some (.int .i64 cx) ∧ w4.cell? ⟨w.heap.size + 1, 1, none⟩ = some (.int .i64 cy) ∧ w4.cell? ⟨w.heap.size + 1 + 1, 0, none⟩ = some (.int .i64 bx) ∧ w4.cell? ⟨w.heap.size + 1 + 1, 1, none⟩ = some (.int .i64 b_y) := by
      refine ⟨?_, ?_, ?_, ?_, ?_, ?_⟩ <;> (refine cell_below hb4 ?_; repeat (first | (with_reducible assumption) | (with_reducible refine cell_drew ?_) | (with_reducible refine cell_drewN ?_ _) | (with_reducible refine cell_below (by assumption) ?_) | ((with_reducible refine cell_new ?_ ?_); (· (simp; done)); (· rfl)) | (with_reducible refine cell_alloc ?_ _) | ((with_reducible refine cell_set ?_ ?_ _); (· first | (simp; done) | (simp; omega) | omega))))
    have zf45 : w.heap.size < w4.heap.size := World.block_lt_of_cell? _ _ f45
    have zf47 : w.heap.size + 1 < w4.heap.size := World.block_lt_of_cell? _ _ f47
    have zf49 : w.heap.size + 1 + 1 < w4.heap.size := World.block_lt_of_cell? _ _ f49
    obtain ⟨⟨m51a, m51b⟩, ⟨m52a, m52b⟩, ⟨m53a, m53b⟩, ⟨m54a, m54b⟩, ⟨m55a, m55b⟩⟩ : MineC7 w4 (w.heap.size + 1 + 1 + 1) 0 ∧ MineC7 w4 (w.heap.size + 1 + 1 + 1) 1 ∧ MineC7 w4 (w.heap.size + 1 + 1 + 1) 2 ∧ MineC7 w4 (w.heap.size + 1 + 1 + 1) 3 ∧ MineC7 w4 (w.heap.size + 1 + 1 + 1) 4 := by
      refine ⟨?_, ?_, ?_, ?_, ?_⟩ <;> (refine mine_below hb4 ?_; repeat (first | (with_reducible exact ⟨by assumption, by assumption⟩) | (with_reducible refine mine_drew ?_) | (with_reducible refine mine_drewN ?_ _) | (with_reducible refine mine_below (by assumption) ?_) | ((with_reducible refine mine_new ?_ ?_); (· (simp; done)); (· rfl)) | (with_reducible refine mine_alloc ?_ _) | (with_reducible refine mine_set ?_ _ _)))
    have zm51 : w.heap.size + 1 + 1 + 1 < w4.heap.size := World.block_lt_of_cell? _ _ m51a
    clear f34 zf34 f35 f36 zf36 f37 f38 zf38 f39 m40a m40b zm40 m41a m41b m42a m42b m43a m43b m44a m44b
    go_wp2_with fail
    refine (CB _).mono ?_
    rintro e w5 ⟨rfl, hb5⟩
    obtain ⟨f56, f57, f58, f59, f60, f61⟩ : w5.cell? ⟨w.heap.size, 0, none⟩ = some (.int .i64 ax) ∧ w5.cell? ⟨w.heap.size, 1, none⟩ = some (.int .i64 ay) ∧ w5.cell? ⟨w.heap.size + 1, 0, none⟩ = some (.int .i64 cx) ∧ w5.cell? ⟨w.heap.size + 1, 1, none⟩ = some (.int .i64 cy) ∧ w5.cell? ⟨w.heap.size + 1 + 1, 0, none⟩ = some (.int .i64 bx) ∧ w5.cell? ⟨w.heap.size + 1 + 1, 1, none⟩ = some (.int .i64 b_y) := by
      refine ⟨?_, ?_, ?_, ?_, ?_, ?_⟩ <;> (refine cell_below hb5 ?_; repeat (first | (with_reducible assumption) | (with_reducible refine cell_drew ?_) | (with_reducible refine cell_drewN ?_ _) | (with_reducible refine cell_below (by assumption) ?_) | ((with_reducible refine cell_new ?_ ?_); (· (simp; done)); (· rfl)) | (with_reducible refine cell_alloc ?_ _) | ((with_reducible refine cell_set ?_ ?_ _); (· first | (simp; done) | (simp; omega) | omega))))
    have zf56 : w.heap.size < w5.heap.size := World.block_lt_of_cell? _ _ f56
    have zf58 : w.heap.size + 1 < w5.heap.size := World.block_lt_of_cell? _ _ f58
    have zf60 : w.heap.size + 1 + 1 < w5.heap.size := World.block_lt_of_cell? _ _ f60
    obtain ⟨⟨m62a, m62b⟩, ⟨m63a, m63b⟩, ⟨m64a, m64b⟩, ⟨m65a, m65b⟩, ⟨m66a, m66b⟩⟩ : MineC7 w5 (w.heap.size + 1 + 1 + 1) 0 ∧ MineC7 w5 (w.heap.size + 1 + 1 + 1) 1 ∧ MineC7 w5 (w.heap.size + 1 + 1 + 1) 2 ∧ MineC7 w5 (w.heap.size + 1 + 1 + 1) 3 ∧ MineC7 w5 (w.heap.size + 1 + 1 + 1) 4 := by
      refine ⟨?_, ?_, ?_, ?_, ?_⟩ <;> (refine mine_below hb5 ?_; repeat (first | (with_reducible exact ⟨by assumption, by assumption⟩) | (with_reducible refine mine_drew ?_) | (with_reducible refine mine_drewN ?_ _) | (with_reducible refine mine_below (by assumption) ?_) | ((with_reducible refine mine_new ?_ ?_); (· (simp; done)); (· rfl)) | (with_reducible refine mine_alloc ?_ _) | (with_reducible refine mine_set ?_ _ _)))
    have zm62 : w.heap.size + 1 + 1 + 1 < w5.heap.size := World.block_lt_of_cell? _ _ m62a
    clear f45 zf45 f46 f47 zf47 f48 f49 zf49 f50 m51a m51b zm51 m52a m52b m53a m53b m54a m54b m55a m55b
    go_wp2_with (go_at_call 70; refine (SW _).mono ?_; rintro e w' ⟨rfl, rfl⟩)
    exact bodyPost_ret (v := .tuple #[.agg #[.int .i64 cx, .int .i64 cy, .int .i64 m, .int .i64 x, .int .i64 (u)], .int .i64 0]) (by simp [results, Try.results35, go_sem, *]) rfl ⟨rfl, by (repeat (with_reducible (first | assumption | exact Below.refl _ _ | refine Below.drew ?_ | refine below_drewN ?_ _ | refine below_set ?_ (by simp; try omega) _ | refine below_alloc ?_ (Nat.le_refl _) _ | refine below_sub (by assumption) ?_)))⟩
end Go.Proofs.Yteedgcffdgkicaa

