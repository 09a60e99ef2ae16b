/-
  The walks of FlyBy: the reference.
-/
import Derived.Test.YteedgcffdgkicaaMTurnF2
import Derived.Deep.DeepCutAuto
namespace Go.Proofs.Yteedgcffdgkicaa
open Go.RowKit
set_option linter.unusedVariables false
set_option linter.unusedSimpArgs false
def MineC5r (W : World) (b i : Nat) : Prop := W.cell? ⟨b, i, none⟩ = some (cellV W ⟨b, i, none⟩) ∧ W.frozen? ⟨b, i, none⟩ = false
set_option maxRecDepth 100000 in
set_option maxHeartbeats 4000000 in
theorem rfly_main (ax ay bx b_y cx cy r : Int) (hr : I64 r) (w : World) (v0 v1 v2 v3 v4 v5 v6 v7 v8 v9 e0 : Int)
    (h0 : vldB ax ay = true) (h1 : vldB bx b_y = true) (h2 : vldB cx cy = true) (h3 : ¬ (r < 1 ∨ r > 8000000)) (h4 : ¬ (ax = bx ∧ ay = b_y)) (h5 : ¬ (bx = cx ∧ b_y = cy))
    (hR : ([v0, v1, v2, v3, v4, v5, v6, v7, v8, v9], e0) = flyF ax ay bx b_y cx cy r) :
    Calls Try.prog 31 #[.agg #[.int .i64 ax, .int .i64 ay], .agg #[.int .i64 bx, .int .i64 b_y], .agg #[.int .i64 cx, .int .i64 cy], .int .i64 r] w fun e w' => e = .returned (.tuple #[.agg #[.int .i64 v0, .int .i64 v1, .int .i64 v2, .int .i64 v3, .int .i64 v4, .int .i64 v5, .int .i64 v6, .int .i64 v7, .int .i64 v8, .int .i64 v9], .int .i64 e0]) ∧ Below w.heap.size w w' := by
  have PV0 := fun W => rpvalid_d ax ay true h0 W
  have PV1 := fun W => rpvalid_d bx b_y true h1 W
  have PV2 := fun W => rpvalid_d cx cy true h2 W
  have CA := fun W => rcourse_any ax ay bx b_y W
  have CB := fun W => rcourse_any bx b_y cx cy W
  rw [fly_in h0 h1 h2 h3 h4 h5] at hR
  have cb1 := courseF_bd ax ay bx b_y
  have cb2 := courseF_bd bx b_y cx cy
  rw [course_ne' h0 h1 h4] at CA
  rw [course_ne' h1 h2 h5] at CB
  clear h0 h1 h2 h4 h5
  generalize (courseF ax ay bx b_y).1 = x at *
  generalize (courseF bx b_y cx cy).1 = y at *
  have DF := fun W => rdiff_any x y (by unfold I64; omega) (by unfold I64; omega) W
  have dd := diffF_bd x y
  obtain ⟨d, hd⟩ : ∃ d, d = diffF x y := ⟨_, rfl⟩
  rw [← hd] at DF dd
  have AB := fun W => rsz_any d (by omega) (by omega) W
  by_cases h6 : 54000000 < d.natAbs
  · rw [flyGo_far hd h6] at hR
    obtain ⟨⟨rfl, rfl, rfl, rfl, rfl⟩, ⟨rfl, rfl, rfl, rfl, rfl⟩, rfl⟩ := fly_zeros hR
    clear hR hd
    have h6' : 54000000 < (d.natAbs : Int) := by omega
    generalize (d.natAbs : Int) = k at *
    go_enter Try.func31, Try.ntmps31
    go_wp2_with fail
    refine (PV0 _).mono ?_
    rintro e w1 ⟨rfl, hb1⟩
    obtain ⟨f1, f2, f3, f4, f5, f6⟩ : w1.cell? ⟨w.heap.size, 0, none⟩ = some (.int .i64 ax) ∧ w1.cell? ⟨w.heap.size, 1, none⟩ = some (.int .i64 ay) ∧ w1.cell? ⟨w.heap.size + 1, 0, none⟩ = some (.int .i64 bx) ∧ w1.cell? ⟨w.heap.size + 1, 1, none⟩ = some (.int .i64 b_y) ∧ w1.cell? ⟨w.heap.size + 1 + 1, 0, none⟩ = some (.int .i64 cx) ∧ w1.cell? ⟨w.heap.size + 1 + 1, 1, none⟩ = some (.int .i64 cy) := by
      refine ⟨?_, ?_, ?_, ?_, ?_, ?_⟩ <;> (refine cell_below hb1 ?_; repeat (first | (with_reducible assumption) | ((with_reducible refine cell_set ?_ ?_ _); (· first | (simp; done) | (simp; omega) | omega)) | ((with_reducible refine cell_new ?_ ?_); (· (simp; done)); (· rfl)) | (with_reducible refine cell_alloc ?_ _) | (with_reducible refine cell_drew ?_) | (with_reducible refine cell_drewN ?_ _) | (with_reducible refine cell_below (by assumption) ?_)))
    have zf1 : w.heap.size < w1.heap.size := World.block_lt_of_cell? _ _ f1
    have zf3 : w.heap.size + 1 < w1.heap.size := World.block_lt_of_cell? _ _ f3
    have zf5 : w.heap.size + 1 + 1 < w1.heap.size := World.block_lt_of_cell? _ _ f5
    obtain ⟨⟨m7a, m7b⟩, ⟨m8a, m8b⟩, ⟨m9a, m9b⟩, ⟨m10a, m10b⟩, ⟨m11a, m11b⟩, ⟨m12a, m12b⟩, ⟨m13a, m13b⟩, ⟨m14a, m14b⟩, ⟨m15a, m15b⟩, ⟨m16a, m16b⟩⟩ : MineC5r w1 (w.heap.size + 1 + 1 + 1) 0 ∧ MineC5r w1 (w.heap.size + 1 + 1 + 1) 1 ∧ MineC5r w1 (w.heap.size + 1 + 1 + 1) 2 ∧ MineC5r w1 (w.heap.size + 1 + 1 + 1) 3 ∧ MineC5r w1 (w.heap.size + 1 + 1 + 1) 4 ∧ MineC5r w1 (w.heap.size + 1 + 1 + 1) 5 ∧ MineC5r w1 (w.heap.size + 1 + 1 + 1) 6 ∧ MineC5r w1 (w.heap.size + 1 + 1 + 1) 7 ∧ MineC5r w1 (w.heap.size + 1 + 1 + 1) 8 ∧ MineC5r w1 (w.heap.size + 1 + 1 + 1) 9 := by
      refine ⟨?_, ?_, ?_, ?_, ?_, ?_, ?_, ?_, ?_, ?_⟩ <;> (refine mine_below hb1 (mine_of (v := .int .i64 0) ?_ ?_) <;> simp [go_sem])
    have zm7 : w.heap.size + 1 + 1 + 1 < w1.heap.size := World.block_lt_of_cell? _ _ m7a
    go_wp2_with fail
    refine (PV1 _).mono ?_
    rintro e w2 ⟨rfl, hb2⟩
    obtain ⟨f17, f18, f19, f20, f21, f22⟩ : w2.cell? ⟨w.heap.size, 0, none⟩ = some (.int .i64 ax) ∧ w2.cell? ⟨w.heap.size, 1, none⟩ = some (.int .i64 ay) ∧ w2.cell? ⟨w.heap.size + 1, 0, none⟩ = some (.int .i64 bx) ∧ w2.cell? ⟨w.heap.size + 1, 1, none⟩ = some (.int .i64 b_y) ∧ w2.cell? ⟨w.heap.size + 1 + 1, 0, none⟩ = some (.int .i64 cx) ∧ w2.cell? ⟨w.heap.size + 1 + 1, 1, none⟩ = some (.int .i64 cy) := by
      refine ⟨?_, ?_, ?_, ?_, ?_, ?_⟩ <;> (refine cell_below hb2 ?_; repeat (first | (with_reducible assumption) | ((with_reducible refine cell_set ?_ ?_ _); (· first | (simp; done) | (simp; omega) | omega)) | ((with_reducible refine cell_new ?_ ?_); (· (simp; done)); (· rfl)) | (with_reducible refine cell_alloc ?_ _) | (with_reducible refine cell_drew ?_) | (with_reducible refine cell_drewN ?_ _) | (with_reducible refine cell_below (by assumption) ?_)))
    have zf17 : w.heap.size < w2.heap.size := World.block_lt_of_cell? _ _ f17
    have zf19 : w.heap.size + 1 < w2.heap.size := World.block_lt_of_cell? _ _ f19
    have zf21 : w.heap.size + 1 + 1 < w2.heap.size := World.block_lt_of_cell? _ _ f21
    obtain ⟨⟨m23a, m23b⟩, ⟨m24a, m24b⟩, ⟨m25a, m25b⟩, ⟨m26a, m26b⟩, ⟨m27a, m27b⟩, ⟨m28a, m28b⟩, ⟨m29a, m29b⟩, ⟨m30a, m30b⟩, ⟨m31a, m31b⟩, ⟨m32a, m32b⟩⟩ : MineC5r w2 (w.heap.size + 1 + 1 + 1) 0 ∧ MineC5r w2 (w.heap.size + 1 + 1 + 1) 1 ∧ MineC5r w2 (w.heap.size + 1 + 1 + 1) 2 ∧ MineC5r w2 (w.heap.size + 1 + 1 + 1) 3 ∧ MineC5r w2 (w.heap.size + 1 + 1 + 1) 4 ∧ MineC5r w2 (w.heap.size + 1 + 1 + 1) 5 ∧ MineC5r w2 (w.heap.size + 1 + 1 + 1) 6 ∧ MineC5r w2 (w.heap.size + 1 + 1 + 1) 7 ∧ MineC5r w2 (w.heap.size + 1 + 1 + 1) 8 ∧ MineC5r w2 (w.heap.size + 1 + 1 + 1) 9 := by
      refine ⟨?_, ?_, ?_, ?_, ?_, ?_, ?_, ?_, ?_, ?_⟩ <;> (refine mine_below hb2 ?_; repeat (first | (refine ⟨?_, ?_⟩ <;> (with_reducible assumption)) | (with_reducible refine mine_alloc ?_ _) | (with_reducible refine mine_set ?_ _ _) | (with_reducible refine mine_drew ?_) | (with_reducible refine mine_drewN ?_ _) | (with_reducible refine mine_below (by assumption) ?_)))
    have zm23 : w.heap.size + 1 + 1 + 1 < w2.heap.size := World.block_lt_of_cell? _ _ m23a
    clear f1 zf1 f2 f3 zf3 f4 f5 zf5 f6 m7a m7b zm7 m8a m8b m9a m9b m10a m10b m11a m11b m12a m12b m13a m13b m14a m14b m15a m15b m16a m16b
    go_wp2_with fail
    refine (PV2 _).mono ?_
    rintro e w3 ⟨rfl, hb3⟩
    obtain ⟨f33, f34, f35, f36, f37, f38⟩ : w3.cell? ⟨w.heap.size, 0, none⟩ = some (.int .i64 ax) ∧ w3.cell? ⟨w.heap.size, 1, none⟩ = some (.int .i64 ay) ∧ w3.cell? ⟨w.heap.size + 1, 0, none⟩ = some (.int .i64 bx) ∧ w3.cell? ⟨w.heap.size + 1, 1, none⟩ = some (.int .i64 b_y) ∧ w3.cell? ⟨w.heap.size + 1 + 1, 0, none⟩ = some (.int .i64 cx) ∧ w3.cell? ⟨w.heap.size + 1 + 1, 1, none⟩ = some (.int .i64 cy) := by
      refine ⟨?_, ?_, ?_, ?_, ?_, ?_⟩ <;> (refine cell_below hb3 ?_; repeat (first | (with_reducible assumption) | ((with_reducible refine cell_set ?_ ?_ _); (· first | (simp; done) | (simp; omega) | omega)) | ((with_reducible refine cell_new ?_ ?_); (· (simp; done)); (· rfl)) | (with_reducible refine cell_alloc ?_ _) | (with_reducible refine cell_drew ?_) | (with_reducible refine cell_drewN ?_ _) | (with_reducible refine cell_below (by assumption) ?_)))
    have zf33 : w.heap.size < w3.heap.size := World.block_lt_of_cell? _ _ f33
    have zf35 : w.heap.size + 1 < w3.heap.size := World.block_lt_of_cell? _ _ f35
    have zf37 : w.heap.size + 1 + 1 < w3.heap.size := World.block_lt_of_cell? _ _ f37
    obtain ⟨⟨m39a, m39b⟩, ⟨m40a, m40b⟩, ⟨m41a, m41b⟩, ⟨m42a, m42b⟩, ⟨m43a, m43b⟩, ⟨m44a, m44b⟩, ⟨m45a, m45b⟩, ⟨m46a, m46b⟩, ⟨m47a, m47b⟩, ⟨m48a, m48b⟩⟩ : MineC5r w3 (w.heap.size + 1 + 1 + 1) 0 ∧ MineC5r w3 (w.heap.size + 1 + 1 + 1) 1 ∧ MineC5r w3 (w.heap.size + 1 + 1 + 1) 2 ∧ MineC5r w3 (w.heap.size + 1 + 1 + 1) 3 ∧ MineC5r w3 (w.heap.size + 1 + 1 + 1) 4 ∧ MineC5r w3 (w.heap.size + 1 + 1 + 1) 5 ∧ MineC5r w3 (w.heap.size + 1 + 1 + 1) 6 ∧ MineC5r w3 (w.heap.size + 1 + 1 + 1) 7 ∧ MineC5r w3 (w.heap.size + 1 + 1 + 1) 8 ∧ MineC5r w3 (w.heap.size + 1 + 1 + 1) 9 := by
      refine ⟨?_, ?_, ?_, ?_, ?_, ?_, ?_, ?_, ?_, ?_⟩ <;> (refine mine_below hb3 ?_; repeat (first | (refine ⟨?_, ?_⟩ <;> (with_reducible assumption)) | (with_reducible refine mine_alloc ?_ _) | (with_reducible refine mine_set ?_ _ _) | (with_reducible refine mine_drew ?_) | (with_reducible refine mine_drewN ?_ _) | (with_reducible refine mine_below (by assumption) ?_)))
    have zm39 : w.heap.size + 1 + 1 + 1 < w3.heap.size := World.block_lt_of_cell? _ _ m39a
    clear f17 zf17 f18 f19 zf19 f20 f21 zf21 f22 m23a m23b zm23 m24a m24b m25a m25b m26a m26b m27a m27b m28a m28b m29a m29b m30a m30b m31a m31b m32a m32b
    go_wp2_with fail
    refine (CA _).mono ?_
    rintro e w4 ⟨rfl, hb4⟩
    obtain ⟨f49, f50, f51, f52, f53, f54⟩ : w4.cell? ⟨w.heap.size, 0, none⟩ = some (.int .i64 ax) ∧ w4.cell? ⟨w.heap.size, 1, none⟩ = some (.int .i64 ay) ∧ w4.cell? ⟨w.heap.size + 1, 0, none⟩ = some (.int .i64 bx) ∧ w4.cell? ⟨w.heap.size + 1, 1, none⟩ = some (.int .i64 b_y) ∧ w4.cell? ⟨w.heap.size + 1 + 1, 0, none⟩ = some (.int .i64 cx) ∧ w4.cell? ⟨w.heap.size + 1 + 1, 1, none⟩ = some (.int .i64 cy) := by
      refine ⟨?_, ?_, ?_, ?_, ?_, ?_⟩ <;> (refine cell_below hb4 ?_; repeat (first | (with_reducible assumption) | ((with_reducible refine cell_set ?_ ?_ _); (· first | (simp; done) | (simp; omega) | omega)) | ((with_reducible refine cell_new ?_ ?_); (· (simp; done)); (· rfl)) | (with_reducible refine cell_alloc ?_ _) | (with_reducible refine cell_drew ?_) | (with_reducible refine cell_drewN ?_ _) | (with_reducible refine cell_below (by assumption) ?_)))
    have zf49 : w.heap.size < w4.heap.size := World.block_lt_of_cell? _ _ f49
    have zf51 : w.heap.size + 1 < w4.heap.size := World.block_lt_of_cell? _ _ f51
    have zf53 : w.heap.size + 1 + 1 < w4.heap.size := World.block_lt_of_cell? _ _ f53
    obtain ⟨⟨m55a, m55b⟩, ⟨m56a, m56b⟩, ⟨m57a, m57b⟩, ⟨m58a, m58b⟩, ⟨m59a, m59b⟩, ⟨m60a, m60b⟩, ⟨m61a, m61b⟩, ⟨m62a, m62b⟩, ⟨m63a, m63b⟩, ⟨m64a, m64b⟩⟩ : MineC5r w4 (w.heap.size + 1 + 1 + 1) 0 ∧ MineC5r w4 (w.heap.size + 1 + 1 + 1) 1 ∧ MineC5r w4 (w.heap.size + 1 + 1 + 1) 2 ∧ MineC5r w4 (w.heap.size + 1 + 1 + 1) 3 ∧ MineC5r w4 (w.heap.size + 1 + 1 + 1) 4 ∧ MineC5r w4 (w.heap.size + 1 + 1 + 1) 5 ∧ MineC5r w4 (w.heap.size + 1 + 1 + 1) 6 ∧ MineC5r w4 (w.heap.size + 1 + 1 + 1) 7 ∧ MineC5r w4 (w.heap.size + 1 + 1 + 1) 8 ∧ MineC5r w4 (w.heap.size + 1 + 1 + 1) 9 := by
      refine ⟨?_, ?_, ?_, ?_, ?_, ?_, ?_, ?_, ?_, ?_⟩ <;> (refine mine_below hb4 ?_; repeat (first | (refine ⟨?_, ?_⟩ <;> (with_reducible assumption)) | (with_reducible refine mine_alloc ?_ _) | (with_reducible refine mine_set ?_ _ _) | (with_reducible refine mine_drew ?_) | (with_reducible refine mine_drewN ?_ _) | (with_reducible refine mine_below (by assumption) ?_)))
    have zm55 : w.heap.size + 1 + 1 + 1 < w4.heap.size := World.block_lt_of_cell? _ _ m55a
    clear f33 zf33 f34 f35 zf35 f36 f37 zf37 f38 m39a m39b zm39 m40a m40b m41a m41b m42a m42b m43a m43b m44a m44b m45a m45b m46a m46b m47a m47b m48a m48b
    go_wp2_with fail
    refine (CB _).mono ?_
    rintro e w5 ⟨rfl, hb5⟩
    obtain ⟨f65, f66, f67, f68, f69, f70⟩ : w5.cell? ⟨w.heap.size, 0, none⟩ = some (.int .i64 ax) ∧ w5.cell? ⟨w.heap.size, 1, none⟩ = some (.int .i64 ay) ∧ w5.cell? ⟨w.heap.size + 1, 0, none⟩ = some (.int .i64 bx) ∧ w5.cell? ⟨w.heap.size + 1, 1, none⟩ = some (.int .i64 b_y) ∧ w5.cell? ⟨w.heap.size + 1 + 1, 0, none⟩ = some (.int .i64 cx) ∧ w5.cell? ⟨w.heap.size + 1 + 1, 1, none⟩ = some (.int .i64 cy) := by
      refine ⟨?_, ?_, ?_, ?_, ?_, ?_⟩ <;> (refine cell_below hb5 ?_; repeat (first | (with_reducible assumption) | ((with_reducible refine cell_set ?_ ?_ _); (· first | (simp; done) | (simp; omega) | omega)) | ((with_reducible refine cell_new ?_ ?_); (· (simp; done)); (· rfl)) | (with_reducible refine cell_alloc ?_ _) | (with_reducible refine cell_drew ?_) | (with_reducible refine cell_drewN ?_ _) | (with_reducible refine cell_below (by assumption) ?_)))
    have zf65 : w.heap.size < w5.heap.size := World.block_lt_of_cell? _ _ f65
    have zf67 : w.heap.size + 1 < w5.heap.size := World.block_lt_of_cell? _ _ f67
    have zf69 : w.heap.size + 1 + 1 < w5.heap.size := World.block_lt_of_cell? _ _ f69
    obtain ⟨⟨m71a, m71b⟩, ⟨m72a, m72b⟩, ⟨m73a, m73b⟩, ⟨m74a, m74b⟩, ⟨m75a, m75b⟩, ⟨m76a, m76b⟩, ⟨m77a, m77b⟩, ⟨m78a, m78b⟩, ⟨m79a, m79b⟩, ⟨m80a, m80b⟩⟩ : MineC5r w5 (w.heap.size + 1 + 1 + 1) 0 ∧ MineC5r w5 (w.heap.size + 1 + 1 + 1) 1 ∧ MineC5r w5 (w.heap.size + 1 + 1 + 1) 2 ∧ MineC5r w5 (w.heap.size + 1 + 1 + 1) 3 ∧ MineC5r w5 (w.heap.size + 1 + 1 + 1) 4 ∧ MineC5r w5 (w.heap.size + 1 + 1 + 1) 5 ∧ MineC5r w5 (w.heap.size + 1 + 1 + 1) 6 ∧ MineC5r w5 (w.heap.size + 1 + 1 + 1) 7 ∧ MineC5r w5 (w.heap.size + 1 + 1 + 1) 8 ∧ MineC5r w5 (w.heap.size + 1 + 1 + 1) 9 := by
      refine ⟨?_, ?_, ?_, ?_, ?_, ?_, ?_, ?_, ?_, ?_⟩ <;> (refine mine_below hb5 ?_; repeat (first | (refine ⟨?_, ?_⟩ <;> (with_reducible assumption)) | (with_reducible refine mine_alloc ?_ _) | (with_reducible refine mine_set ?_ _ _) | (with_reducible refine mine_drew ?_) | (with_reducible refine mine_drewN ?_ _) | (with_reducible refine mine_below (by assumption) ?_)))
    have zm71 : w.heap.size + 1 + 1 + 1 < w5.heap.size := World.block_lt_of_cell? _ _ m71a
    clear f49 zf49 f50 f51 zf51 f52 f53 zf53 f54 m55a m55b zm55 m56a m56b m57a m57b m58a m58b m59a m59b m60a m60b m61a m61b m62a m62b m63a m63b m64a m64b
    go_wp2_with (first
      | (go_at_call 79; refine (DF _).mono ?_; rintro e w' ⟨rfl, rfl⟩)
      | (go_at_call 61; refine (AB _).mono ?_; rintro e w' ⟨rfl, rfl⟩))
    all_goals
      exact bodyPost_ret (v := .tuple #[.agg #[.int .i64 0, .int .i64 0, .int .i64 0, .int .i64 0, .int .i64 0, .int .i64 0, .int .i64 0, .int .i64 0, .int .i64 0, .int .i64 0], .int .i64 10]) (by simp [results, Try.results31, go_sem, *]) rfl ⟨rfl, by (repeat (with_reducible (first | assumption | exact Below.refl _ _ | refine Below.drew ?_ | refine below_drewN ?_ _ | refine below_set ?_ (by simp; try omega) _ | refine below_alloc ?_ (Nat.le_refl _) _ | refine below_sub (by assumption) ?_)))⟩
  obtain ⟨l, hl⟩ : ∃ l, l = leadF r d := ⟨_, rfl⟩
  obtain ⟨md, l0, l1⟩ := lead_md (by omega) (by omega) (by omega) hl
  have sb := Sin_bd ((d.natAbs : Int) / 2)
  have cb := Cos_bd ((d.natAbs : Int) / 2)
  have SN := fun W => rSin_any ((d.natAbs : Int) / 2) (by unfold I64; omega) W
  have CN := fun W => rCos_any ((d.natAbs : Int) / 2) (by unfold I64; omega) W
  have MU := fun W => rmuldivup_any r (Sin ((d.natAbs : Int) / 2)) (Cos ((d.natAbs : Int) / 2)) hr (by unfold I64; omega) (by unfold I64; omega) W
  rw [md] at MU
  have DA := fun W => rdist_any ax ay bx b_y W
  have DB := fun W => rdist_any bx b_y cx cy W
  have dm := distF_bd ax ay bx b_y
  have dn := distF_bd bx b_y cx cy
  have h6' : (d.natAbs : Int) ≤ 54000000 := by omega
  have k0 : 0 ≤ (d.natAbs : Int) := by omega
  have HW := fun h7 => flyGo_lead (bx := bx) (b_y := b_y) (x := x) (y := y) (r := r) (m := distF ax ay bx b_y) (n := distF bx b_y cx cy) hd h6 hl h7
  have HX := fun sx sy e1 ex ey e2 kx ky e3 h7 => @flyGo_rest bx b_y x y r (distF ax ay bx b_y) (distF bx b_y cx cy) d l sx sy e1 ex ey e2 kx ky e3 hd h6 hl h7
  generalize distF ax ay bx b_y = m at *
  generalize distF bx b_y cx cy = n at *
  by_cases h7 : l > m ∨ l > n
  · rw [HW h7] at hR
    obtain ⟨⟨rfl, rfl, rfl, rfl, rfl⟩, ⟨rfl, rfl, rfl, rfl, rfl⟩, rfl⟩ := fly_zeros hR
    clear HW HX hR hd hl md
    generalize Sin ((d.natAbs : Int) / 2) = S at *
    generalize Cos ((d.natAbs : Int) / 2) = C at *
    generalize (d.natAbs : Int) = k at *
    have h7' : l > m ∨ (¬ l > m ∧ l > n) := by omega
    clear h7
    rcases h7' with h7 | ⟨h7, h8⟩
    · skip
      go_enter Try.func31, Try.ntmps31
      go_wp2_with fail
      refine (PV0 _).mono ?_
      rintro e w1 ⟨rfl, hb1⟩
      obtain ⟨f1, f2, f3, f4, f5, f6⟩ : w1.cell? ⟨w.heap.size, 0, none⟩ = some (.int .i64 ax) ∧ w1.cell? ⟨w.heap.size, 1, none⟩ = some (.int .i64 ay) ∧ w1.cell? ⟨w.heap.size + 1, 0, none⟩ = some (.int .i64 bx) ∧ w1.cell? ⟨w.heap.size + 1, 1, none⟩ = some (.int .i64 b_y) ∧ w1.cell? ⟨w.heap.size + 1 + 1, 0, none⟩ = some (.int .i64 cx) ∧ w1.cell? ⟨w.heap.size + 1 + 1, 1, none⟩ = some (.int .i64 cy) := by
        refine ⟨?_, ?_, ?_, ?_, ?_, ?_⟩ <;> (refine cell_below hb1 ?_; repeat (first | (with_reducible assumption) | ((with_reducible refine cell_set ?_ ?_ _); (· first | (simp; done) | (simp; omega) | omega)) | ((with_reducible refine cell_new ?_ ?_); (· (simp; done)); (· rfl)) | (with_reducible refine cell_alloc ?_ _) | (with_reducible refine cell_drew ?_) | (with_reducible refine cell_drewN ?_ _) | (with_reducible refine cell_below (by assumption) ?_)))
      have zf1 : w.heap.size < w1.heap.size := World.block_lt_of_cell? _ _ f1
      have zf3 : w.heap.size + 1 < w1.heap.size := World.block_lt_of_cell? _ _ f3
      have zf5 : w.heap.size + 1 + 1 < w1.heap.size := World.block_lt_of_cell? _ _ f5
      obtain ⟨⟨m7a, m7b⟩, ⟨m8a, m8b⟩, ⟨m9a, m9b⟩, ⟨m10a, m10b⟩, ⟨m11a, m11b⟩, ⟨m12a, m12b⟩, ⟨m13a, m13b⟩, ⟨m14a, m14b⟩, ⟨m15a, m15b⟩, ⟨m16a, m16b⟩⟩ : MineC5r w1 (w.heap.size + 1 + 1 + 1) 0 ∧ MineC5r w1 (w.heap.size + 1 + 1 + 1) 1 ∧ MineC5r w1 (w.heap.size + 1 + 1 + 1) 2 ∧ MineC5r w1 (w.heap.size + 1 + 1 + 1) 3 ∧ MineC5r w1 (w.heap.size + 1 + 1 + 1) 4 ∧ MineC5r w1 (w.heap.size + 1 + 1 + 1) 5 ∧ MineC5r w1 (w.heap.size + 1 + 1 + 1) 6 ∧ MineC5r w1 (w.heap.size + 1 + 1 + 1) 7 ∧ MineC5r w1 (w.heap.size + 1 + 1 + 1) 8 ∧ MineC5r w1 (w.heap.size + 1 + 1 + 1) 9 := by
        refine ⟨?_, ?_, ?_, ?_, ?_, ?_, ?_, ?_, ?_, ?_⟩ <;> (refine mine_below hb1 (mine_of (v := .int .i64 0) ?_ ?_) <;> simp [go_sem])
      have zm7 : w.heap.size + 1 + 1 + 1 < w1.heap.size := World.block_lt_of_cell? _ _ m7a
      go_wp2_with fail
      refine (PV1 _).mono ?_
      rintro e w2 ⟨rfl, hb2⟩
      obtain ⟨f17, f18, f19, f20, f21, f22⟩ : w2.cell? ⟨w.heap.size, 0, none⟩ = some (.int .i64 ax) ∧ w2.cell? ⟨w.heap.size, 1, none⟩ = some (.int .i64 ay) ∧ w2.cell? ⟨w.heap.size + 1, 0, none⟩ = some (.int .i64 bx) ∧ w2.cell? ⟨w.heap.size + 1, 1, none⟩ = some (.int .i64 b_y) ∧ w2.cell? ⟨w.heap.size + 1 + 1, 0, none⟩ = some (.int .i64 cx) ∧ w2.cell? ⟨w.heap.size + 1 + 1, 1, none⟩ = some (.int .i64 cy) := by
        refine ⟨?_, ?_, ?_, ?_, ?_, ?_⟩ <;> (refine cell_below hb2 ?_; repeat (first | (with_reducible assumption) | ((with_reducible refine cell_set ?_ ?_ _); (· first | (simp; done) | (simp; omega) | omega)) | ((with_reducible refine cell_new ?_ ?_); (· (simp; done)); (· rfl)) | (with_reducible refine cell_alloc ?_ _) | (with_reducible refine cell_drew ?_) | (with_reducible refine cell_drewN ?_ _) | (with_reducible refine cell_below (by assumption) ?_)))
      have zf17 : w.heap.size < w2.heap.size := World.block_lt_of_cell? _ _ f17
      have zf19 : w.heap.size + 1 < w2.heap.size := World.block_lt_of_cell? _ _ f19
      have zf21 : w.heap.size + 1 + 1 < w2.heap.size := World.block_lt_of_cell? _ _ f21
      obtain ⟨⟨m23a, m23b⟩, ⟨m24a, m24b⟩, ⟨m25a, m25b⟩, ⟨m26a, m26b⟩, ⟨m27a, m27b⟩, ⟨m28a, m28b⟩, ⟨m29a, m29b⟩, ⟨m30a, m30b⟩, ⟨m31a, m31b⟩, ⟨m32a, m32b⟩⟩ : MineC5r w2 (w.heap.size + 1 + 1 + 1) 0 ∧ MineC5r w2 (w.heap.size + 1 + 1 + 1) 1 ∧ MineC5r w2 (w.heap.size + 1 + 1 + 1) 2 ∧ MineC5r w2 (w.heap.size + 1 + 1 + 1) 3 ∧ MineC5r w2 (w.heap.size + 1 + 1 + 1) 4 ∧ MineC5r w2 (w.heap.size + 1 + 1 + 1) 5 ∧ MineC5r w2 (w.heap.size + 1 + 1 + 1) 6 ∧ MineC5r w2 (w.heap.size + 1 + 1 + 1) 7 ∧ MineC5r w2 (w.heap.size + 1 + 1 + 1) 8 ∧ MineC5r w2 (w.heap.size + 1 + 1 + 1) 9 := by
        refine ⟨?_, ?_, ?_, ?_, ?_, ?_, ?_, ?_, ?_, ?_⟩ <;> (refine mine_below hb2 ?_; repeat (first | (refine ⟨?_, ?_⟩ <;> (with_reducible assumption)) | (with_reducible refine mine_alloc ?_ _) | (with_reducible refine mine_set ?_ _ _) | (with_reducible refine mine_drew ?_) | (with_reducible refine mine_drewN ?_ _) | (with_reducible refine mine_below (by assumption) ?_)))
      have zm23 : w.heap.size + 1 + 1 + 1 < w2.heap.size := World.block_lt_of_cell? _ _ m23a
      clear f1 zf1 f2 f3 zf3 f4 f5 zf5 f6 m7a m7b zm7 m8a m8b m9a m9b m10a m10b m11a m11b m12a m12b m13a m13b m14a m14b m15a m15b m16a m16b
      go_wp2_with fail
      refine (PV2 _).mono ?_
      rintro e w3 ⟨rfl, hb3⟩
      obtain ⟨f33, f34, f35, f36, f37, f38⟩ : w3.cell? ⟨w.heap.size, 0, none⟩ = some (.int .i64 ax) ∧ w3.cell? ⟨w.heap.size, 1, none⟩ = some (.int .i64 ay) ∧ w3.cell? ⟨w.heap.size + 1, 0, none⟩ = some (.int .i64 bx) ∧ w3.cell? ⟨w.heap.size + 1, 1, none⟩ = some (.int .i64 b_y) ∧ w3.cell? ⟨w.heap.size + 1 + 1, 0, none⟩ = some (.int .i64 cx) ∧ w3.cell? ⟨w.heap.size + 1 + 1, 1, none⟩ = some (.int .i64 cy) := by
        refine ⟨?_, ?_, ?_, ?_, ?_, ?_⟩ <;> (refine cell_below hb3 ?_; repeat (first | (with_reducible assumption) | ((with_reducible refine cell_set ?_ ?_ _); (· first | (simp; done) | (simp; omega) | omega)) | ((with_reducible refine cell_new ?_ ?_); (· (simp; done)); (· rfl)) | (with_reducible refine cell_alloc ?_ _) | (with_reducible refine cell_drew ?_) | (with_reducible refine cell_drewN ?_ _) | (with_reducible refine cell_below (by assumption) ?_)))
      have zf33 : w.heap.size < w3.heap.size := World.block_lt_of_cell? _ _ f33
      have zf35 : w.heap.size + 1 < w3.heap.size := World.block_lt_of_cell? _ _ f35
      have zf37 : w.heap.size + 1 + 1 < w3.heap.size := World.block_lt_of_cell? _ _ f37
      obtain ⟨⟨m39a, m39b⟩, ⟨m40a, m40b⟩, ⟨m41a, m41b⟩, ⟨m42a, m42b⟩, ⟨m43a, m43b⟩, ⟨m44a, m44b⟩, ⟨m45a, m45b⟩, ⟨m46a, m46b⟩, ⟨m47a, m47b⟩, ⟨m48a, m48b⟩⟩ : MineC5r w3 (w.heap.size + 1 + 1 + 1) 0 ∧ MineC5r w3 (w.heap.size + 1 + 1 + 1) 1 ∧ MineC5r w3 (w.heap.size + 1 + 1 + 1) 2 ∧ MineC5r w3 (w.heap.size + 1 + 1 + 1) 3 ∧ MineC5r w3 (w.heap.size + 1 + 1 + 1) 4 ∧ MineC5r w3 (w.heap.size + 1 + 1 + 1) 5 ∧ MineC5r w3 (w.heap.size + 1 + 1 + 1) 6 ∧ MineC5r w3 (w.heap.size + 1 + 1 + 1) 7 ∧ MineC5r w3 (w.heap.size + 1 + 1 + 1) 8 ∧ MineC5r w3 (w.heap.size + 1 + 1 + 1) 9 := by
        refine ⟨?_, ?_, ?_, ?_, ?_, ?_, ?_, ?_, ?_, ?_⟩ <;> (refine mine_below hb3 ?_; repeat (first | (refine ⟨?_, ?_⟩ <;> (with_reducible assumption)) | (with_reducible refine mine_alloc ?_ _) | (with_reducible refine mine_set ?_ _ _) | (with_reducible refine mine_drew ?_) | (with_reducible refine mine_drewN ?_ _) | (with_reducible refine mine_below (by assumption) ?_)))
      have zm39 : w.heap.size + 1 + 1 + 1 < w3.heap.size := World.block_lt_of_cell? _ _ m39a
      clear f17 zf17 f18 f19 zf19 f20 f21 zf21 f22 m23a m23b zm23 m24a m24b m25a m25b m26a m26b m27a m27b m28a m28b m29a m29b m30a m30b m31a m31b m32a m32b
      go_wp2_with fail
      refine (CA _).mono ?_
      rintro e w4 ⟨rfl, hb4⟩
      obtain ⟨f49, f50, f51, f52, f53, f54⟩ : w4.cell? ⟨w.heap.size, 0, none⟩ = some (.int .i64 ax) ∧ w4.cell? ⟨w.heap.size, 1, none⟩ = some (.int .i64 ay) ∧ w4.cell? ⟨w.heap.size + 1, 0, none⟩ = some (.int .i64 bx) ∧ w4.cell? ⟨w.heap.size + 1, 1, none⟩ = some (.int .i64 b_y) ∧ w4.cell? ⟨w.heap.size + 1 + 1, 0, none⟩ = some (.int .i64 cx) ∧ w4.cell? ⟨w.heap.size + 1 + 1, 1, none⟩ = some (.int .i64 cy) := by
        refine ⟨?_, ?_, ?_, ?_, ?_, ?_⟩ <;> (refine cell_below hb4 ?_; repeat (first | (with_reducible assumption) | ((with_reducible refine cell_set ?_ ?_ _); (· first | (simp; done) | (simp; omega) | omega)) | ((with_reducible refine cell_new ?_ ?_); (· (simp; done)); (· rfl)) | (with_reducible refine cell_alloc ?_ _) | (with_reducible refine cell_drew ?_) | (with_reducible refine cell_drewN ?_ _) | (with_reducible refine cell_below (by assumption) ?_)))
      have zf49 : w.heap.size < w4.heap.size := World.block_lt_of_cell? _ _ f49
      have zf51 : w.heap.size + 1 < w4.heap.size := World.block_lt_of_cell? _ _ f51
      have zf53 : w.heap.size + 1 + 1 < w4.heap.size := World.block_lt_of_cell? _ _ f53
      obtain ⟨⟨m55a, m55b⟩, ⟨m56a, m56b⟩, ⟨m57a, m57b⟩, ⟨m58a, m58b⟩, ⟨m59a, m59b⟩, ⟨m60a, m60b⟩, ⟨m61a, m61b⟩, ⟨m62a, m62b⟩, ⟨m63a, m63b⟩, ⟨m64a, m64b⟩⟩ : MineC5r w4 (w.heap.size + 1 + 1 + 1) 0 ∧ MineC5r w4 (w.heap.size + 1 + 1 + 1) 1 ∧ MineC5r w4 (w.heap.size + 1 + 1 + 1) 2 ∧ MineC5r w4 (w.heap.size + 1 + 1 + 1) 3 ∧ MineC5r w4 (w.heap.size + 1 + 1 + 1) 4 ∧ MineC5r w4 (w.heap.size + 1 + 1 + 1) 5 ∧ MineC5r w4 (w.heap.size + 1 + 1 + 1) 6 ∧ MineC5r w4 (w.heap.size + 1 + 1 + 1) 7 ∧ MineC5r w4 (w.heap.size + 1 + 1 + 1) 8 ∧ MineC5r w4 (w.heap.size + 1 + 1 + 1) 9 := by
        refine ⟨?_, ?_, ?_, ?_, ?_, ?_, ?_, ?_, ?_, ?_⟩ <;> (refine mine_below hb4 ?_; repeat (first | (refine ⟨?_, ?_⟩ <;> (with_reducible assumption)) | (with_reducible refine mine_alloc ?_ _) | (with_reducible refine mine_set ?_ _ _) | (with_reducible refine mine_drew ?_) | (with_reducible refine mine_drewN ?_ _) | (with_reducible refine mine_below (by assumption) ?_)))
      have zm55 : w.heap.size + 1 + 1 + 1 < w4.heap.size := World.block_lt_of_cell? _ _ m55a
      clear f33 zf33 f34 f35 zf35 f36 f37 zf37 f38 m39a m39b zm39 m40a m40b m41a m41b m42a m42b m43a m43b m44a m44b m45a m45b m46a m46b m47a m47b m48a m48b
      go_wp2_with fail
      refine (CB _).mono ?_
      rintro e w5 ⟨rfl, hb5⟩
      obtain ⟨f65, f66, f67, f68, f69, f70⟩ : w5.cell? ⟨w.heap.size, 0, none⟩ = some (.int .i64 ax) ∧ w5.cell? ⟨w.heap.size, 1, none⟩ = some (.int .i64 ay) ∧ w5.cell? ⟨w.heap.size + 1, 0, none⟩ = some (.int .i64 bx) ∧ w5.cell? ⟨w.heap.size + 1, 1, none⟩ = some (.int .i64 b_y) ∧ w5.cell? ⟨w.heap.size + 1 + 1, 0, none⟩ = some (.int .i64 cx) ∧ w5.cell? ⟨w.heap.size + 1 + 1, 1, none⟩ = some (.int .i64 cy) := by
        refine ⟨?_, ?_, ?_, ?_, ?_, ?_⟩ <;> (refine cell_below hb5 ?_; repeat (first | (with_reducible assumption) | ((with_reducible refine cell_set ?_ ?_ _); (· first | (simp; done) | (simp; omega) | omega)) | ((with_reducible refine cell_new ?_ ?_); (· (simp; done)); (· rfl)) | (with_reducible refine cell_alloc ?_ _) | (with_reducible refine cell_drew ?_) | (with_reducible refine cell_drewN ?_ _) | (with_reducible refine cell_below (by assumption) ?_)))
      have zf65 : w.heap.size < w5.heap.size := World.block_lt_of_cell? _ _ f65
      have zf67 : w.heap.size + 1 < w5.heap.size := World.block_lt_of_cell? _ _ f67
      have zf69 : w.heap.size + 1 + 1 < w5.heap.size := World.block_lt_of_cell? _ _ f69
      obtain ⟨⟨m71a, m71b⟩, ⟨m72a, m72b⟩, ⟨m73a, m73b⟩, ⟨m74a, m74b⟩, ⟨m75a, m75b⟩, ⟨m76a, m76b⟩, ⟨m77a, m77b⟩, ⟨m78a, m78b⟩, ⟨m79a, m79b⟩, ⟨m80a, m80b⟩⟩ : MineC5r w5 (w.heap.size + 1 + 1 + 1) 0 ∧ MineC5r w5 (w.heap.size + 1 + 1 + 1) 1 ∧ MineC5r w5 (w.heap.size + 1 + 1 + 1) 2 ∧ MineC5r w5 (w.heap.size + 1 + 1 + 1) 3 ∧ MineC5r w5 (w.heap.size + 1 + 1 + 1) 4 ∧ MineC5r w5 (w.heap.size + 1 + 1 + 1) 5 ∧ MineC5r w5 (w.heap.size + 1 + 1 + 1) 6 ∧ MineC5r w5 (w.heap.size + 1 + 1 + 1) 7 ∧ MineC5r w5 (w.heap.size + 1 + 1 + 1) 8 ∧ MineC5r w5 (w.heap.size + 1 + 1 + 1) 9 := by
        refine ⟨?_, ?_, ?_, ?_, ?_, ?_, ?_, ?_, ?_, ?_⟩ <;> (refine mine_below hb5 ?_; repeat (first | (refine ⟨?_, ?_⟩ <;> (with_reducible assumption)) | (with_reducible refine mine_alloc ?_ _) | (with_reducible refine mine_set ?_ _ _) | (with_reducible refine mine_drew ?_) | (with_reducible refine mine_drewN ?_ _) | (with_reducible refine mine_below (by assumption) ?_)))
      have zm71 : w.heap.size + 1 + 1 + 1 < w5.heap.size := World.block_lt_of_cell? _ _ m71a
      clear f49 zf49 f50 f51 zf51 f52 f53 zf53 f54 m55a m55b zm55 m56a m56b m57a m57b m58a m58b m59a m59b m60a m60b m61a m61b m62a m62b m63a m63b m64a m64b
      go_wp2_with (first
        | (go_at_call 79; refine (DF _).mono ?_; rintro e w' ⟨rfl, rfl⟩)
        | (go_at_call 61; refine (AB _).mono ?_; rintro e w' ⟨rfl, rfl⟩)
        | (go_at_call 81; refine (SN _).mono ?_; rintro e w' ⟨rfl, rfl⟩)
        | (go_at_call 82; refine (CN _).mono ?_; rintro e w' ⟨rfl, rfl⟩)
        | (go_at_call 80; refine (MU _).mono ?_; rintro e w' ⟨rfl, n1, rfl⟩))
      go_wp2_with fail
      refine (DA _).mono ?_
      rintro e w6 ⟨rfl, hb6⟩
      obtain ⟨f81, f82, f83, f84, f85, f86⟩ : w6.cell? ⟨w.heap.size, 0, none⟩ = some (.int .i64 ax) ∧ w6.cell? ⟨w.heap.size, 1, none⟩ = some (.int .i64 ay) ∧ w6.cell? ⟨w.heap.size + 1, 0, none⟩ = some (.int .i64 bx) ∧ w6.cell? ⟨w.heap.size + 1, 1, none⟩ = some (.int .i64 b_y) ∧ w6.cell? ⟨w.heap.size + 1 + 1, 0, none⟩ = some (.int .i64 cx) ∧ w6.cell? ⟨w.heap.size + 1 + 1, 1, none⟩ = some (.int .i64 cy) := by
        refine ⟨?_, ?_, ?_, ?_, ?_, ?_⟩ <;> (refine cell_below hb6 ?_; repeat (first | (with_reducible assumption) | ((with_reducible refine cell_set ?_ ?_ _); (· first | (simp; done) | (simp; omega) | omega)) | ((with_reducible refine cell_new ?_ ?_); (· (simp; done)); (· rfl)) | (with_reducible refine cell_alloc ?_ _) | (with_reducible refine cell_drew ?_) | (with_reducible refine cell_drewN ?_ _) | (with_reducible refine cell_below (by assumption) ?_)))
      have zf81 : w.heap.size < w6.heap.size := World.block_lt_of_cell? _ _ f81
      have zf83 : w.heap.size + 1 < w6.heap.size := World.block_lt_of_cell? _ _ f83
      have zf85 : w.heap.size + 1 + 1 < w6.heap.size := World.block_lt_of_cell? _ _ f85
      obtain ⟨⟨m87a, m87b⟩, ⟨m88a, m88b⟩, ⟨m89a, m89b⟩, ⟨m90a, m90b⟩, ⟨m91a, m91b⟩, ⟨m92a, m92b⟩, ⟨m93a, m93b⟩, ⟨m94a, m94b⟩, ⟨m95a, m95b⟩, ⟨m96a, m96b⟩⟩ : MineC5r w6 (w.heap.size + 1 + 1 + 1) 0 ∧ MineC5r w6 (w.heap.size + 1 + 1 + 1) 1 ∧ MineC5r w6 (w.heap.size + 1 + 1 + 1) 2 ∧ MineC5r w6 (w.heap.size + 1 + 1 + 1) 3 ∧ MineC5r w6 (w.heap.size + 1 + 1 + 1) 4 ∧ MineC5r w6 (w.heap.size + 1 + 1 + 1) 5 ∧ MineC5r w6 (w.heap.size + 1 + 1 + 1) 6 ∧ MineC5r w6 (w.heap.size + 1 + 1 + 1) 7 ∧ MineC5r w6 (w.heap.size + 1 + 1 + 1) 8 ∧ MineC5r w6 (w.heap.size + 1 + 1 + 1) 9 := by
        refine ⟨?_, ?_, ?_, ?_, ?_, ?_, ?_, ?_, ?_, ?_⟩ <;> (refine mine_below hb6 ?_; repeat (first | (refine ⟨?_, ?_⟩ <;> (with_reducible assumption)) | (with_reducible refine mine_alloc ?_ _) | (with_reducible refine mine_set ?_ _ _) | (with_reducible refine mine_drew ?_) | (with_reducible refine mine_drewN ?_ _) | (with_reducible refine mine_below (by assumption) ?_)))
      have zm87 : w.heap.size + 1 + 1 + 1 < w6.heap.size := World.block_lt_of_cell? _ _ m87a
      clear f65 zf65 f66 f67 zf67 f68 f69 zf69 f70 m71a m71b zm71 m72a m72b m73a m73b m74a m74b m75a m75b m76a m76b m77a m77b m78a m78b m79a m79b m80a m80b
      go_wp2_with fail
      all_goals
        exact bodyPost_ret (v := .tuple #[.agg #[.int .i64 0, .int .i64 0, .int .i64 0, .int .i64 0, .int .i64 0, .int .i64 0, .int .i64 0, .int .i64 0, .int .i64 0, .int .i64 0], .int .i64 10]) (by simp [results, Try.results31, go_sem, *]) rfl ⟨rfl, by (repeat (with_reducible (first | assumption | exact Below.refl _ _ | refine Below.drew ?_ | refine below_drewN ?_ _ | refine below_set ?_ (by simp; try omega) _ | refine below_alloc ?_ (Nat.le_refl _) _ | refine below_sub (by assumption) ?_)))⟩
    · skip
      go_enter Try.func31, Try.ntmps31
      go_wp2_with fail
      refine (PV0 _).mono ?_
      rintro e w1 ⟨rfl, hb1⟩
      obtain ⟨f1, f2, f3, f4, f5, f6⟩ : w1.cell? ⟨w.heap.size, 0, none⟩ = some (.int .i64 ax) ∧ w1.cell? ⟨w.heap.size, 1, none⟩ = some (.int .i64 ay) ∧ w1.cell? ⟨w.heap.size + 1, 0, none⟩ = some (.int .i64 bx) ∧ w1.cell? ⟨w.heap.size + 1, 1, none⟩ = some (.int .i64 b_y) ∧ w1.cell? ⟨w.heap.size + 1 + 1, 0, none⟩ = some (.int .i64 cx) ∧ w1.cell? ⟨w.heap.size + 1 + 1, 1, none⟩ = some (.int .i64 cy) := by
        refine ⟨?_, ?_, ?_, ?_, ?_, ?_⟩ <;> (refine cell_below hb1 ?_; repeat (first | (with_reducible assumption) | ((with_reducible refine cell_set ?_ ?_ _); (· first | (simp; done) | (simp; omega) | omega)) | ((with_reducible refine cell_new ?_ ?_); (· (simp; done)); (· rfl)) | (with_reducible refine cell_alloc ?_ _) | (with_reducible refine cell_drew ?_) | (with_reducible refine cell_drewN ?_ _) | (with_reducible refine cell_below (by assumption) ?_)))
      have zf1 : w.heap.size < w1.heap.size := World.block_lt_of_cell? _ _ f1
      have zf3 : w.heap.size + 1 < w1.heap.size := World.block_lt_of_cell? _ _ f3
      have zf5 : w.heap.size + 1 + 1 < w1.heap.size := World.block_lt_of_cell? _ _ f5
      obtain ⟨⟨m7a, m7b⟩, ⟨m8a, m8b⟩, ⟨m9a, m9b⟩, ⟨m10a, m10b⟩, ⟨m11a, m11b⟩, ⟨m12a, m12b⟩, ⟨m13a, m13b⟩, ⟨m14a, m14b⟩, ⟨m15a, m15b⟩, ⟨m16a, m16b⟩⟩ : MineC5r w1 (w.heap.size + 1 + 1 + 1) 0 ∧ MineC5r w1 (w.heap.size + 1 + 1 + 1) 1 ∧ MineC5r w1 (w.heap.size + 1 + 1 + 1) 2 ∧ MineC5r w1 (w.heap.size + 1 + 1 + 1) 3 ∧ MineC5r w1 (w.heap.size + 1 + 1 + 1) 4 ∧ MineC5r w1 (w.heap.size + 1 + 1 + 1) 5 ∧ MineC5r w1 (w.heap.size + 1 + 1 + 1) 6 ∧ MineC5r w1 (w.heap.size + 1 + 1 + 1) 7 ∧ MineC5r w1 (w.heap.size + 1 + 1 + 1) 8 ∧ MineC5r w1 (w.heap.size + 1 + 1 + 1) 9 := by
        refine ⟨?_, ?_, ?_, ?_, ?_, ?_, ?_, ?_, ?_, ?_⟩ <;> (refine mine_below hb1 (mine_of (v := .int .i64 0) ?_ ?_) <;> simp [go_sem])
      have zm7 : w.heap.size + 1 + 1 + 1 < w1.heap.size := World.block_lt_of_cell? _ _ m7a
      go_wp2_with fail
      refine (PV1 _).mono ?_
      rintro e w2 ⟨rfl, hb2⟩
      obtain ⟨f17, f18, f19, f20, f21, f22⟩ : w2.cell? ⟨w.heap.size, 0, none⟩ = some (.int .i64 ax) ∧ w2.cell? ⟨w.heap.size, 1, none⟩ = some (.int .i64 ay) ∧ w2.cell? ⟨w.heap.size + 1, 0, none⟩ = some (.int .i64 bx) ∧ w2.cell? ⟨w.heap.size + 1, 1, none⟩ = some (.int .i64 b_y) ∧ w2.cell? ⟨w.heap.size + 1 + 1, 0, none⟩ = some (.int .i64 cx) ∧ w2.cell? ⟨w.heap.size + 1 + 1, 1, none⟩ = some (.int .i64 cy) := by
        refine ⟨?_, ?_, ?_, ?_, ?_, ?_⟩ <;> (refine cell_below hb2 ?_; repeat (first | (with_reducible assumption) | ((with_reducible refine cell_set ?_ ?_ _); (· first | (simp; done) | (simp; omega) | omega)) | ((with_reducible refine cell_new ?_ ?_); (· (simp; done)); (· rfl)) | (with_reducible refine cell_alloc ?_ _) | (with_reducible refine cell_drew ?_) | (with_reducible refine cell_drewN ?_ _) | (with_reducible refine cell_below (by assumption) ?_)))
      have zf17 : w.heap.size < w2.heap.size := World.block_lt_of_cell? _ _ f17
      have zf19 : w.heap.size + 1 < w2.heap.size := World.block_lt_of_cell? _ _ f19
      have zf21 : w.heap.size + 1 + 1 < w2.heap.size := World.block_lt_of_cell? _ _ f21
      obtain ⟨⟨m23a, m23b⟩, ⟨m24a, m24b⟩, ⟨m25a, m25b⟩, ⟨m26a, m26b⟩, ⟨m27a, m27b⟩, ⟨m28a, m28b⟩, ⟨m29a, m29b⟩, ⟨m30a, m30b⟩, ⟨m31a, m31b⟩, ⟨m32a, m32b⟩⟩ : MineC5r w2 (w.heap.size + 1 + 1 + 1) 0 ∧ MineC5r w2 (w.heap.size + 1 + 1 + 1) 1 ∧ MineC5r w2 (w.heap.size + 1 + 1 + 1) 2 ∧ MineC5r w2 (w.heap.size + 1 + 1 + 1) 3 ∧ MineC5r w2 (w.heap.size + 1 + 1 + 1) 4 ∧ MineC5r w2 (w.heap.size + 1 + 1 + 1) 5 ∧ MineC5r w2 (w.heap.size + 1 + 1 + 1) 6 ∧ MineC5r w2 (w.heap.size + 1 + 1 + 1) 7 ∧ MineC5r w2 (w.heap.size + 1 + 1 + 1) 8 ∧ MineC5r w2 (w.heap.size + 1 + 1 + 1) 9 := by
        refine ⟨?_, ?_, ?_, ?_, ?_, ?_, ?_, ?_, ?_, ?_⟩ <;> (refine mine_below hb2 ?_; repeat (first | (refine ⟨?_, ?_⟩ <;> (with_reducible assumption)) | (with_reducible refine mine_alloc ?_ _) | (with_reducible refine mine_set ?_ _ _) | (with_reducible refine mine_drew ?_) | (with_reducible refine mine_drewN ?_ _) | (with_reducible refine mine_below (by assumption) ?_)))
      have zm23 : w.heap.size + 1 + 1 + 1 < w2.heap.size := World.block_lt_of_cell? _ _ m23a
      clear f1 zf1 f2 f3 zf3 f4 f5 zf5 f6 m7a m7b zm7 m8a m8b m9a m9b m10a m10b m11a m11b m12a m12b m13a m13b m14a m14b m15a m15b m16a m16b
      go_wp2_with fail
      refine (PV2 _).mono ?_
      rintro e w3 ⟨rfl, hb3⟩
      obtain ⟨f33, f34, f35, f36, f37, f38⟩ : w3.cell? ⟨w.heap.size, 0, none⟩ = some (.int .i64 ax) ∧ w3.cell? ⟨w.heap.size, 1, none⟩ = some (.int .i64 ay) ∧ w3.cell? ⟨w.heap.size + 1, 0, none⟩ = some (.int .i64 bx) ∧ w3.cell? ⟨w.heap.size + 1, 1, none⟩ = some (.int .i64 b_y) ∧ w3.cell? ⟨w.heap.size + 1 + 1, 0, none⟩ = some (.int .i64 cx) ∧ w3.cell? ⟨w.heap.size + 1 + 1, 1, none⟩ = some (.int .i64 cy) := by
        refine ⟨?_, ?_, ?_, ?_, ?_, ?_⟩ <;> (refine cell_below hb3 ?_; repeat (first | (with_reducible assumption) | ((with_reducible refine cell_set ?_ ?_ _); (· first | (simp; done) | (simp; omega) | omega)) | ((with_reducible refine cell_new ?_ ?_); (· (simp; done)); (· rfl)) | (with_reducible refine cell_alloc ?_ _) | (with_reducible refine cell_drew ?_) | (with_reducible refine cell_drewN ?_ _) | (with_reducible refine cell_below (by assumption) ?_)))
      have zf33 : w.heap.size < w3.heap.size := World.block_lt_of_cell? _ _ f33
      have zf35 : w.heap.size + 1 < w3.heap.size := World.block_lt_of_cell? _ _ f35
      have zf37 : w.heap.size + 1 + 1 < w3.heap.size := World.block_lt_of_cell? _ _ f37
      obtain ⟨⟨m39a, m39b⟩, ⟨m40a, m40b⟩, ⟨m41a, m41b⟩, ⟨m42a, m42b⟩, ⟨m43a, m43b⟩, ⟨m44a, m44b⟩, ⟨m45a, m45b⟩, ⟨m46a, m46b⟩, ⟨m47a, m47b⟩, ⟨m48a, m48b⟩⟩ : MineC5r w3 (w.heap.size + 1 + 1 + 1) 0 ∧ MineC5r w3 (w.heap.size + 1 + 1 + 1) 1 ∧ MineC5r w3 (w.heap.size + 1 + 1 + 1) 2 ∧ MineC5r w3 (w.heap.size + 1 + 1 + 1) 3 ∧ MineC5r w3 (w.heap.size + 1 + 1 + 1) 4 ∧ MineC5r w3 (w.heap.size + 1 + 1 + 1) 5 ∧ MineC5r w3 (w.heap.size + 1 + 1 + 1) 6 ∧ MineC5r w3 (w.heap.size + 1 + 1 + 1) 7 ∧ MineC5r w3 (w.heap.size + 1 + 1 + 1) 8 ∧ MineC5r w3 (w.heap.size + 1 + 1 + 1) 9 := by
        refine ⟨?_, ?_, ?_, ?_, ?_, ?_, ?_, ?_, ?_, ?_⟩ <;> (refine mine_below hb3 ?_; repeat (first | (refine ⟨?_, ?_⟩ <;> (with_reducible assumption)) | (with_reducible refine mine_alloc ?_ _) | (with_reducible refine mine_set ?_ _ _) | (with_reducible refine mine_drew ?_) | (with_reducible refine mine_drewN ?_ _) | (with_reducible refine mine_below (by assumption) ?_)))
      have zm39 : w.heap.size + 1 + 1 + 1 < w3.heap.size := World.block_lt_of_cell? _ _ m39a
      clear f17 zf17 f18 f19 zf19 f20 f21 zf21 f22 m23a m23b zm23 m24a m24b m25a m25b m26a m26b m27a m27b m28a m28b m29a m29b m30a m30b m31a m31b m32a m32b
      go_wp2_with fail
      refine (CA _).mono ?_
      rintro e w4 ⟨rfl, hb4⟩
      obtain ⟨f49, f50, f51, f52, f53, f54⟩ : w4.cell? ⟨w.heap.size, 0, none⟩ = some (.int .i64 ax) ∧ w4.cell? ⟨w.heap.size, 1, none⟩ = some (.int .i64 ay) ∧ w4.cell? ⟨w.heap.size + 1, 0, none⟩ = some (.int .i64 bx) ∧ w4.cell? ⟨w.heap.size + 1, 1, none⟩ = some (.int .i64 b_y) ∧ w4.cell? ⟨w.heap.size + 1 + 1, 0, none⟩ = some (.int .i64 cx) ∧ w4.cell? ⟨w.heap.size + 1 + 1, 1, none⟩ = some (.int .i64 cy) := by
        refine ⟨?_, ?_, ?_, ?_, ?_, ?_⟩ <;> (refine cell_below hb4 ?_; repeat (first | (with_reducible assumption) | ((with_reducible refine cell_set ?_ ?_ _); (· first | (simp; done) | (simp; omega) | omega)) | ((with_reducible refine cell_new ?_ ?_); (· (simp; done)); (· rfl)) | (with_reducible refine cell_alloc ?_ _) | (with_reducible refine cell_drew ?_) | (with_reducible refine cell_drewN ?_ _) | (with_reducible refine cell_below (by assumption) ?_)))
      have zf49 : w.heap.size < w4.heap.size := World.block_lt_of_cell? _ _ f49
      have zf51 : w.heap.size + 1 < w4.heap.size := World.block_lt_of_cell? _ _ f51
      have zf53 : w.heap.size + 1 + 1 < w4.heap.size := World.block_lt_of_cell? _ _ f53
      obtain ⟨⟨m55a, m55b⟩, ⟨m56a, m56b⟩, ⟨m57a, m57b⟩, ⟨m58a, m58b⟩, ⟨m59a, m59b⟩, ⟨m60a, m60b⟩, ⟨m61a, m61b⟩, ⟨m62a, m62b⟩, ⟨m63a, m63b⟩, ⟨m64a, m64b⟩⟩ : MineC5r w4 (w.heap.size + 1 + 1 + 1) 0 ∧ MineC5r w4 (w.heap.size + 1 + 1 + 1) 1 ∧ MineC5r w4 (w.heap.size + 1 + 1 + 1) 2 ∧ MineC5r w4 (w.heap.size + 1 + 1 + 1) 3 ∧ MineC5r w4 (w.heap.size + 1 + 1 + 1) 4 ∧ MineC5r w4 (w.heap.size + 1 + 1 + 1) 5 ∧ MineC5r w4 (w.heap.size + 1 + 1 + 1) 6 ∧ MineC5r w4 (w.heap.size + 1 + 1 + 1) 7 ∧ MineC5r w4 (w.heap.size + 1 + 1 + 1) 8 ∧ MineC5r w4 (w.heap.size + 1 + 1 + 1) 9 := by
        refine ⟨?_, ?_, ?_, ?_, ?_, ?_, ?_, ?_, ?_, ?_⟩ <;> (refine mine_below hb4 ?_; repeat (first | (refine ⟨?_, ?_⟩ <;> (with_reducible assumption)) | (with_reducible refine mine_alloc ?_ _) | (with_reducible refine mine_set ?_ _ _) | (with_reducible refine mine_drew ?_) | (with_reducible refine mine_drewN ?_ _) | (with_reducible refine mine_below (by assumption) ?_)))
      have zm55 : w.heap.size + 1 + 1 + 1 < w4.heap.size := World.block_lt_of_cell? _ _ m55a
      clear f33 zf33 f34 f35 zf35 f36 f37 zf37 f38 m39a m39b zm39 m40a m40b m41a m41b m42a m42b m43a m43b m44a m44b m45a m45b m46a m46b m47a m47b m48a m48b
      go_wp2_with fail
      refine (CB _).mono ?_
      rintro e w5 ⟨rfl, hb5⟩
      obtain ⟨f65, f66, f67, f68, f69, f70⟩ : w5.cell? ⟨w.heap.size, 0, none⟩ = some (.int .i64 ax) ∧ w5.cell? ⟨w.heap.size, 1, none⟩ = some (.int .i64 ay) ∧ w5.cell? ⟨w.heap.size + 1, 0, none⟩ = some (.int .i64 bx) ∧ w5.cell? ⟨w.heap.size + 1, 1, none⟩ = some (.int .i64 b_y) ∧ w5.cell? ⟨w.heap.size + 1 + 1, 0, none⟩ = some (.int .i64 cx) ∧ w5.cell? ⟨w.heap.size + 1 + 1, 1, none⟩ = some (.int .i64 cy) := by
        refine ⟨?_, ?_, ?_, ?_, ?_, ?_⟩ <;> (refine cell_below hb5 ?_; repeat (first | (with_reducible assumption) | ((with_reducible refine cell_set ?_ ?_ _); (· first | (simp; done) | (simp; omega) | omega)) | ((with_reducible refine cell_new ?_ ?_); (· (simp; done)); (· rfl)) | (with_reducible refine cell_alloc ?_ _) | (with_reducible refine cell_drew ?_) | (with_reducible refine cell_drewN ?_ _) | (with_reducible refine cell_below (by assumption) ?_)))
      have zf65 : w.heap.size < w5.heap.size := World.block_lt_of_cell? _ _ f65
      have zf67 : w.heap.size + 1 < w5.heap.size := World.block_lt_of_cell? _ _ f67
      have zf69 : w.heap.size + 1 + 1 < w5.heap.size := World.block_lt_of_cell? _ _ f69
      obtain ⟨⟨m71a, m71b⟩, ⟨m72a, m72b⟩, ⟨m73a, m73b⟩, ⟨m74a, m74b⟩, ⟨m75a, m75b⟩, ⟨m76a, m76b⟩, ⟨m77a, m77b⟩, ⟨m78a, m78b⟩, ⟨m79a, m79b⟩, ⟨m80a, m80b⟩⟩ : MineC5r w5 (w.heap.size + 1 + 1 + 1) 0 ∧ MineC5r w5 (w.heap.size + 1 + 1 + 1) 1 ∧ MineC5r w5 (w.heap.size + 1 + 1 + 1) 2 ∧ MineC5r w5 (w.heap.size + 1 + 1 + 1) 3 ∧ MineC5r w5 (w.heap.size + 1 + 1 + 1) 4 ∧ MineC5r w5 (w.heap.size + 1 + 1 + 1) 5 ∧ MineC5r w5 (w.heap.size + 1 + 1 + 1) 6 ∧ MineC5r w5 (w.heap.size + 1 + 1 + 1) 7 ∧ MineC5r w5 (w.heap.size + 1 + 1 + 1) 8 ∧ MineC5r w5 (w.heap.size + 1 + 1 + 1) 9 := by
        refine ⟨?_, ?_, ?_, ?_, ?_, ?_, ?_, ?_, ?_, ?_⟩ <;> (refine mine_below hb5 ?_; repeat (first | (refine ⟨?_, ?_⟩ <;> (with_reducible assumption)) | (with_reducible refine mine_alloc ?_ _) | (with_reducible refine mine_set ?_ _ _) | (with_reducible refine mine_drew ?_) | (with_reducible refine mine_drewN ?_ _) | (with_reducible refine mine_below (by assumption) ?_)))
      have zm71 : w.heap.size + 1 + 1 + 1 < w5.heap.size := World.block_lt_of_cell? _ _ m71a
      clear f49 zf49 f50 f51 zf51 f52 f53 zf53 f54 m55a m55b zm55 m56a m56b m57a m57b m58a m58b m59a m59b m60a m60b m61a m61b m62a m62b m63a m63b m64a m64b
      go_wp2_with (first
        | (go_at_call 79; refine (DF _).mono ?_; rintro e w' ⟨rfl, rfl⟩)
        | (go_at_call 61; refine (AB _).mono ?_; rintro e w' ⟨rfl, rfl⟩)
        | (go_at_call 81; refine (SN _).mono ?_; rintro e w' ⟨rfl, rfl⟩)
        | (go_at_call 82; refine (CN _).mono ?_; rintro e w' ⟨rfl, rfl⟩)
        | (go_at_call 80; refine (MU _).mono ?_; rintro e w' ⟨rfl, n1, rfl⟩))
      go_wp2_with fail
      refine (DA _).mono ?_
      rintro e w6 ⟨rfl, hb6⟩
      obtain ⟨f81, f82, f83, f84, f85, f86⟩ : w6.cell? ⟨w.heap.size, 0, none⟩ = some (.int .i64 ax) ∧ w6.cell? ⟨w.heap.size, 1, none⟩ = some (.int .i64 ay) ∧ w6.cell? ⟨w.heap.size + 1, 0, none⟩ = some (.int .i64 bx) ∧ w6.cell? ⟨w.heap.size + 1, 1, none⟩ = some (.int .i64 b_y) ∧ w6.cell? ⟨w.heap.size + 1 + 1, 0, none⟩ = some (.int .i64 cx) ∧ w6.cell? ⟨w.heap.size + 1 + 1, 1, none⟩ = some (.int .i64 cy) := by
        refine ⟨?_, ?_, ?_, ?_, ?_, ?_⟩ <;> (refine cell_below hb6 ?_; repeat (first | (with_reducible assumption) | ((with_reducible refine cell_set ?_ ?_ _); (· first | (simp; done) | (simp; omega) | omega)) | ((with_reducible refine cell_new ?_ ?_); (· (simp; done)); (· rfl)) | (with_reducible refine cell_alloc ?_ _) | (with_reducible refine cell_drew ?_) | (with_reducible refine cell_drewN ?_ _) | (with_reducible refine cell_below (by assumption) ?_)))
      have zf81 : w.heap.size < w6.heap.size := World.block_lt_of_cell? _ _ f81
      have zf83 : w.heap.size + 1 < w6.heap.size := World.block_lt_of_cell? _ _ f83
      have zf85 : w.heap.size + 1 + 1 < w6.heap.size := World.block_lt_of_cell? _ _ f85
      obtain ⟨⟨m87a, m87b⟩, ⟨m88a, m88b⟩, ⟨m89a, m89b⟩, ⟨m90a, m90b⟩, ⟨m91a, m91b⟩, ⟨m92a, m92b⟩, ⟨m93a, m93b⟩, ⟨m94a, m94b⟩, ⟨m95a, m95b⟩, ⟨m96a, m96b⟩⟩ : MineC5r w6 (w.heap.size + 1 + 1 + 1) 0 ∧ MineC5r w6 (w.heap.size + 1 + 1 + 1) 1 ∧ MineC5r w6 (w.heap.size + 1 + 1 + 1) 2 ∧ MineC5r w6 (w.heap.size + 1 + 1 + 1) 3 ∧ MineC5r w6 (w.heap.size + 1 + 1 + 1) 4 ∧ MineC5r w6 (w.heap.size + 1 + 1 + 1) 5 ∧ MineC5r w6 (w.heap.size + 1 + 1 + 1) 6 ∧ MineC5r w6 (w.heap.size + 1 + 1 + 1) 7 ∧ MineC5r w6 (w.heap.size + 1 + 1 + 1) 8 ∧ MineC5r w6 (w.heap.size + 1 + 1 + 1) 9 := by
        refine ⟨?_, ?_, ?_, ?_, ?_, ?_, ?_, ?_, ?_, ?_⟩ <;> (refine mine_below hb6 ?_; repeat (first | (refine ⟨?_, ?_⟩ <;> (with_reducible assumption)) | (with_reducible refine mine_alloc ?_ _) | (with_reducible refine mine_set ?_ _ _) | (with_reducible refine mine_drew ?_) | (with_reducible refine mine_drewN ?_ _) | (with_reducible refine mine_below (by assumption) ?_)))
      have zm87 : w.heap.size + 1 + 1 + 1 < w6.heap.size := World.block_lt_of_cell? _ _ m87a
      clear f65 zf65 f66 f67 zf67 f68 f69 zf69 f70 m71a m71b zm71 m72a m72b m73a m73b m74a m74b m75a m75b m76a m76b m77a m77b m78a m78b m79a m79b m80a m80b
      go_wp2_with fail
      refine (DB _).mono ?_
      rintro e w7 ⟨rfl, hb7⟩
      obtain ⟨f97, f98, f99, f100, f101, f102⟩ : w7.cell? ⟨w.heap.size, 0, none⟩ = some (.int .i64 ax) ∧ w7.cell? ⟨w.heap.size, 1, none⟩ = some (.int .i64 ay) ∧ w7.cell? ⟨w.heap.size + 1, 0, none⟩ = some (.int .i64 bx) ∧ w7.cell? ⟨w.heap.size + 1, 1, none⟩ = some (.int .i64 b_y) ∧ w7.cell? ⟨w.heap.size + 1 + 1, 0, none⟩ = some (.int .i64 cx) ∧ w7.cell? ⟨w.heap.size + 1 + 1, 1, none⟩ = some (.int .i64 cy) := by
        refine ⟨?_, ?_, ?_, ?_, ?_, ?_⟩ <;> (refine cell_below hb7 ?_; repeat (first | (with_reducible assumption) | ((with_reducible refine cell_set ?_ ?_ _); (· first | (simp; done) | (simp; omega) | omega)) | ((with_reducible refine cell_new ?_ ?_); (· (simp; done)); (· rfl)) | (with_reducible refine cell_alloc ?_ _) | (with_reducible refine cell_drew ?_) | (with_reducible refine cell_drewN ?_ _) | (with_reducible refine cell_below (by assumption) ?_)))
      have zf97 : w.heap.size < w7.heap.size := World.block_lt_of_cell? _ _ f97
      have zf99 : w.heap.size + 1 < w7.heap.size := World.block_lt_of_cell? _ _ f99
      have zf101 : w.heap.size + 1 + 1 < w7.heap.size := World.block_lt_of_cell? _ _ f101
      obtain ⟨⟨m103a, m103b⟩, ⟨m104a, m104b⟩, ⟨m105a, m105b⟩, ⟨m106a, m106b⟩, ⟨m107a, m107b⟩, ⟨m108a, m108b⟩, ⟨m109a, m109b⟩, ⟨m110a, m110b⟩, ⟨m111a, m111b⟩, ⟨m112a, m112b⟩⟩ : MineC5r w7 (w.heap.size + 1 + 1 + 1) 0 ∧ MineC5r w7 (w.heap.size + 1 + 1 + 1) 1 ∧ MineC5r w7 (w.heap.size + 1 + 1 + 1) 2 ∧ MineC5r w7 (w.heap.size + 1 + 1 + 1) 3 ∧ MineC5r w7 (w.heap.size + 1 + 1 + 1) 4 ∧ MineC5r w7 (w.heap.size + 1 + 1 + 1) 5 ∧ MineC5r w7 (w.heap.size + 1 + 1 + 1) 6 ∧ MineC5r w7 (w.heap.size + 1 + 1 + 1) 7 ∧ MineC5r w7 (w.heap.size + 1 + 1 + 1) 8 ∧ MineC5r w7 (w.heap.size + 1 + 1 + 1) 9 := by
        refine ⟨?_, ?_, ?_, ?_, ?_, ?_, ?_, ?_, ?_, ?_⟩ <;> (refine mine_below hb7 ?_; repeat (first | (refine ⟨?_, ?_⟩ <;> (with_reducible assumption)) | (with_reducible refine mine_alloc ?_ _) | (with_reducible refine mine_set ?_ _ _) | (with_reducible refine mine_drew ?_) | (with_reducible refine mine_drewN ?_ _) | (with_reducible refine mine_below (by assumption) ?_)))
      have zm103 : w.heap.size + 1 + 1 + 1 < w7.heap.size := World.block_lt_of_cell? _ _ m103a
      clear f81 zf81 f82 f83 zf83 f84 f85 zf85 f86 m87a m87b zm87 m88a m88b m89a m89b m90a m90b m91a m91b m92a m92b m93a m93b m94a m94b m95a m95b m96a m96b
      go_wp2_with fail
      all_goals
        exact bodyPost_ret (v := .tuple #[.agg #[.int .i64 0, .int .i64 0, .int .i64 0, .int .i64 0, .int .i64 0, .int .i64 0, .int .i64 0, .int .i64 0, .int .i64 0, .int .i64 0], .int .i64 10]) (by simp [results, Try.results31, go_sem, *]) rfl ⟨rfl, by (repeat (with_reducible (first | assumption | exact Below.refl _ _ | refine Below.drew ?_ | refine below_drewN ?_ _ | refine below_set ?_ (by simp; try omega) _ | refine below_alloc ?_ (Nat.le_refl _) _ | refine below_sub (by assumption) ?_)))⟩
  obtain ⟨Y1, hY1⟩ : ∃ Y, Y = rayF bx b_y (turnF x 64800000) l := ⟨_, rfl⟩
  obtain ⟨sx, sy, e1⟩ := Y1
  obtain ⟨Y2, hY2⟩ : ∃ Y, Y = rayF bx b_y y l := ⟨_, rfl⟩
  obtain ⟨ex, ey, e2⟩ := Y2
  obtain ⟨Y3, hY3⟩ : ∃ Y, Y = rayF sx sy (turnF x (sideOf d 32400000)) r := ⟨_, rfl⟩
  obtain ⟨kx, ky, e3⟩ := Y3
  rw [HX sx sy e1 ex ey e2 kx ky e3 h7 hY1 hY2 hY3] at hR
  have hq : -32400000 ≤ sideOf d 32400000 ∧ sideOf d 32400000 ≤ 32400000 := by unfold sideOf; split <;> omega
  have t1 := turnF_bd x 64800000
  have t2 := turnF_bd x (sideOf d 32400000)
  have OP := fun W => ropposite_any x (by unfold I64; omega) W
  have RS := fun W => rray_any bx b_y (turnF x 64800000) l (by unfold I64; omega) (by unfold I64; omega) W _ hY1
  have RE := fun W => rray_any bx b_y y l (by unfold I64; omega) (by unfold I64; omega) W _ hY2
  have RC := fun W => rray_any sx sy (turnF x (sideOf d 32400000)) r (by unfold I64; omega) (by unfold I64; omega) W _ hY3
  have SQ := fun W => rtside_any x 32400000 d (by unfold I64; omega) (by omega) (by omega) W
  have SF := fun W => rtside_any x (-32400000) d (by unfold I64; omega) (by omega) (by omega) W
  rw [show sideOf d (-32400000) = -sideOf d 32400000 from by unfold sideOf; split <;> omega] at SF
  have hm : ¬ l > m := fun h => h7 (.inl h)
  have hn : ¬ l > n := fun h => h7 (.inr h)
  clear HW HX hY1 hY2 hY3 hd hl md h7 h6
  generalize turnF x (-sideOf d 32400000) = fr at *
  generalize turnF x (sideOf d 32400000) = tc at *
  generalize turnF x 64800000 = xo at *
  generalize sideOf d 32400000 = q at *
  generalize Sin ((d.natAbs : Int) / 2) = S at *
  generalize Cos ((d.natAbs : Int) / 2) = C at *
  generalize (d.natAbs : Int) = k at *
  go_enter Try.func31, Try.ntmps31
  go_wp2_with fail
  refine (PV0 _).mono ?_
  rintro e w1 ⟨rfl, hb1⟩
  obtain ⟨f1, f2, f3, f4, f5, f6⟩ : w1.cell? ⟨w.heap.size, 0, none⟩ = some (.int .i64 ax) ∧ w1.cell? ⟨w.heap.size, 1, none⟩ = some (.int .i64 ay) ∧ w1.cell? ⟨w.heap.size + 1, 0, none⟩ = some (.int .i64 bx) ∧ w1.cell? ⟨w.heap.size + 1, 1, none⟩ = some (.int .i64 b_y) ∧ w1.cell? ⟨w.heap.size + 1 + 1, 0, none⟩ = some (.int .i64 cx) ∧ w1.cell? ⟨w.heap.size + 1 + 1, 1, none⟩ = some (.int .i64 cy) := by
    refine ⟨?_, ?_, ?_, ?_, ?_, ?_⟩ <;> (refine cell_below hb1 ?_; repeat (first | (with_reducible assumption) | ((with_reducible refine cell_set ?_ ?_ _); (· first | (simp; done) | (simp; omega) | omega)) | ((with_reducible refine cell_new ?_ ?_); (· (simp; done)); (· rfl)) | (with_reducible refine cell_alloc ?_ _) | (with_reducible refine cell_drew ?_) | (with_reducible refine cell_drewN ?_ _) | (with_reducible refine cell_below (by assumption) ?_)))
  have zf1 : w.heap.size < w1.heap.size := World.block_lt_of_cell? _ _ f1
  have zf3 : w.heap.size + 1 < w1.heap.size := World.block_lt_of_cell? _ _ f3
  have zf5 : w.heap.size + 1 + 1 < w1.heap.size := World.block_lt_of_cell? _ _ f5
  obtain ⟨⟨m7a, m7b⟩, ⟨m8a, m8b⟩, ⟨m9a, m9b⟩, ⟨m10a, m10b⟩, ⟨m11a, m11b⟩, ⟨m12a, m12b⟩, ⟨m13a, m13b⟩, ⟨m14a, m14b⟩, ⟨m15a, m15b⟩, ⟨m16a, m16b⟩⟩ : MineC5r w1 (w.heap.size + 1 + 1 + 1) 0 ∧ MineC5r w1 (w.heap.size + 1 + 1 + 1) 1 ∧ MineC5r w1 (w.heap.size + 1 + 1 + 1) 2 ∧ MineC5r w1 (w.heap.size + 1 + 1 + 1) 3 ∧ MineC5r w1 (w.heap.size + 1 + 1 + 1) 4 ∧ MineC5r w1 (w.heap.size + 1 + 1 + 1) 5 ∧ MineC5r w1 (w.heap.size + 1 + 1 + 1) 6 ∧ MineC5r w1 (w.heap.size + 1 + 1 + 1) 7 ∧ MineC5r w1 (w.heap.size + 1 + 1 + 1) 8 ∧ MineC5r w1 (w.heap.size + 1 + 1 + 1) 9 := by
    refine ⟨?_, ?_, ?_, ?_, ?_, ?_, ?_, ?_, ?_, ?_⟩ <;> (refine mine_below hb1 (mine_of (v := .int .i64 0) ?_ ?_) <;> simp [go_sem])
  have zm7 : w.heap.size + 1 + 1 + 1 < w1.heap.size := World.block_lt_of_cell? _ _ m7a
  go_wp2_with fail
  refine (PV1 _).mono ?_
  rintro e w2 ⟨rfl, hb2⟩
  obtain ⟨f17, f18, f19, f20, f21, f22⟩ : w2.cell? ⟨w.heap.size, 0, none⟩ = some (.int .i64 ax) ∧ w2.cell? ⟨w.heap.size, 1, none⟩ = some (.int .i64 ay) ∧ w2.cell? ⟨w.heap.size + 1, 0, none⟩ = some (.int .i64 bx) ∧ w2.cell? ⟨w.heap.size + 1, 1, none⟩ = some (.int .i64 b_y) ∧ w2.cell? ⟨w.heap.size + 1 + 1, 0, none⟩ = some (.int .i64 cx) ∧ w2.cell? ⟨w.heap.size + 1 + 1, 1, none⟩ = some (.int .i64 cy) := by
    refine ⟨?_, ?_, ?_, ?_, ?_, ?_⟩ <;> (refine cell_below hb2 ?_; repeat (first | (with_reducible assumption) | ((with_reducible refine cell_set ?_ ?_ _); (· first | (simp; done) | (simp; omega) | omega)) | ((with_reducible refine cell_new ?_ ?_); (· (simp; done)); (· rfl)) | (with_reducible refine cell_alloc ?_ _) | (with_reducible refine cell_drew ?_) | (with_reducible refine cell_drewN ?_ _) | (with_reducible refine cell_below (by assumption) ?_)))
  have zf17 : w.heap.size < w2.heap.size := World.block_lt_of_cell? _ _ f17
  have zf19 : w.heap.size + 1 < w2.heap.size := World.block_lt_of_cell? _ _ f19
  have zf21 : w.heap.size + 1 + 1 < w2.heap.size := World.block_lt_of_cell? _ _ f21
  obtain ⟨⟨m23a, m23b⟩, ⟨m24a, m24b⟩, ⟨m25a, m25b⟩, ⟨m26a, m26b⟩, ⟨m27a, m27b⟩, ⟨m28a, m28b⟩, ⟨m29a, m29b⟩, ⟨m30a, m30b⟩, ⟨m31a, m31b⟩, ⟨m32a, m32b⟩⟩ : MineC5r w2 (w.heap.size + 1 + 1 + 1) 0 ∧ MineC5r w2 (w.heap.size + 1 + 1 + 1) 1 ∧ MineC5r w2 (w.heap.size + 1 + 1 + 1) 2 ∧ MineC5r w2 (w.heap.size + 1 + 1 + 1) 3 ∧ MineC5r w2 (w.heap.size + 1 + 1 + 1) 4 ∧ MineC5r w2 (w.heap.size + 1 + 1 + 1) 5 ∧ MineC5r w2 (w.heap.size + 1 + 1 + 1) 6 ∧ MineC5r w2 (w.heap.size + 1 + 1 + 1) 7 ∧ MineC5r w2 (w.heap.size + 1 + 1 + 1) 8 ∧ MineC5r w2 (w.heap.size + 1 + 1 + 1) 9 := by
    refine ⟨?_, ?_, ?_, ?_, ?_, ?_, ?_, ?_, ?_, ?_⟩ <;> (refine mine_below hb2 ?_; repeat (first | (refine ⟨?_, ?_⟩ <;> (with_reducible assumption)) | (with_reducible refine mine_alloc ?_ _) | (with_reducible refine mine_set ?_ _ _) | (with_reducible refine mine_drew ?_) | (with_reducible refine mine_drewN ?_ _) | (with_reducible refine mine_below (by assumption) ?_)))
  have zm23 : w.heap.size + 1 + 1 + 1 < w2.heap.size := World.block_lt_of_cell? _ _ m23a
  clear f1 zf1 f2 f3 zf3 f4 f5 zf5 f6 m7a m7b zm7 m8a m8b m9a m9b m10a m10b m11a m11b m12a m12b m13a m13b m14a m14b m15a m15b m16a m16b
  go_wp2_with fail
  refine (PV2 _).mono ?_
  rintro e w3 ⟨rfl, hb3⟩
  obtain ⟨f33, f34, f35, f36, f37, f38⟩ : w3.cell? ⟨w.heap.size, 0, none⟩ = some (.int .i64 ax) ∧ w3.cell? ⟨w.heap.size, 1, none⟩ = some (.int .i64 ay) ∧ w3.cell? ⟨w.heap.size + 1, 0, none⟩ = some (.int .i64 bx) ∧ w3.cell? ⟨w.heap.size + 1, 1, none⟩ = some (.int .i64 b_y) ∧ w3.cell? ⟨w.heap.size + 1 + 1, 0, none⟩ = some (.int .i64 cx) ∧ w3.cell? ⟨w.heap.size + 1 + 1, 1, none⟩ = some (.int .i64 cy) := by
    refine ⟨?_, ?_, ?_, ?_, ?_, ?_⟩ <;> (refine cell_below hb3 ?_; repeat (first | (with_reducible assumption) | ((with_reducible refine cell_set ?_ ?_ _); (· first | (simp; done) | (simp; omega) | omega)) | ((with_reducible refine cell_new ?_ ?_); (· (simp; done)); (· rfl)) | (with_reducible refine cell_alloc ?_ _) | (with_reducible refine cell_drew ?_) | (with_reducible refine cell_drewN ?_ _) | (with_reducible refine cell_below (by assumption) ?_)))
  have zf33 : w.heap.size < w3.heap.size := World.block_lt_of_cell? _ _ f33
  have zf35 : w.heap.size + 1 < w3.heap.size := World.block_lt_of_cell? _ _ f35
  have zf37 : w.heap.size + 1 + 1 < w3.heap.size := World.block_lt_of_cell? _ _ f37
  obtain ⟨⟨m39a, m39b⟩, ⟨m40a, m40b⟩, ⟨m41a, m41b⟩, ⟨m42a, m42b⟩, ⟨m43a, m43b⟩, ⟨m44a, m44b⟩, ⟨m45a, m45b⟩, ⟨m46a, m46b⟩, ⟨m47a, m47b⟩, ⟨m48a, m48b⟩⟩ : MineC5r w3 (w.heap.size + 1 + 1 + 1) 0 ∧ MineC5r w3 (w.heap.size + 1 + 1 + 1) 1 ∧ MineC5r w3 (w.heap.size + 1 + 1 + 1) 2 ∧ MineC5r w3 (w.heap.size + 1 + 1 + 1) 3 ∧ MineC5r w3 (w.heap.size + 1 + 1 + 1) 4 ∧ MineC5r w3 (w.heap.size + 1 + 1 + 1) 5 ∧ MineC5r w3 (w.heap.size + 1 + 1 + 1) 6 ∧ MineC5r w3 (w.heap.size + 1 + 1 + 1) 7 ∧ MineC5r w3 (w.heap.size + 1 + 1 + 1) 8 ∧ MineC5r w3 (w.heap.size + 1 + 1 + 1) 9 := by
    refine ⟨?_, ?_, ?_, ?_, ?_, ?_, ?_, ?_, ?_, ?_⟩ <;> (refine mine_below hb3 ?_; repeat (first | (refine ⟨?_, ?_⟩ <;> (with_reducible assumption)) | (with_reducible refine mine_alloc ?_ _) | (with_reducible refine mine_set ?_ _ _) | (with_reducible refine mine_drew ?_) | (with_reducible refine mine_drewN ?_ _) | (with_reducible refine mine_below (by assumption) ?_)))
  have zm39 : w.heap.size + 1 + 1 + 1 < w3.heap.size := World.block_lt_of_cell? _ _ m39a
  clear f17 zf17 f18 f19 zf19 f20 f21 zf21 f22 m23a m23b zm23 m24a m24b m25a m25b m26a m26b m27a m27b m28a m28b m29a m29b m30a m30b m31a m31b m32a m32b
  go_wp2_with fail
  refine (CA _).mono ?_
  rintro e w4 ⟨rfl, hb4⟩
  obtain ⟨f49, f50, f51, f52, f53, f54⟩ : w4.cell? ⟨w.heap.size, 0, none⟩ = some (.int .i64 ax) ∧ w4.cell? ⟨w.heap.size, 1, none⟩ = some (.int .i64 ay) ∧ w4.cell? ⟨w.heap.size + 1, 0, none⟩ = some (.int .i64 bx) ∧ w4.cell? ⟨w.heap.size + 1, 1, none⟩ = some (.int .i64 b_y) ∧ w4.cell? ⟨w.heap.size + 1 + 1, 0, none⟩ = some (.int .i64 cx) ∧ w4.cell? ⟨w.heap.size + 1 + 1, 1, none⟩ = some (.int .i64 cy) := by
    refine ⟨?_, ?_, ?_, ?_, ?_, ?_⟩ <;> (refine cell_below hb4 ?_; repeat (first | (with_reducible assumption) | ((with_reducible refine cell_set ?_ ?_ _); (· first | (simp; done) | (simp; omega) | omega)) | ((with_reducible refine cell_new ?_ ?_); (· (simp; done)); (· rfl)) | (with_reducible refine cell_alloc ?_ _) | (with_reducible refine cell_drew ?_) | (with_reducible refine cell_drewN ?_ _) | (with_reducible refine cell_below (by assumption) ?_)))
  have zf49 : w.heap.size < w4.heap.size := World.block_lt_of_cell? _ _ f49
  have zf51 : w.heap.size + 1 < w4.heap.size := World.block_lt_of_cell? _ _ f51
  have zf53 : w.heap.size + 1 + 1 < w4.heap.size := World.block_lt_of_cell? _ _ f53
  obtain ⟨⟨m55a, m55b⟩, ⟨m56a, m56b⟩, ⟨m57a, m57b⟩, ⟨m58a, m58b⟩, ⟨m59a, m59b⟩, ⟨m60a, m60b⟩, ⟨m61a, m61b⟩, ⟨m62a, m62b⟩, ⟨m63a, m63b⟩, ⟨m64a, m64b⟩⟩ : MineC5r w4 (w.heap.size + 1 + 1 + 1) 0 ∧ MineC5r w4 (w.heap.size + 1 + 1 + 1) 1 ∧ MineC5r w4 (w.heap.size + 1 + 1 + 1) 2 ∧ MineC5r w4 (w.heap.size + 1 + 1 + 1) 3 ∧ MineC5r w4 (w.heap.size + 1 + 1 + 1) 4 ∧ MineC5r w4 (w.heap.size + 1 + 1 + 1) 5 ∧ MineC5r w4 (w.heap.size + 1 + 1 + 1) 6 ∧ MineC5r w4 (w.heap.size + 1 + 1 + 1) 7 ∧ MineC5r w4 (w.heap.size + 1 + 1 + 1) 8 ∧ MineC5r w4 (w.heap.size + 1 + 1 + 1) 9 := by
    refine ⟨?_, ?_, ?_, ?_, ?_, ?_, ?_, ?_, ?_, ?_⟩ <;> (refine mine_below hb4 ?_; repeat (first | (refine ⟨?_, ?_⟩ <;> (with_reducible assumption)) | (with_reducible refine mine_alloc ?_ _) | (with_reducible refine mine_set ?_ _ _) | (with_reducible refine mine_drew ?_) | (with_reducible refine mine_drewN ?_ _) | (with_reducible refine mine_below (by assumption) ?_)))
  have zm55 : w.heap.size + 1 + 1 + 1 < w4.heap.size := World.block_lt_of_cell? _ _ m55a
  clear f33 zf33 f34 f35 zf35 f36 f37 zf37 f38 m39a m39b zm39 m40a m40b m41a m41b m42a m42b m43a m43b m44a m44b m45a m45b m46a m46b m47a m47b m48a m48b
  go_wp2_with fail
  refine (CB _).mono ?_
  rintro e w5 ⟨rfl, hb5⟩
  obtain ⟨f65, f66, f67, f68, f69, f70⟩ : w5.cell? ⟨w.heap.size, 0, none⟩ = some (.int .i64 ax) ∧ w5.cell? ⟨w.heap.size, 1, none⟩ = some (.int .i64 ay) ∧ w5.cell? ⟨w.heap.size + 1, 0, none⟩ = some (.int .i64 bx) ∧ w5.cell? ⟨w.heap.size + 1, 1, none⟩ = some (.int .i64 b_y) ∧ w5.cell? ⟨w.heap.size + 1 + 1, 0, none⟩ = some (.int .i64 cx) ∧ w5.cell? ⟨w.heap.size + 1 + 1, 1, none⟩ = some (.int .i64 cy) := by
    refine ⟨?_, ?_, ?_, ?_, ?_, ?_⟩ <;> (refine cell_below hb5 ?_; repeat (first | (with_reducible assumption) | ((with_reducible refine cell_set ?_ ?_ _); (· first | (simp; done) | (simp; omega) | omega)) | ((with_reducible refine cell_new ?_ ?_); (· (simp; done)); (· rfl)) | (with_reducible refine cell_alloc ?_ _) | (with_reducible refine cell_drew ?_) | (with_reducible refine cell_drewN ?_ _) | (with_reducible refine cell_below (by assumption) ?_)))
  have zf65 : w.heap.size < w5.heap.size := World.block_lt_of_cell? _ _ f65
  have zf67 : w.heap.size + 1 < w5.heap.size := World.block_lt_of_cell? _ _ f67
  have zf69 : w.heap.size + 1 + 1 < w5.heap.size := World.block_lt_of_cell? _ _ f69
  obtain ⟨⟨m71a, m71b⟩, ⟨m72a, m72b⟩, ⟨m73a, m73b⟩, ⟨m74a, m74b⟩, ⟨m75a, m75b⟩, ⟨m76a, m76b⟩, ⟨m77a, m77b⟩, ⟨m78a, m78b⟩, ⟨m79a, m79b⟩, ⟨m80a, m80b⟩⟩ : MineC5r w5 (w.heap.size + 1 + 1 + 1) 0 ∧ MineC5r w5 (w.heap.size + 1 + 1 + 1) 1 ∧ MineC5r w5 (w.heap.size + 1 + 1 + 1) 2 ∧ MineC5r w5 (w.heap.size + 1 + 1 + 1) 3 ∧ MineC5r w5 (w.heap.size + 1 + 1 + 1) 4 ∧ MineC5r w5 (w.heap.size + 1 + 1 + 1) 5 ∧ MineC5r w5 (w.heap.size + 1 + 1 + 1) 6 ∧ MineC5r w5 (w.heap.size + 1 + 1 + 1) 7 ∧ MineC5r w5 (w.heap.size + 1 + 1 + 1) 8 ∧ MineC5r w5 (w.heap.size + 1 + 1 + 1) 9 := by
    refine ⟨?_, ?_, ?_, ?_, ?_, ?_, ?_, ?_, ?_, ?_⟩ <;> (refine mine_below hb5 ?_; repeat (first | (refine ⟨?_, ?_⟩ <;> (with_reducible assumption)) | (with_reducible refine mine_alloc ?_ _) | (with_reducible refine mine_set ?_ _ _) | (with_reducible refine mine_drew ?_) | (with_reducible refine mine_drewN ?_ _) | (with_reducible refine mine_below (by assumption) ?_)))
  have zm71 : w.heap.size + 1 + 1 + 1 < w5.heap.size := World.block_lt_of_cell? _ _ m71a
  clear f49 zf49 f50 f51 zf51 f52 f53 zf53 f54 m55a m55b zm55 m56a m56b m57a m57b m58a m58b m59a m59b m60a m60b m61a m61b m62a m62b m63a m63b m64a m64b
  go_wp2_with (first
    | (go_at_call 79; refine (DF _).mono ?_; rintro e w' ⟨rfl, rfl⟩)
    | (go_at_call 61; refine (AB _).mono ?_; rintro e w' ⟨rfl, rfl⟩)
    | (go_at_call 81; refine (SN _).mono ?_; rintro e w' ⟨rfl, rfl⟩)
    | (go_at_call 82; refine (CN _).mono ?_; rintro e w' ⟨rfl, rfl⟩)
    | (go_at_call 80; refine (MU _).mono ?_; rintro e w' ⟨rfl, n1, rfl⟩))
  go_wp2_with fail
  refine (DA _).mono ?_
  rintro e w6 ⟨rfl, hb6⟩
  obtain ⟨f81, f82, f83, f84, f85, f86⟩ : w6.cell? ⟨w.heap.size, 0, none⟩ = some (.int .i64 ax) ∧ w6.cell? ⟨w.heap.size, 1, none⟩ = some (.int .i64 ay) ∧ w6.cell? ⟨w.heap.size + 1, 0, none⟩ = some (.int .i64 bx) ∧ w6.cell? ⟨w.heap.size + 1, 1, none⟩ = some (.int .i64 b_y) ∧ w6.cell? ⟨w.heap.size + 1 + 1, 0, none⟩ = some (.int .i64 cx) ∧ w6.cell? ⟨w.heap.size + 1 + 1, 1, none⟩ = some (.int .i64 cy) := by
    refine ⟨?_, ?_, ?_, ?_, ?_, ?_⟩ <;> (refine cell_below hb6 ?_; repeat (first | (with_reducible assumption) | ((with_reducible refine cell_set ?_ ?_ _); (· first | (simp; done) | (simp; omega) | omega)) | ((with_reducible refine cell_new ?_ ?_); (· (simp; done)); (· rfl)) | (with_reducible refine cell_alloc ?_ _) | (with_reducible refine cell_drew ?_) | (with_reducible refine cell_drewN ?_ _) | (with_reducible refine cell_below (by assumption) ?_)))
  have zf81 : w.heap.size < w6.heap.size := World.block_lt_of_cell? _ _ f81
  have zf83 : w.heap.size + 1 < w6.heap.size := World.block_lt_of_cell? _ _ f83
  have zf85 : w.heap.size + 1 + 1 < w6.heap.size := World.block_lt_of_cell? _ _ f85
  obtain ⟨⟨m87a, m87b⟩, ⟨m88a, m88b⟩, ⟨m89a, m89b⟩, ⟨m90a, m90b⟩, ⟨m91a, m91b⟩, ⟨m92a, m92b⟩, ⟨m93a, m93b⟩, ⟨m94a, m94b⟩, ⟨m95a, m95b⟩, ⟨m96a, m96b⟩⟩ : MineC5r w6 (w.heap.size + 1 + 1 + 1) 0 ∧ MineC5r w6 (w.heap.size + 1 + 1 + 1) 1 ∧ MineC5r w6 (w.heap.size + 1 + 1 + 1) 2 ∧ MineC5r w6 (w.heap.size + 1 + 1 + 1) 3 ∧ MineC5r w6 (w.heap.size + 1 + 1 + 1) 4 ∧ MineC5r w6 (w.heap.size + 1 + 1 + 1) 5 ∧ MineC5r w6 (w.heap.size + 1 + 1 + 1) 6 ∧ MineC5r w6 (w.heap.size + 1 + 1 + 1) 7 ∧ MineC5r w6 (w.heap.size + 1 + 1 + 1) 8 ∧ MineC5r w6 (w.heap.size + 1 + 1 + 1) 9 := by
    refine ⟨?_, ?_, ?_, ?_, ?_, ?_, ?_, ?_, ?_, ?_⟩ <;> (refine mine_below hb6 ?_; repeat (first | (refine ⟨?_, ?_⟩ <;> (with_reducible assumption)) | (with_reducible refine mine_alloc ?_ _) | (with_reducible refine mine_set ?_ _ _) | (with_reducible refine mine_drew ?_) | (with_reducible refine mine_drewN ?_ _) | (with_reducible refine mine_below (by assumption) ?_)))
  have zm87 : w.heap.size + 1 + 1 + 1 < w6.heap.size := World.block_lt_of_cell? _ _ m87a
  clear f65 zf65 f66 f67 zf67 f68 f69 zf69 f70 m71a m71b zm71 m72a m72b m73a m73b m74a m74b m75a m75b m76a m76b m77a m77b m78a m78b m79a m79b m80a m80b
  go_wp2_with fail
  refine (DB _).mono ?_
  rintro e w7 ⟨rfl, hb7⟩
  obtain ⟨f97, f98, f99, f100, f101, f102⟩ : w7.cell? ⟨w.heap.size, 0, none⟩ = some (.int .i64 ax) ∧ w7.cell? ⟨w.heap.size, 1, none⟩ = some (.int .i64 ay) ∧ w7.cell? ⟨w.heap.size + 1, 0, none⟩ = some (.int .i64 bx) ∧ w7.cell? ⟨w.heap.size + 1, 1, none⟩ = some (.int .i64 b_y) ∧ w7.cell? ⟨w.heap.size + 1 + 1, 0, none⟩ = some (.int .i64 cx) ∧ w7.cell? ⟨w.heap.size + 1 + 1, 1, none⟩ = some (.int .i64 cy) := by
    refine ⟨?_, ?_, ?_, ?_, ?_, ?_⟩ <;> (refine cell_below hb7 ?_; repeat (first | (with_reducible assumption) | ((with_reducible refine cell_set ?_ ?_ _); (· first | (simp; done) | (simp; omega) | omega)) | ((with_reducible refine cell_new ?_ ?_); (· (simp; done)); (· rfl)) | (with_reducible refine cell_alloc ?_ _) | (with_reducible refine cell_drew ?_) | (with_reducible refine cell_drewN ?_ _) | (with_reducible refine cell_below (by assumption) ?_)))
  have zf97 : w.heap.size < w7.heap.size := World.block_lt_of_cell? _ _ f97
  have zf99 : w.heap.size + 1 < w7.heap.size := World.block_lt_of_cell? _ _ f99
  have zf101 : w.heap.size + 1 + 1 < w7.heap.size := World.block_lt_of_cell? _ _ f101
  obtain ⟨⟨m103a, m103b⟩, ⟨m104a, m104b⟩, ⟨m105a, m105b⟩, ⟨m106a, m106b⟩, ⟨m107a, m107b⟩, ⟨m108a, m108b⟩, ⟨m109a, m109b⟩, ⟨m110a, m110b⟩, ⟨m111a, m111b⟩, ⟨m112a, m112b⟩⟩ : MineC5r w7 (w.heap.size + 1 + 1 + 1) 0 ∧ MineC5r w7 (w.heap.size + 1 + 1 + 1) 1 ∧ MineC5r w7 (w.heap.size + 1 + 1 + 1) 2 ∧ MineC5r w7 (w.heap.size + 1 + 1 + 1) 3 ∧ MineC5r w7 (w.heap.size + 1 + 1 + 1) 4 ∧ MineC5r w7 (w.heap.size + 1 + 1 + 1) 5 ∧ MineC5r w7 (w.heap.size + 1 + 1 + 1) 6 ∧ MineC5r w7 (w.heap.size + 1 + 1 + 1) 7 ∧ MineC5r w7 (w.heap.size + 1 + 1 + 1) 8 ∧ MineC5r w7 (w.heap.size + 1 + 1 + 1) 9 := by
    refine ⟨?_, ?_, ?_, ?_, ?_, ?_, ?_, ?_, ?_, ?_⟩ <;> (refine mine_below hb7 ?_; repeat (first | (refine ⟨?_, ?_⟩ <;> (with_reducible assumption)) | (with_reducible refine mine_alloc ?_ _) | (with_reducible refine mine_set ?_ _ _) | (with_reducible refine mine_drew ?_) | (with_reducible refine mine_drewN ?_ _) | (with_reducible refine mine_below (by assumption) ?_)))
  have zm103 : w.heap.size + 1 + 1 + 1 < w7.heap.size := World.block_lt_of_cell? _ _ m103a
  clear f81 zf81 f82 f83 zf83 f84 f85 zf85 f86 m87a m87b zm87 m88a m88b m89a m89b m90a m90b m91a m91b m92a m92b m93a m93b m94a m94b m95a m95b m96a m96b
  go_wp2_with fail
  go_cut [18, 11] (fun sA sB wx => ∃ (g : Nat) (wa : World), sA = .pointer (some ⟨g, 0, none⟩) ∧ sB = .int .i64 e1 ∧ wa = wx ∧ (wa.cell? ⟨g, 0, none⟩ = some (.int .i64 sx) ∧ wa.cell? ⟨g, 1, none⟩ = some (.int .i64 sy)) ∧ w7.heap.size ≤ g ∧ Below w7.heap.size w7 wa)
  case first =>
    go_region_with (first
      | (go_at_call 83; refine (OP _).mono ?_; rintro e w' ⟨rfl, rfl⟩)
      | (go_at_call 68; refine (RS _).mono ?_; rintro e w' ⟨rfl, hb'⟩; have hz' := hb'.size; try (refine (fun n0 => ?_) (mine_below hb' (a := ⟨w7.heap.size, 0, none⟩) (mine_of (v := .int .i64 0) ?_ ?_)); rotate_left; (· (simp [go_sem]; done)); (· (simp [go_sem]; done)); obtain ⟨n0a, n0b⟩ := n0; refine (fun n1 => ?_) (mine_below hb' (a := ⟨w7.heap.size, 1, none⟩) (mine_of (v := .int .i64 0) ?_ ?_)); rotate_left; (· (simp [go_sem]; done)); (· (simp [go_sem]; done)); obtain ⟨n1a, n1b⟩ := n1)))
    all_goals
      go_wp2_with fail
      go_meet
      refine ⟨_, _, rfl, rfl, rfl, ?_, ?_, ?_⟩
      · constructor <;> (first | (simp [go_sem]; done) | (simp [go_sem, *]; done) | (simp [World.cell?_setCell, *]; done))
      · first | omega | exact Nat.le_refl _ | (simp at hz'; omega) | (simp; done) | (simp at hz' ⊢; omega) | (simp; omega)
      · (repeat (with_reducible (first | assumption | exact Below.refl _ _ | refine Below.drew ?_ | refine below_drewN ?_ _ | refine below_set ?_ (by simp; try omega) _ | refine below_alloc ?_ (Nat.le_refl _) _ | refine below_sub (by assumption) ?_)))
  case rest =>
    obtain ⟨g1, wa, rfl, rfl, rfl, ⟨cg11, cg12⟩, hgg1, hbcg1⟩ := hcut
    obtain ⟨t113, t114, t115, t116, t117, t118⟩ : wa.cell? ⟨w.heap.size, 0, none⟩ = some (.int .i64 ax) ∧ wa.cell? ⟨w.heap.size, 1, none⟩ = some (.int .i64 ay) ∧ wa.cell? ⟨w.heap.size + 1, 0, none⟩ = some (.int .i64 bx) ∧ wa.cell? ⟨w.heap.size + 1, 1, none⟩ = some (.int .i64 b_y) ∧ wa.cell? ⟨w.heap.size + 1 + 1, 0, none⟩ = some (.int .i64 cx) ∧ wa.cell? ⟨w.heap.size + 1 + 1, 1, none⟩ = some (.int .i64 cy) := by
      refine ⟨?_, ?_, ?_, ?_, ?_, ?_⟩ <;> (refine cell_below hbcg1 ?_; repeat (first | (with_reducible assumption) | ((with_reducible refine cell_set ?_ ?_ _); (· first | (simp; done) | (simp; omega) | omega)) | ((with_reducible refine cell_new ?_ ?_); (· (simp; done)); (· rfl)) | (with_reducible refine cell_alloc ?_ _) | (with_reducible refine cell_drew ?_) | (with_reducible refine cell_drewN ?_ _) | (with_reducible refine cell_below (by assumption) ?_)))
    have zt113 : w.heap.size < wa.heap.size := World.block_lt_of_cell? _ _ t113
    have zt115 : w.heap.size + 1 < wa.heap.size := World.block_lt_of_cell? _ _ t115
    have zt117 : w.heap.size + 1 + 1 < wa.heap.size := World.block_lt_of_cell? _ _ t117
    obtain ⟨⟨t119a, t119b⟩, ⟨t120a, t120b⟩, ⟨t121a, t121b⟩, ⟨t122a, t122b⟩, ⟨t123a, t123b⟩, ⟨t124a, t124b⟩, ⟨t125a, t125b⟩, ⟨t126a, t126b⟩, ⟨t127a, t127b⟩, ⟨t128a, t128b⟩⟩ : MineC5r wa (w.heap.size + 1 + 1 + 1) 0 ∧ MineC5r wa (w.heap.size + 1 + 1 + 1) 1 ∧ MineC5r wa (w.heap.size + 1 + 1 + 1) 2 ∧ MineC5r wa (w.heap.size + 1 + 1 + 1) 3 ∧ MineC5r wa (w.heap.size + 1 + 1 + 1) 4 ∧ MineC5r wa (w.heap.size + 1 + 1 + 1) 5 ∧ MineC5r wa (w.heap.size + 1 + 1 + 1) 6 ∧ MineC5r wa (w.heap.size + 1 + 1 + 1) 7 ∧ MineC5r wa (w.heap.size + 1 + 1 + 1) 8 ∧ MineC5r wa (w.heap.size + 1 + 1 + 1) 9 := by
      refine ⟨?_, ?_, ?_, ?_, ?_, ?_, ?_, ?_, ?_, ?_⟩ <;> (refine mine_below hbcg1 ?_; repeat (first | (refine ⟨?_, ?_⟩ <;> (with_reducible assumption)) | (with_reducible refine mine_alloc ?_ _) | (with_reducible refine mine_set ?_ _ _) | (with_reducible refine mine_drew ?_) | (with_reducible refine mine_drewN ?_ _) | (with_reducible refine mine_below (by assumption) ?_)))
    have zt119 : w.heap.size + 1 + 1 + 1 < wa.heap.size := World.block_lt_of_cell? _ _ t119a
    clear f97 zf97 f98 f99 zf99 f100 f101 zf101 f102 m103a m103b zm103 m104a m104b m105a m105b m106a m106b m107a m107b m108a m108b m109a m109b m110a m110b m111a m111b m112a m112b
    have zcg1 : g1 < wa.heap.size := World.block_lt_of_cell? _ _ cg11
    go_wp2_with fail
    refine (RE _).mono ?_
    rintro e w8 ⟨rfl, hb8⟩
    obtain ⟨f129, f130, f131, f132, f133, f134, f135, f136⟩ : w8.cell? ⟨w.heap.size, 0, none⟩ = some (.int .i64 ax) ∧ w8.cell? ⟨w.heap.size, 1, none⟩ = some (.int .i64 ay) ∧ w8.cell? ⟨w.heap.size + 1, 0, none⟩ = some (.int .i64 bx) ∧ w8.cell? ⟨w.heap.size + 1, 1, none⟩ = some (.int .i64 b_y) ∧ w8.cell? ⟨w.heap.size + 1 + 1, 0, none⟩ = some (.int .i64 cx) ∧ w8.cell? ⟨w.heap.size + 1 + 1, 1, none⟩ = some (.int .i64 cy) ∧ w8.cell? ⟨g1, 0, none⟩ = some (.int .i64 sx) ∧ w8.cell? ⟨g1, 1, none⟩ = some (.int .i64 sy) := by
      refine ⟨?_, ?_, ?_, ?_, ?_, ?_, ?_, ?_⟩ <;> (refine cell_below hb8 ?_; repeat (first | (with_reducible assumption) | ((with_reducible refine cell_set ?_ ?_ _); (· first | (simp; done) | (simp; omega) | omega)) | ((with_reducible refine cell_new ?_ ?_); (· (simp; done)); (· rfl)) | (with_reducible refine cell_alloc ?_ _) | (with_reducible refine cell_drew ?_) | (with_reducible refine cell_drewN ?_ _) | (with_reducible refine cell_below (by assumption) ?_)))
    have zf129 : w.heap.size < w8.heap.size := World.block_lt_of_cell? _ _ f129
    have zf131 : w.heap.size + 1 < w8.heap.size := World.block_lt_of_cell? _ _ f131
    have zf133 : w.heap.size + 1 + 1 < w8.heap.size := World.block_lt_of_cell? _ _ f133
    have zf135 : g1 < w8.heap.size := World.block_lt_of_cell? _ _ f135
    obtain ⟨⟨m137a, m137b⟩, ⟨m138a, m138b⟩, ⟨m139a, m139b⟩, ⟨m140a, m140b⟩, ⟨m141a, m141b⟩, ⟨m142a, m142b⟩, ⟨m143a, m143b⟩, ⟨m144a, m144b⟩, ⟨m145a, m145b⟩, ⟨m146a, m146b⟩⟩ : MineC5r w8 (w.heap.size + 1 + 1 + 1) 0 ∧ MineC5r w8 (w.heap.size + 1 + 1 + 1) 1 ∧ MineC5r w8 (w.heap.size + 1 + 1 + 1) 2 ∧ MineC5r w8 (w.heap.size + 1 + 1 + 1) 3 ∧ MineC5r w8 (w.heap.size + 1 + 1 + 1) 4 ∧ MineC5r w8 (w.heap.size + 1 + 1 + 1) 5 ∧ MineC5r w8 (w.heap.size + 1 + 1 + 1) 6 ∧ MineC5r w8 (w.heap.size + 1 + 1 + 1) 7 ∧ MineC5r w8 (w.heap.size + 1 + 1 + 1) 8 ∧ MineC5r w8 (w.heap.size + 1 + 1 + 1) 9 := by
      refine ⟨?_, ?_, ?_, ?_, ?_, ?_, ?_, ?_, ?_, ?_⟩ <;> (refine mine_below hb8 ?_; repeat (first | (refine ⟨?_, ?_⟩ <;> (with_reducible assumption)) | (with_reducible refine mine_alloc ?_ _) | (with_reducible refine mine_set ?_ _ _) | (with_reducible refine mine_drew ?_) | (with_reducible refine mine_drewN ?_ _) | (with_reducible refine mine_below (by assumption) ?_)))
    have zm137 : w.heap.size + 1 + 1 + 1 < w8.heap.size := World.block_lt_of_cell? _ _ m137a
    clear t113 zt113 t114 t115 zt115 t116 t117 zt117 t118 cg11 zcg1 cg12 t119a t119b zt119 t120a t120b t121a t121b t122a t122b t123a t123b t124a t124b t125a t125b t126a t126b t127a t127b t128a t128b
    go_wp2_with fail
    go_cut [20, 21] (fun sA sB wx => ∃ (g : Nat) (wb : World), sA = .pointer (some ⟨g, 0, none⟩) ∧ sB = .int .i64 e3 ∧ wb = wx ∧ (wb.cell? ⟨g, 0, none⟩ = some (.int .i64 kx) ∧ wb.cell? ⟨g, 1, none⟩ = some (.int .i64 ky)) ∧ (w8.alloc (.cells #[.int .i64 ex, .int .i64 ey] 23)).heap.size ≤ g ∧ Below (w8.alloc (.cells #[.int .i64 ex, .int .i64 ey] 23)).heap.size (w8.alloc (.cells #[.int .i64 ex, .int .i64 ey] 23)) wb)
    case first =>
      go_region_with (first
        | (go_at_call 67; refine (SQ _).mono ?_; rintro e w' ⟨rfl, rfl⟩)
        | (go_at_call 68; refine (RC _).mono ?_; rintro e w' ⟨rfl, hb'⟩; have hz' := hb'.size; try (refine (fun n0 => ?_) (mine_below hb' (a := ⟨w8.heap.size + 1, 0, none⟩) (mine_of (v := .int .i64 0) ?_ ?_)); rotate_left; (· (simp [go_sem]; done)); (· (simp [go_sem]; done)); obtain ⟨n0a, n0b⟩ := n0; refine (fun n1 => ?_) (mine_below hb' (a := ⟨w8.heap.size + 1, 1, none⟩) (mine_of (v := .int .i64 0) ?_ ?_)); rotate_left; (· (simp [go_sem]; done)); (· (simp [go_sem]; done)); obtain ⟨n1a, n1b⟩ := n1)))
      all_goals
        go_wp2_with fail
        go_meet
        refine ⟨_, _, rfl, rfl, rfl, ?_, ?_, ?_⟩
        · constructor <;> (first | (simp [go_sem]; done) | (simp [go_sem, *]; done) | (simp [World.cell?_setCell, *]; done))
        · first | omega | exact Nat.le_refl _ | (simp at hz'; omega) | (simp; done) | (simp at hz' ⊢; omega) | (simp; omega)
        · (repeat (with_reducible (first | assumption | exact Below.refl _ _ | refine Below.drew ?_ | refine below_drewN ?_ _ | refine below_set ?_ (by simp; try omega) _ | refine below_alloc ?_ (Nat.le_refl _) _ | refine below_sub (by assumption) ?_)))
    case rest =>
      obtain ⟨g3, wb, rfl, rfl, rfl, ⟨cg31, cg32⟩, hgg3, hbcg3⟩ := hcut
      obtain ⟨t147, t148, t149, t150, t151, t152, t153, t154, t155, t156⟩ : wb.cell? ⟨w.heap.size, 0, none⟩ = some (.int .i64 ax) ∧ wb.cell? ⟨w.heap.size, 1, none⟩ = some (.int .i64 ay) ∧ wb.cell? ⟨w.heap.size + 1, 0, none⟩ = some (.int .i64 bx) ∧ wb.cell? ⟨w.heap.size + 1, 1, none⟩ = some (.int .i64 b_y) ∧ wb.cell? ⟨w.heap.size + 1 + 1, 0, none⟩ = some (.int .i64 cx) ∧ wb.cell? ⟨w.heap.size + 1 + 1, 1, none⟩ = some (.int .i64 cy) ∧ wb.cell? ⟨g1, 0, none⟩ = some (.int .i64 sx) ∧ wb.cell? ⟨g1, 1, none⟩ = some (.int .i64 sy) ∧ wb.cell? ⟨w8.heap.size, 0, none⟩ = some (.int .i64 ex) ∧ wb.cell? ⟨w8.heap.size, 1, none⟩ = some (.int .i64 ey) := by
        refine ⟨?_, ?_, ?_, ?_, ?_, ?_, ?_, ?_, ?_, ?_⟩ <;> (refine cell_below hbcg3 ?_; repeat (first | (with_reducible assumption) | ((with_reducible refine cell_set ?_ ?_ _); (· first | (simp; done) | (simp; omega) | omega)) | ((with_reducible refine cell_new ?_ ?_); (· (simp; done)); (· rfl)) | (with_reducible refine cell_alloc ?_ _) | (with_reducible refine cell_drew ?_) | (with_reducible refine cell_drewN ?_ _) | (with_reducible refine cell_below (by assumption) ?_)))
      have zt147 : w.heap.size < wb.heap.size := World.block_lt_of_cell? _ _ t147
      have zt149 : w.heap.size + 1 < wb.heap.size := World.block_lt_of_cell? _ _ t149
      have zt151 : w.heap.size + 1 + 1 < wb.heap.size := World.block_lt_of_cell? _ _ t151
      have zt153 : g1 < wb.heap.size := World.block_lt_of_cell? _ _ t153
      have zt155 : w8.heap.size < wb.heap.size := World.block_lt_of_cell? _ _ t155
      obtain ⟨⟨t157a, t157b⟩, ⟨t158a, t158b⟩, ⟨t159a, t159b⟩, ⟨t160a, t160b⟩, ⟨t161a, t161b⟩, ⟨t162a, t162b⟩, ⟨t163a, t163b⟩, ⟨t164a, t164b⟩, ⟨t165a, t165b⟩, ⟨t166a, t166b⟩⟩ : MineC5r wb (w.heap.size + 1 + 1 + 1) 0 ∧ MineC5r wb (w.heap.size + 1 + 1 + 1) 1 ∧ MineC5r wb (w.heap.size + 1 + 1 + 1) 2 ∧ MineC5r wb (w.heap.size + 1 + 1 + 1) 3 ∧ MineC5r wb (w.heap.size + 1 + 1 + 1) 4 ∧ MineC5r wb (w.heap.size + 1 + 1 + 1) 5 ∧ MineC5r wb (w.heap.size + 1 + 1 + 1) 6 ∧ MineC5r wb (w.heap.size + 1 + 1 + 1) 7 ∧ MineC5r wb (w.heap.size + 1 + 1 + 1) 8 ∧ MineC5r wb (w.heap.size + 1 + 1 + 1) 9 := by
        refine ⟨?_, ?_, ?_, ?_, ?_, ?_, ?_, ?_, ?_, ?_⟩ <;> (refine mine_below hbcg3 ?_; repeat (first | (refine ⟨?_, ?_⟩ <;> (with_reducible assumption)) | (with_reducible refine mine_alloc ?_ _) | (with_reducible refine mine_set ?_ _ _) | (with_reducible refine mine_drew ?_) | (with_reducible refine mine_drewN ?_ _) | (with_reducible refine mine_below (by assumption) ?_)))
      have zt157 : w.heap.size + 1 + 1 + 1 < wb.heap.size := World.block_lt_of_cell? _ _ t157a
      clear f129 zf129 f130 f131 zf131 f132 f133 zf133 f134 f135 zf135 f136 m137a m137b zm137 m138a m138b m139a m139b m140a m140b m141a m141b m142a m142b m143a m143b m144a m144b m145a m145b m146a m146b
      have zcg3 : g3 < wb.heap.size := World.block_lt_of_cell? _ _ cg31
      by_cases hE1 : e1 = 0
      rotate_left
      · have tE : (e1 == 0) = false := by rw [beq_eq_false_iff_ne]; exact hE1
        have tE' : (e1 != 0) = true := by rw [bne_iff_ne]; exact hE1
        obtain ⟨⟨rfl, rfl, rfl, rfl, rfl⟩, ⟨rfl, rfl, rfl, rfl, rfl⟩, rfl⟩ := fly_zeros (e := 2) (by rw [hR, if_pos hE1])
        clear RS RE RC OP SQ MU SN CN DF AB DA DB PV0 PV1 PV2 CA CB SF hR t147 zt147 t148 t149 zt149 t150 t151 zt151 t152 t153 zt153 t154 t155 zt155 t156 cg31 zcg3 cg32
        go_wp2_with fail
        all_goals
          exact bodyPost_ret (v := .tuple #[.agg #[.int .i64 0, .int .i64 0, .int .i64 0, .int .i64 0, .int .i64 0, .int .i64 0, .int .i64 0, .int .i64 0, .int .i64 0, .int .i64 0], .int .i64 2]) (by simp [results, Try.results31, go_sem, *]) rfl ⟨rfl, by (repeat (with_reducible (first | assumption | exact Below.refl _ _ | refine Below.drew ?_ | refine below_drewN ?_ _ | refine below_set ?_ (by simp; try omega) _ | refine below_alloc ?_ (Nat.le_refl _) _ | refine below_sub (by assumption) ?_)))⟩
      by_cases hE2 : e2 = 0
      rotate_left
      · have tE : (e2 == 0) = false := by rw [beq_eq_false_iff_ne]; exact hE2
        have tE' : (e2 != 0) = true := by rw [bne_iff_ne]; exact hE2
        obtain ⟨⟨rfl, rfl, rfl, rfl, rfl⟩, ⟨rfl, rfl, rfl, rfl, rfl⟩, rfl⟩ := fly_zeros (e := 2) (by rw [hR, if_neg (fun h => h hE1), if_pos hE2])
        clear RS RE RC OP SQ MU SN CN DF AB DA DB PV0 PV1 PV2 CA CB SF hR t147 zt147 t148 t149 zt149 t150 t151 zt151 t152 t153 zt153 t154 t155 zt155 t156 cg31 zcg3 cg32
        go_wp2_with fail
        all_goals
          exact bodyPost_ret (v := .tuple #[.agg #[.int .i64 0, .int .i64 0, .int .i64 0, .int .i64 0, .int .i64 0, .int .i64 0, .int .i64 0, .int .i64 0, .int .i64 0, .int .i64 0], .int .i64 2]) (by simp [results, Try.results31, go_sem, *]) rfl ⟨rfl, by (repeat (with_reducible (first | assumption | exact Below.refl _ _ | refine Below.drew ?_ | refine below_drewN ?_ _ | refine below_set ?_ (by simp; try omega) _ | refine below_alloc ?_ (Nat.le_refl _) _ | refine below_sub (by assumption) ?_)))⟩
      by_cases hE3 : e3 = 0
      rotate_left
      · have tE : (e3 == 0) = false := by rw [beq_eq_false_iff_ne]; exact hE3
        have tE' : (e3 != 0) = true := by rw [bne_iff_ne]; exact hE3
        obtain ⟨⟨rfl, rfl, rfl, rfl, rfl⟩, ⟨rfl, rfl, rfl, rfl, rfl⟩, rfl⟩ := fly_zeros (e := 2) (by rw [hR, if_neg (fun h => h hE1), if_neg (fun h => h hE2), if_pos hE3])
        clear RS RE RC OP SQ MU SN CN DF AB DA DB PV0 PV1 PV2 CA CB SF hR t147 zt147 t148 t149 zt149 t150 t151 zt151 t152 t153 zt153 t154 t155 zt155 t156 cg31 zcg3 cg32
        go_wp2_with fail
        all_goals
          exact bodyPost_ret (v := .tuple #[.agg #[.int .i64 0, .int .i64 0, .int .i64 0, .int .i64 0, .int .i64 0, .int .i64 0, .int .i64 0, .int .i64 0, .int .i64 0, .int .i64 0], .int .i64 2]) (by simp [results, Try.results31, go_sem, *]) rfl ⟨rfl, by (repeat (with_reducible (first | assumption | exact Below.refl _ _ | refine Below.drew ?_ | refine below_drewN ?_ _ | refine below_set ?_ (by simp; try omega) _ | refine below_alloc ?_ (Nat.le_refl _) _ | refine below_sub (by assumption) ?_)))⟩
      rw [if_neg (fun h => h hE1), if_neg (fun h => h hE2), if_neg (fun h => h hE3)] at hR
      obtain ⟨⟨rfl, rfl, rfl, rfl, rfl⟩, ⟨rfl, rfl, rfl, rfl, rfl⟩, rfl⟩ := fly_eq hR.symm
      go_wp2_with fail
      go_region_held3 (fun w' => w'.cell? ⟨g3, 0, none⟩ = some (.int .i64 kx) ∧ w'.cell? ⟨g3, 1, none⟩ = some (.int .i64 ky))
        (go_keep)
        (first
          | (go_at_call 67; (with_reducible refine (SF _).mono ?_); rintro e w' ⟨rfl, rfl⟩))
      go_wp2_with fail
      all_goals
        clear RS RE RC OP SQ MU SN CN DF AB DA DB PV0 PV1 PV2 CA CB SF
        exact bodyPost_ret (v := .tuple #[.agg #[.int .i64 kx, .int .i64 ky, .int .i64 r, .int .i64 fr, .int .i64 d, .int .i64 sx, .int .i64 sy, .int .i64 ex, .int .i64 ey, .int .i64 l], .int .i64 0]) (by simp [results, Try.results31, go_sem, *]) rfl ⟨rfl, by (repeat (with_reducible (first | assumption | exact Below.refl _ _ | refine Below.drew ?_ | refine below_drewN ?_ _ | refine below_set ?_ (by simp; try omega) _ | refine below_alloc ?_ (Nat.le_refl _) _ | refine below_sub (by assumption) ?_)))⟩
set_option maxRecDepth 100000 in
set_option maxHeartbeats 4000000 in
theorem rfly_any (ax ay bx b_y cx cy r : Int) (hr : I64 r) (w : World) (v0 v1 v2 v3 v4 v5 v6 v7 v8 v9 e0 : Int) (hR : ([v0, v1, v2, v3, v4, v5, v6, v7, v8, v9], e0) = flyF ax ay bx b_y cx cy r) :
    Calls Try.prog 31 #[.agg #[.int .i64 ax, .int .i64 ay], .agg #[.int .i64 bx, .int .i64 b_y], .agg #[.int .i64 cx, .int .i64 cy], .int .i64 r] w fun e w' => e = .returned (.tuple #[.agg #[.int .i64 v0, .int .i64 v1, .int .i64 v2, .int .i64 v3, .int .i64 v4, .int .i64 v5, .int .i64 v6, .int .i64 v7, .int .i64 v8, .int .i64 v9], .int .i64 e0]) ∧ Below w.heap.size w w' := by
  rcases h0 : vldB ax ay with _ | _
  · have hN : (vldB ax ay && vldB bx b_y && vldB cx cy) = false := by rw [h0]; simp
    rw [fly_no hN] at hR
    obtain ⟨⟨rfl, rfl, rfl, rfl, rfl⟩, ⟨rfl, rfl, rfl, rfl, rfl⟩, rfl⟩ := fly_zeros hR
    have PV0 := fun W => rpvalid_d ax ay false h0 W
    clear hR hN h0
    go_enter Try.func31, Try.ntmps31
    go_wp2_with fail
    refine (PV0 _).mono ?_
    rintro e w1 ⟨rfl, hb1⟩
    obtain ⟨f1, f2, f3, f4, f5, f6⟩ : w1.cell? ⟨w.heap.size, 0, none⟩ = some (.int .i64 ax) ∧ w1.cell? ⟨w.heap.size, 1, none⟩ = some (.int .i64 ay) ∧ w1.cell? ⟨w.heap.size + 1, 0, none⟩ = some (.int .i64 bx) ∧ w1.cell? ⟨w.heap.size + 1, 1, none⟩ = some (.int .i64 b_y) ∧ w1.cell? ⟨w.heap.size + 1 + 1, 0, none⟩ = some (.int .i64 cx) ∧ w1.cell? ⟨w.heap.size + 1 + 1, 1, none⟩ = some (.int .i64 cy) := by
      refine ⟨?_, ?_, ?_, ?_, ?_, ?_⟩ <;> (refine cell_below hb1 ?_; repeat (first | (with_reducible assumption) | ((with_reducible refine cell_set ?_ ?_ _); (· first | (simp; done) | (simp; omega) | omega)) | ((with_reducible refine cell_new ?_ ?_); (· (simp; done)); (· rfl)) | (with_reducible refine cell_alloc ?_ _) | (with_reducible refine cell_drew ?_) | (with_reducible refine cell_drewN ?_ _) | (with_reducible refine cell_below (by assumption) ?_)))
    have zf1 : w.heap.size < w1.heap.size := World.block_lt_of_cell? _ _ f1
    have zf3 : w.heap.size + 1 < w1.heap.size := World.block_lt_of_cell? _ _ f3
    have zf5 : w.heap.size + 1 + 1 < w1.heap.size := World.block_lt_of_cell? _ _ f5
    obtain ⟨⟨m7a, m7b⟩, ⟨m8a, m8b⟩, ⟨m9a, m9b⟩, ⟨m10a, m10b⟩, ⟨m11a, m11b⟩, ⟨m12a, m12b⟩, ⟨m13a, m13b⟩, ⟨m14a, m14b⟩, ⟨m15a, m15b⟩, ⟨m16a, m16b⟩⟩ : MineC5r w1 (w.heap.size + 1 + 1 + 1) 0 ∧ MineC5r w1 (w.heap.size + 1 + 1 + 1) 1 ∧ MineC5r w1 (w.heap.size + 1 + 1 + 1) 2 ∧ MineC5r w1 (w.heap.size + 1 + 1 + 1) 3 ∧ MineC5r w1 (w.heap.size + 1 + 1 + 1) 4 ∧ MineC5r w1 (w.heap.size + 1 + 1 + 1) 5 ∧ MineC5r w1 (w.heap.size + 1 + 1 + 1) 6 ∧ MineC5r w1 (w.heap.size + 1 + 1 + 1) 7 ∧ MineC5r w1 (w.heap.size + 1 + 1 + 1) 8 ∧ MineC5r w1 (w.heap.size + 1 + 1 + 1) 9 := by
      refine ⟨?_, ?_, ?_, ?_, ?_, ?_, ?_, ?_, ?_, ?_⟩ <;> (refine mine_below hb1 (mine_of (v := .int .i64 0) ?_ ?_) <;> simp [go_sem])
    have zm7 : w.heap.size + 1 + 1 + 1 < w1.heap.size := World.block_lt_of_cell? _ _ m7a
    go_wp2_with fail
    all_goals
      exact bodyPost_ret (v := .tuple #[.agg #[.int .i64 0, .int .i64 0, .int .i64 0, .int .i64 0, .int .i64 0, .int .i64 0, .int .i64 0, .int .i64 0, .int .i64 0, .int .i64 0], .int .i64 1]) (by simp [results, Try.results31, go_sem, *]) rfl ⟨rfl, by (repeat (with_reducible (first | assumption | exact Below.refl _ _ | refine Below.drew ?_ | refine below_drewN ?_ _ | refine below_set ?_ (by simp; try omega) _ | refine below_alloc ?_ (Nat.le_refl _) _ | refine below_sub (by assumption) ?_)))⟩
  have PV0 := fun W => rpvalid_d ax ay true h0 W
  rcases h1 : vldB bx b_y with _ | _
  · have hN : (vldB ax ay && vldB bx b_y && vldB cx cy) = false := by rw [h0, h1]; simp
    rw [fly_no hN] at hR
    obtain ⟨⟨rfl, rfl, rfl, rfl, rfl⟩, ⟨rfl, rfl, rfl, rfl, rfl⟩, rfl⟩ := fly_zeros hR
    have PV1 := fun W => rpvalid_d bx b_y false h1 W
    clear hR hN h0 h1
    go_enter Try.func31, Try.ntmps31
    go_wp2_with fail
    refine (PV0 _).mono ?_
    rintro e w1 ⟨rfl, hb1⟩
    obtain ⟨f1, f2, f3, f4, f5, f6⟩ : w1.cell? ⟨w.heap.size, 0, none⟩ = some (.int .i64 ax) ∧ w1.cell? ⟨w.heap.size, 1, none⟩ = some (.int .i64 ay) ∧ w1.cell? ⟨w.heap.size + 1, 0, none⟩ = some (.int .i64 bx) ∧ w1.cell? ⟨w.heap.size + 1, 1, none⟩ = some (.int .i64 b_y) ∧ w1.cell? ⟨w.heap.size + 1 + 1, 0, none⟩ = some (.int .i64 cx) ∧ w1.cell? ⟨w.heap.size + 1 + 1, 1, none⟩ = some (.int .i64 cy) := by
      refine ⟨?_, ?_, ?_, ?_, ?_, ?_⟩ <;> (refine cell_below hb1 ?_; repeat (first | (with_reducible assumption) | ((with_reducible refine cell_set ?_ ?_ _); (· first | (simp; done) | (simp; omega) | omega)) | ((with_reducible refine cell_new ?_ ?_); (· (simp; done)); (· rfl)) | (with_reducible refine cell_alloc ?_ _) | (with_reducible refine cell_drew ?_) | (with_reducible refine cell_drewN ?_ _) | (with_reducible refine cell_below (by assumption) ?_)))
    have zf1 : w.heap.size < w1.heap.size := World.block_lt_of_cell? _ _ f1
    have zf3 : w.heap.size + 1 < w1.heap.size := World.block_lt_of_cell? _ _ f3
    have zf5 : w.heap.size + 1 + 1 < w1.heap.size := World.block_lt_of_cell? _ _ f5
    obtain ⟨⟨m7a, m7b⟩, ⟨m8a, m8b⟩, ⟨m9a, m9b⟩, ⟨m10a, m10b⟩, ⟨m11a, m11b⟩, ⟨m12a, m12b⟩, ⟨m13a, m13b⟩, ⟨m14a, m14b⟩, ⟨m15a, m15b⟩, ⟨m16a, m16b⟩⟩ : MineC5r w1 (w.heap.size + 1 + 1 + 1) 0 ∧ MineC5r w1 (w.heap.size + 1 + 1 + 1) 1 ∧ MineC5r w1 (w.heap.size + 1 + 1 + 1) 2 ∧ MineC5r w1 (w.heap.size + 1 + 1 + 1) 3 ∧ MineC5r w1 (w.heap.size + 1 + 1 + 1) 4 ∧ MineC5r w1 (w.heap.size + 1 + 1 + 1) 5 ∧ MineC5r w1 (w.heap.size + 1 + 1 + 1) 6 ∧ MineC5r w1 (w.heap.size + 1 + 1 + 1) 7 ∧ MineC5r w1 (w.heap.size + 1 + 1 + 1) 8 ∧ MineC5r w1 (w.heap.size + 1 + 1 + 1) 9 := by
      refine ⟨?_, ?_, ?_, ?_, ?_, ?_, ?_, ?_, ?_, ?_⟩ <;> (refine mine_below hb1 (mine_of (v := .int .i64 0) ?_ ?_) <;> simp [go_sem])
    have zm7 : w.heap.size + 1 + 1 + 1 < w1.heap.size := World.block_lt_of_cell? _ _ m7a
    go_wp2_with fail
    refine (PV1 _).mono ?_
    rintro e w2 ⟨rfl, hb2⟩
    obtain ⟨f17, f18, f19, f20, f21, f22⟩ : w2.cell? ⟨w.heap.size, 0, none⟩ = some (.int .i64 ax) ∧ w2.cell? ⟨w.heap.size, 1, none⟩ = some (.int .i64 ay) ∧ w2.cell? ⟨w.heap.size + 1, 0, none⟩ = some (.int .i64 bx) ∧ w2.cell? ⟨w.heap.size + 1, 1, none⟩ = some (.int .i64 b_y) ∧ w2.cell? ⟨w.heap.size + 1 + 1, 0, none⟩ = some (.int .i64 cx) ∧ w2.cell? ⟨w.heap.size + 1 + 1, 1, none⟩ = some (.int .i64 cy) := by
      refine ⟨?_, ?_, ?_, ?_, ?_, ?_⟩ <;> (refine cell_below hb2 ?_; repeat (first | (with_reducible assumption) | ((with_reducible refine cell_set ?_ ?_ _); (· first | (simp; done) | (simp; omega) | omega)) | ((with_reducible refine cell_new ?_ ?_); (· (simp; done)); (· rfl)) | (with_reducible refine cell_alloc ?_ _) | (with_reducible refine cell_drew ?_) | (with_reducible refine cell_drewN ?_ _) | (with_reducible refine cell_below (by assumption) ?_)))
    have zf17 : w.heap.size < w2.heap.size := World.block_lt_of_cell? _ _ f17
    have zf19 : w.heap.size + 1 < w2.heap.size := World.block_lt_of_cell? _ _ f19
    have zf21 : w.heap.size + 1 + 1 < w2.heap.size := World.block_lt_of_cell? _ _ f21
    obtain ⟨⟨m23a, m23b⟩, ⟨m24a, m24b⟩, ⟨m25a, m25b⟩, ⟨m26a, m26b⟩, ⟨m27a, m27b⟩, ⟨m28a, m28b⟩, ⟨m29a, m29b⟩, ⟨m30a, m30b⟩, ⟨m31a, m31b⟩, ⟨m32a, m32b⟩⟩ : MineC5r w2 (w.heap.size + 1 + 1 + 1) 0 ∧ MineC5r w2 (w.heap.size + 1 + 1 + 1) 1 ∧ MineC5r w2 (w.heap.size + 1 + 1 + 1) 2 ∧ MineC5r w2 (w.heap.size + 1 + 1 + 1) 3 ∧ MineC5r w2 (w.heap.size + 1 + 1 + 1) 4 ∧ MineC5r w2 (w.heap.size + 1 + 1 + 1) 5 ∧ MineC5r w2 (w.heap.size + 1 + 1 + 1) 6 ∧ MineC5r w2 (w.heap.size + 1 + 1 + 1) 7 ∧ MineC5r w2 (w.heap.size + 1 + 1 + 1) 8 ∧ MineC5r w2 (w.heap.size + 1 + 1 + 1) 9 := by
      refine ⟨?_, ?_, ?_, ?_, ?_, ?_, ?_, ?_, ?_, ?_⟩ <;> (refine mine_below hb2 ?_; repeat (first | (refine ⟨?_, ?_⟩ <;> (with_reducible assumption)) | (with_reducible refine mine_alloc ?_ _) | (with_reducible refine mine_set ?_ _ _) | (with_reducible refine mine_drew ?_) | (with_reducible refine mine_drewN ?_ _) | (with_reducible refine mine_below (by assumption) ?_)))
    have zm23 : w.heap.size + 1 + 1 + 1 < w2.heap.size := World.block_lt_of_cell? _ _ m23a
    clear f1 zf1 f2 f3 zf3 f4 f5 zf5 f6 m7a m7b zm7 m8a m8b m9a m9b m10a m10b m11a m11b m12a m12b m13a m13b m14a m14b m15a m15b m16a m16b
    go_wp2_with fail
    all_goals
      exact bodyPost_ret (v := .tuple #[.agg #[.int .i64 0, .int .i64 0, .int .i64 0, .int .i64 0, .int .i64 0, .int .i64 0, .int .i64 0, .int .i64 0, .int .i64 0, .int .i64 0], .int .i64 1]) (by simp [results, Try.results31, go_sem, *]) rfl ⟨rfl, by (repeat (with_reducible (first | assumption | exact Below.refl _ _ | refine Below.drew ?_ | refine below_drewN ?_ _ | refine below_set ?_ (by simp; try omega) _ | refine below_alloc ?_ (Nat.le_refl _) _ | refine below_sub (by assumption) ?_)))⟩
  have PV1 := fun W => rpvalid_d bx b_y true h1 W
  rcases h2 : vldB cx cy with _ | _
  · have hN : (vldB ax ay && vldB bx b_y && vldB cx cy) = false := by rw [h0, h1, h2]; simp
    rw [fly_no hN] at hR
    obtain ⟨⟨rfl, rfl, rfl, rfl, rfl⟩, ⟨rfl, rfl, rfl, rfl, rfl⟩, rfl⟩ := fly_zeros hR
    have PV2 := fun W => rpvalid_d cx cy false h2 W
    clear hR hN h0 h1 h2
    go_enter Try.func31, Try.ntmps31
    go_wp2_with fail
    refine (PV0 _).mono ?_
    rintro e w1 ⟨rfl, hb1⟩
    obtain ⟨f1, f2, f3, f4, f5, f6⟩ : w1.cell? ⟨w.heap.size, 0, none⟩ = some (.int .i64 ax) ∧ w1.cell? ⟨w.heap.size, 1, none⟩ = some (.int .i64 ay) ∧ w1.cell? ⟨w.heap.size + 1, 0, none⟩ = some (.int .i64 bx) ∧ w1.cell? ⟨w.heap.size + 1, 1, none⟩ = some (.int .i64 b_y) ∧ w1.cell? ⟨w.heap.size + 1 + 1, 0, none⟩ = some (.int .i64 cx) ∧ w1.cell? ⟨w.heap.size + 1 + 1, 1, none⟩ = some (.int .i64 cy) := by
      refine ⟨?_, ?_, ?_, ?_, ?_, ?_⟩ <;> (refine cell_below hb1 ?_; repeat (first | (with_reducible assumption) | ((with_reducible refine cell_set ?_ ?_ _); (· first | (simp; done) | (simp; omega) | omega)) | ((with_reducible refine cell_new ?_ ?_); (· (simp; done)); (· rfl)) | (with_reducible refine cell_alloc ?_ _) | (with_reducible refine cell_drew ?_) | (with_reducible refine cell_drewN ?_ _) | (with_reducible refine cell_below (by assumption) ?_)))
    have zf1 : w.heap.size < w1.heap.size := World.block_lt_of_cell? _ _ f1
    have zf3 : w.heap.size + 1 < w1.heap.size := World.block_lt_of_cell? _ _ f3
    have zf5 : w.heap.size + 1 + 1 < w1.heap.size := World.block_lt_of_cell? _ _ f5
    obtain ⟨⟨m7a, m7b⟩, ⟨m8a, m8b⟩, ⟨m9a, m9b⟩, ⟨m10a, m10b⟩, ⟨m11a, m11b⟩, ⟨m12a, m12b⟩, ⟨m13a, m13b⟩, ⟨m14a, m14b⟩, ⟨m15a, m15b⟩, ⟨m16a, m16b⟩⟩ : MineC5r w1 (w.heap.size + 1 + 1 + 1) 0 ∧ MineC5r w1 (w.heap.size + 1 + 1 + 1) 1 ∧ MineC5r w1 (w.heap.size + 1 + 1 + 1) 2 ∧ MineC5r w1 (w.heap.size + 1 + 1 + 1) 3 ∧ MineC5r w1 (w.heap.size + 1 + 1 + 1) 4 ∧ MineC5r w1 (w.heap.size + 1 + 1 + 1) 5 ∧ MineC5r w1 (w.heap.size + 1 + 1 + 1) 6 ∧ MineC5r w1 (w.heap.size + 1 + 1 + 1) 7 ∧ MineC5r w1 (w.heap.size + 1 + 1 + 1) 8 ∧ MineC5r w1 (w.heap.size + 1 + 1 + 1) 9 := by
      refine ⟨?_, ?_, ?_, ?_, ?_, ?_, ?_, ?_, ?_, ?_⟩ <;> (refine mine_below hb1 (mine_of (v := .int .i64 0) ?_ ?_) <;> simp [go_sem])
    have zm7 : w.heap.size + 1 + 1 + 1 < w1.heap.size := World.block_lt_of_cell? _ _ m7a
    go_wp2_with fail
    refine (PV1 _).mono ?_
    rintro e w2 ⟨rfl, hb2⟩
    obtain ⟨f17, f18, f19, f20, f21, f22⟩ : w2.cell? ⟨w.heap.size, 0, none⟩ = some (.int .i64 ax) ∧ w2.cell? ⟨w.heap.size, 1, none⟩ = some (.int .i64 ay) ∧ w2.cell? ⟨w.heap.size + 1, 0, none⟩ = some (.int .i64 bx) ∧ w2.cell? ⟨w.heap.size + 1, 1, none⟩ = some (.int .i64 b_y) ∧ w2.cell? ⟨w.heap.size + 1 + 1, 0, none⟩ = some (.int .i64 cx) ∧ w2.cell? ⟨w.heap.size + 1 + 1, 1, none⟩ = some (.int .i64 cy) := by
      refine ⟨?_, ?_, ?_, ?_, ?_, ?_⟩ <;> (refine cell_below hb2 ?_; repeat (first | (with_reducible assumption) | ((with_reducible refine cell_set ?_ ?_ _); (· first | (simp; done) | (simp; omega) | omega)) | ((with_reducible refine cell_new ?_ ?_); (· (simp; done)); (· rfl)) | (with_reducible refine cell_alloc ?_ _) | (with_reducible refine cell_drew ?_) | (with_reducible refine cell_drewN ?_ _) | (with_reducible refine cell_below (by assumption) ?_)))
    have zf17 : w.heap.size < w2.heap.size := World.block_lt_of_cell? _ _ f17
    have zf19 : w.heap.size + 1 < w2.heap.size := World.block_lt_of_cell? _ _ f19
    have zf21 : w.heap.size + 1 + 1 < w2.heap.size := World.block_lt_of_cell? _ _ f21
    obtain ⟨⟨m23a, m23b⟩, ⟨m24a, m24b⟩, ⟨m25a, m25b⟩, ⟨m26a, m26b⟩, ⟨m27a, m27b⟩, ⟨m28a, m28b⟩, ⟨m29a, m29b⟩, ⟨m30a, m30b⟩, ⟨m31a, m31b⟩, ⟨m32a, m32b⟩⟩ : MineC5r w2 (w.heap.size + 1 + 1 + 1) 0 ∧ MineC5r w2 (w.heap.size + 1 + 1 + 1) 1 ∧ MineC5r w2 (w.heap.size + 1 + 1 + 1) 2 ∧ MineC5r w2 (w.heap.size + 1 + 1 + 1) 3 ∧ MineC5r w2 (w.heap.size + 1 + 1 + 1) 4 ∧ MineC5r w2 (w.heap.size + 1 + 1 + 1) 5 ∧ MineC5r w2 (w.heap.size + 1 + 1 + 1) 6 ∧ MineC5r w2 (w.heap.size + 1 + 1 + 1) 7 ∧ MineC5r w2 (w.heap.size + 1 + 1 + 1) 8 ∧ MineC5r w2 (w.heap.size + 1 + 1 + 1) 9 := by
      refine ⟨?_, ?_, ?_, ?_, ?_, ?_, ?_, ?_, ?_, ?_⟩ <;> (refine mine_below hb2 ?_; repeat (first | (refine ⟨?_, ?_⟩ <;> (with_reducible assumption)) | (with_reducible refine mine_alloc ?_ _) | (with_reducible refine mine_set ?_ _ _) | (with_reducible refine mine_drew ?_) | (with_reducible refine mine_drewN ?_ _) | (with_reducible refine mine_below (by assumption) ?_)))
    have zm23 : w.heap.size + 1 + 1 + 1 < w2.heap.size := World.block_lt_of_cell? _ _ m23a
    clear f1 zf1 f2 f3 zf3 f4 f5 zf5 f6 m7a m7b zm7 m8a m8b m9a m9b m10a m10b m11a m11b m12a m12b m13a m13b m14a m14b m15a m15b m16a m16b
    go_wp2_with fail
    refine (PV2 _).mono ?_
    rintro e w3 ⟨rfl, hb3⟩
    obtain ⟨f33, f34, f35, f36, f37, f38⟩ : w3.cell? ⟨w.heap.size, 0, none⟩ = some (.int .i64 ax) ∧ w3.cell? ⟨w.heap.size, 1, none⟩ = some (.int .i64 ay) ∧ w3.cell? ⟨w.heap.size + 1, 0, none⟩ = some (.int .i64 bx) ∧ w3.cell? ⟨w.heap.size + 1, 1, none⟩ = some (.int .i64 b_y) ∧ w3.cell? ⟨w.heap.size + 1 + 1, 0, none⟩ = some (.int .i64 cx) ∧ w3.cell? ⟨w.heap.size + 1 + 1, 1, none⟩ = some (.int .i64 cy) := by
      refine ⟨?_, ?_, ?_, ?_, ?_, ?_⟩ <;> (refine cell_below hb3 ?_; repeat (first | (with_reducible assumption) | ((with_reducible refine cell_set ?_ ?_ _); (· first | (simp; done) | (simp; omega) | omega)) | ((with_reducible refine cell_new ?_ ?_); (· (simp; done)); (· rfl)) | (with_reducible refine cell_alloc ?_ _) | (with_reducible refine cell_drew ?_) | (with_reducible refine cell_drewN ?_ _) | (with_reducible refine cell_below (by assumption) ?_)))
    have zf33 : w.heap.size < w3.heap.size := World.block_lt_of_cell? _ _ f33
    have zf35 : w.heap.size + 1 < w3.heap.size := World.block_lt_of_cell? _ _ f35
    have zf37 : w.heap.size + 1 + 1 < w3.heap.size := World.block_lt_of_cell? _ _ f37
    obtain ⟨⟨m39a, m39b⟩, ⟨m40a, m40b⟩, ⟨m41a, m41b⟩, ⟨m42a, m42b⟩, ⟨m43a, m43b⟩, ⟨m44a, m44b⟩, ⟨m45a, m45b⟩, ⟨m46a, m46b⟩, ⟨m47a, m47b⟩, ⟨m48a, m48b⟩⟩ : MineC5r w3 (w.heap.size + 1 + 1 + 1) 0 ∧ MineC5r w3 (w.heap.size + 1 + 1 + 1) 1 ∧ MineC5r w3 (w.heap.size + 1 + 1 + 1) 2 ∧ MineC5r w3 (w.heap.size + 1 + 1 + 1) 3 ∧ MineC5r w3 (w.heap.size + 1 + 1 + 1) 4 ∧ MineC5r w3 (w.heap.size + 1 + 1 + 1) 5 ∧ MineC5r w3 (w.heap.size + 1 + 1 + 1) 6 ∧ MineC5r w3 (w.heap.size + 1 + 1 + 1) 7 ∧ MineC5r w3 (w.heap.size + 1 + 1 + 1) 8 ∧ MineC5r w3 (w.heap.size + 1 + 1 + 1) 9 := by
      refine ⟨?_, ?_, ?_, ?_, ?_, ?_, ?_, ?_, ?_, ?_⟩ <;> (refine mine_below hb3 ?_; repeat (first | (refine ⟨?_, ?_⟩ <;> (with_reducible assumption)) | (with_reducible refine mine_alloc ?_ _) | (with_reducible refine mine_set ?_ _ _) | (with_reducible refine mine_drew ?_) | (with_reducible refine mine_drewN ?_ _) | (with_reducible refine mine_below (by assumption) ?_)))
    have zm39 : w.heap.size + 1 + 1 + 1 < w3.heap.size := World.block_lt_of_cell? _ _ m39a
    clear f17 zf17 f18 f19 zf19 f20 f21 zf21 f22 m23a m23b zm23 m24a m24b m25a m25b m26a m26b m27a m27b m28a m28b m29a m29b m30a m30b m31a m31b m32a m32b
    go_wp2_with fail
    all_goals
      exact bodyPost_ret (v := .tuple #[.agg #[.int .i64 0, .int .i64 0, .int .i64 0, .int .i64 0, .int .i64 0, .int .i64 0, .int .i64 0, .int .i64 0, .int .i64 0, .int .i64 0], .int .i64 1]) (by simp [results, Try.results31, go_sem, *]) rfl ⟨rfl, by (repeat (with_reducible (first | assumption | exact Below.refl _ _ | refine Below.drew ?_ | refine below_drewN ?_ _ | refine below_set ?_ (by simp; try omega) _ | refine below_alloc ?_ (Nat.le_refl _) _ | refine below_sub (by assumption) ?_)))⟩
  have PV2 := fun W => rpvalid_d cx cy true h2 W
  have hN : (vldB ax ay && vldB bx b_y && vldB cx cy) = true := by rw [h0, h1, h2]; rfl
  by_cases h3 : r < 1 ∨ r > 8000000
  · rw [fly_rng hN h3] at hR
    obtain ⟨⟨rfl, rfl, rfl, rfl, rfl⟩, ⟨rfl, rfl, rfl, rfl, rfl⟩, rfl⟩ := fly_zeros hR
    clear hR hN h0 h1 h2
    rcases h3 with h3 | h3
    all_goals
      go_enter Try.func31, Try.ntmps31
      go_wp2_with fail
      refine (PV0 _).mono ?_
      rintro e w1 ⟨rfl, hb1⟩
      obtain ⟨f1, f2, f3, f4, f5, f6⟩ : w1.cell? ⟨w.heap.size, 0, none⟩ = some (.int .i64 ax) ∧ w1.cell? ⟨w.heap.size, 1, none⟩ = some (.int .i64 ay) ∧ w1.cell? ⟨w.heap.size + 1, 0, none⟩ = some (.int .i64 bx) ∧ w1.cell? ⟨w.heap.size + 1, 1, none⟩ = some (.int .i64 b_y) ∧ w1.cell? ⟨w.heap.size + 1 + 1, 0, none⟩ = some (.int .i64 cx) ∧ w1.cell? ⟨w.heap.size + 1 + 1, 1, none⟩ = some (.int .i64 cy) := by
        refine ⟨?_, ?_, ?_, ?_, ?_, ?_⟩ <;> (refine cell_below hb1 ?_; repeat (first | (with_reducible assumption) | ((with_reducible refine cell_set ?_ ?_ _); (· first | (simp; done) | (simp; omega) | omega)) | ((with_reducible refine cell_new ?_ ?_); (· (simp; done)); (· rfl)) | (with_reducible refine cell_alloc ?_ _) | (with_reducible refine cell_drew ?_) | (with_reducible refine cell_drewN ?_ _) | (with_reducible refine cell_below (by assumption) ?_)))
      have zf1 : w.heap.size < w1.heap.size := World.block_lt_of_cell? _ _ f1
      have zf3 : w.heap.size + 1 < w1.heap.size := World.block_lt_of_cell? _ _ f3
      have zf5 : w.heap.size + 1 + 1 < w1.heap.size := World.block_lt_of_cell? _ _ f5
      obtain ⟨⟨m7a, m7b⟩, ⟨m8a, m8b⟩, ⟨m9a, m9b⟩, ⟨m10a, m10b⟩, ⟨m11a, m11b⟩, ⟨m12a, m12b⟩, ⟨m13a, m13b⟩, ⟨m14a, m14b⟩, ⟨m15a, m15b⟩, ⟨m16a, m16b⟩⟩ : MineC5r w1 (w.heap.size + 1 + 1 + 1) 0 ∧ MineC5r w1 (w.heap.size + 1 + 1 + 1) 1 ∧ MineC5r w1 (w.heap.size + 1 + 1 + 1) 2 ∧ MineC5r w1 (w.heap.size + 1 + 1 + 1) 3 ∧ MineC5r w1 (w.heap.size + 1 + 1 + 1) 4 ∧ MineC5r w1 (w.heap.size + 1 + 1 + 1) 5 ∧ MineC5r w1 (w.heap.size + 1 + 1 + 1) 6 ∧ MineC5r w1 (w.heap.size + 1 + 1 + 1) 7 ∧ MineC5r w1 (w.heap.size + 1 + 1 + 1) 8 ∧ MineC5r w1 (w.heap.size + 1 + 1 + 1) 9 := by
        refine ⟨?_, ?_, ?_, ?_, ?_, ?_, ?_, ?_, ?_, ?_⟩ <;> (refine mine_below hb1 (mine_of (v := .int .i64 0) ?_ ?_) <;> simp [go_sem])
      have zm7 : w.heap.size + 1 + 1 + 1 < w1.heap.size := World.block_lt_of_cell? _ _ m7a
      go_wp2_with fail
      refine (PV1 _).mono ?_
      rintro e w2 ⟨rfl, hb2⟩
      obtain ⟨f17, f18, f19, f20, f21, f22⟩ : w2.cell? ⟨w.heap.size, 0, none⟩ = some (.int .i64 ax) ∧ w2.cell? ⟨w.heap.size, 1, none⟩ = some (.int .i64 ay) ∧ w2.cell? ⟨w.heap.size + 1, 0, none⟩ = some (.int .i64 bx) ∧ w2.cell? ⟨w.heap.size + 1, 1, none⟩ = some (.int .i64 b_y) ∧ w2.cell? ⟨w.heap.size + 1 + 1, 0, none⟩ = some (.int .i64 cx) ∧ w2.cell? ⟨w.heap.size + 1 + 1, 1, none⟩ = some (.int .i64 cy) := by
        refine ⟨?_, ?_, ?_, ?_, ?_, ?_⟩ <;> (refine cell_below hb2 ?_; repeat (first | (with_reducible assumption) | ((with_reducible refine cell_set ?_ ?_ _); (· first | (simp; done) | (simp; omega) | omega)) | ((with_reducible refine cell_new ?_ ?_); (· (simp; done)); (· rfl)) | (with_reducible refine cell_alloc ?_ _) | (with_reducible refine cell_drew ?_) | (with_reducible refine cell_drewN ?_ _) | (with_reducible refine cell_below (by assumption) ?_)))
      have zf17 : w.heap.size < w2.heap.size := World.block_lt_of_cell? _ _ f17
      have zf19 : w.heap.size + 1 < w2.heap.size := World.block_lt_of_cell? _ _ f19
      have zf21 : w.heap.size + 1 + 1 < w2.heap.size := World.block_lt_of_cell? _ _ f21
      obtain ⟨⟨m23a, m23b⟩, ⟨m24a, m24b⟩, ⟨m25a, m25b⟩, ⟨m26a, m26b⟩, ⟨m27a, m27b⟩, ⟨m28a, m28b⟩, ⟨m29a, m29b⟩, ⟨m30a, m30b⟩, ⟨m31a, m31b⟩, ⟨m32a, m32b⟩⟩ : MineC5r w2 (w.heap.size + 1 + 1 + 1) 0 ∧ MineC5r w2 (w.heap.size + 1 + 1 + 1) 1 ∧ MineC5r w2 (w.heap.size + 1 + 1 + 1) 2 ∧ MineC5r w2 (w.heap.size + 1 + 1 + 1) 3 ∧ MineC5r w2 (w.heap.size + 1 + 1 + 1) 4 ∧ MineC5r w2 (w.heap.size + 1 + 1 + 1) 5 ∧ MineC5r w2 (w.heap.size + 1 + 1 + 1) 6 ∧ MineC5r w2 (w.heap.size + 1 + 1 + 1) 7 ∧ MineC5r w2 (w.heap.size + 1 + 1 + 1) 8 ∧ MineC5r w2 (w.heap.size + 1 + 1 + 1) 9 := by
        refine ⟨?_, ?_, ?_, ?_, ?_, ?_, ?_, ?_, ?_, ?_⟩ <;> (refine mine_below hb2 ?_; repeat (first | (refine ⟨?_, ?_⟩ <;> (with_reducible assumption)) | (with_reducible refine mine_alloc ?_ _) | (with_reducible refine mine_set ?_ _ _) | (with_reducible refine mine_drew ?_) | (with_reducible refine mine_drewN ?_ _) | (with_reducible refine mine_below (by assumption) ?_)))
      have zm23 : w.heap.size + 1 + 1 + 1 < w2.heap.size := World.block_lt_of_cell? _ _ m23a
      clear f1 zf1 f2 f3 zf3 f4 f5 zf5 f6 m7a m7b zm7 m8a m8b m9a m9b m10a m10b m11a m11b m12a m12b m13a m13b m14a m14b m15a m15b m16a m16b
      go_wp2_with fail
      refine (PV2 _).mono ?_
      rintro e w3 ⟨rfl, hb3⟩
      obtain ⟨f33, f34, f35, f36, f37, f38⟩ : w3.cell? ⟨w.heap.size, 0, none⟩ = some (.int .i64 ax) ∧ w3.cell? ⟨w.heap.size, 1, none⟩ = some (.int .i64 ay) ∧ w3.cell? ⟨w.heap.size + 1, 0, none⟩ = some (.int .i64 bx) ∧ w3.cell? ⟨w.heap.size + 1, 1, none⟩ = some (.int .i64 b_y) ∧ w3.cell? ⟨w.heap.size + 1 + 1, 0, none⟩ = some (.int .i64 cx) ∧ w3.cell? ⟨w.heap.size + 1 + 1, 1, none⟩ = some (.int .i64 cy) := by
        refine ⟨?_, ?_, ?_, ?_, ?_, ?_⟩ <;> (refine cell_below hb3 ?_; repeat (first | (with_reducible assumption) | ((with_reducible refine cell_set ?_ ?_ _); (· first | (simp; done) | (simp; omega) | omega)) | ((with_reducible refine cell_new ?_ ?_); (· (simp; done)); (· rfl)) | (with_reducible refine cell_alloc ?_ _) | (with_reducible refine cell_drew ?_) | (with_reducible refine cell_drewN ?_ _) | (with_reducible refine cell_below (by assumption) ?_)))
      have zf33 : w.heap.size < w3.heap.size := World.block_lt_of_cell? _ _ f33
      have zf35 : w.heap.size + 1 < w3.heap.size := World.block_lt_of_cell? _ _ f35
      have zf37 : w.heap.size + 1 + 1 < w3.heap.size := World.block_lt_of_cell? _ _ f37
      obtain ⟨⟨m39a, m39b⟩, ⟨m40a, m40b⟩, ⟨m41a, m41b⟩, ⟨m42a, m42b⟩, ⟨m43a, m43b⟩, ⟨m44a, m44b⟩, ⟨m45a, m45b⟩, ⟨m46a, m46b⟩, ⟨m47a, m47b⟩, ⟨m48a, m48b⟩⟩ : MineC5r w3 (w.heap.size + 1 + 1 + 1) 0 ∧ MineC5r w3 (w.heap.size + 1 + 1 + 1) 1 ∧ MineC5r w3 (w.heap.size + 1 + 1 + 1) 2 ∧ MineC5r w3 (w.heap.size + 1 + 1 + 1) 3 ∧ MineC5r w3 (w.heap.size + 1 + 1 + 1) 4 ∧ MineC5r w3 (w.heap.size + 1 + 1 + 1) 5 ∧ MineC5r w3 (w.heap.size + 1 + 1 + 1) 6 ∧ MineC5r w3 (w.heap.size + 1 + 1 + 1) 7 ∧ MineC5r w3 (w.heap.size + 1 + 1 + 1) 8 ∧ MineC5r w3 (w.heap.size + 1 + 1 + 1) 9 := by
        refine ⟨?_, ?_, ?_, ?_, ?_, ?_, ?_, ?_, ?_, ?_⟩ <;> (refine mine_below hb3 ?_; repeat (first | (refine ⟨?_, ?_⟩ <;> (with_reducible assumption)) | (with_reducible refine mine_alloc ?_ _) | (with_reducible refine mine_set ?_ _ _) | (with_reducible refine mine_drew ?_) | (with_reducible refine mine_drewN ?_ _) | (with_reducible refine mine_below (by assumption) ?_)))
      have zm39 : w.heap.size + 1 + 1 + 1 < w3.heap.size := World.block_lt_of_cell? _ _ m39a
      clear f17 zf17 f18 f19 zf19 f20 f21 zf21 f22 m23a m23b zm23 m24a m24b m25a m25b m26a m26b m27a m27b m28a m28b m29a m29b m30a m30b m31a m31b m32a m32b
      go_wp2_with fail
      all_goals
        exact bodyPost_ret (v := .tuple #[.agg #[.int .i64 0, .int .i64 0, .int .i64 0, .int .i64 0, .int .i64 0, .int .i64 0, .int .i64 0, .int .i64 0, .int .i64 0, .int .i64 0], .int .i64 2]) (by simp [results, Try.results31, go_sem, *]) rfl ⟨rfl, by (repeat (with_reducible (first | assumption | exact Below.refl _ _ | refine Below.drew ?_ | refine below_drewN ?_ _ | refine below_set ?_ (by simp; try omega) _ | refine below_alloc ?_ (Nat.le_refl _) _ | refine below_sub (by assumption) ?_)))⟩
  have CA := fun W => rcourse_any ax ay bx b_y W
  have CB := fun W => rcourse_any bx b_y cx cy W
  by_cases h4 : ax = bx ∧ ay = b_y
  · rw [fly_same hN h3 (.inl h4)] at hR
    obtain ⟨⟨rfl, rfl, rfl, rfl, rfl⟩, ⟨rfl, rfl, rfl, rfl, rfl⟩, rfl⟩ := fly_zeros hR
    rw [course_same h0 h1 h4] at CA
    have ub := courseF_bd bx b_y cx cy
    have DF := fun W => rdiff_any 0 (courseF bx b_y cx cy).1 (by unfold I64; omega) (by unfold I64; omega) W
    have dd := diffF_bd 0 (courseF bx b_y cx cy).1
    generalize diffF 0 (courseF bx b_y cx cy).1 = d at *
    have AB := fun W => rsz_any d (by omega) (by omega) W
    clear hR hN h0 h1 h2 h4
    have ub := courseF_bd bx b_y cx cy
    generalize (courseF bx b_y cx cy).1 = u at *
    generalize (courseF bx b_y cx cy).2 = ue at *
    · skip
      go_enter Try.func31, Try.ntmps31
      go_wp2_with fail
      refine (PV0 _).mono ?_
      rintro e w1 ⟨rfl, hb1⟩
      obtain ⟨f1, f2, f3, f4, f5, f6⟩ : w1.cell? ⟨w.heap.size, 0, none⟩ = some (.int .i64 ax) ∧ w1.cell? ⟨w.heap.size, 1, none⟩ = some (.int .i64 ay) ∧ w1.cell? ⟨w.heap.size + 1, 0, none⟩ = some (.int .i64 bx) ∧ w1.cell? ⟨w.heap.size + 1, 1, none⟩ = some (.int .i64 b_y) ∧ w1.cell? ⟨w.heap.size + 1 + 1, 0, none⟩ = some (.int .i64 cx) ∧ w1.cell? ⟨w.heap.size + 1 + 1, 1, none⟩ = some (.int .i64 cy) := by
        refine ⟨?_, ?_, ?_, ?_, ?_, ?_⟩ <;> (refine cell_below hb1 ?_; repeat (first | (with_reducible assumption) | ((with_reducible refine cell_set ?_ ?_ _); (· first | (simp; done) | (simp; omega) | omega)) | ((with_reducible refine cell_new ?_ ?_); (· (simp; done)); (· rfl)) | (with_reducible refine cell_alloc ?_ _) | (with_reducible refine cell_drew ?_) | (with_reducible refine cell_drewN ?_ _) | (with_reducible refine cell_below (by assumption) ?_)))
      have zf1 : w.heap.size < w1.heap.size := World.block_lt_of_cell? _ _ f1
      have zf3 : w.heap.size + 1 < w1.heap.size := World.block_lt_of_cell? _ _ f3
      have zf5 : w.heap.size + 1 + 1 < w1.heap.size := World.block_lt_of_cell? _ _ f5
      obtain ⟨⟨m7a, m7b⟩, ⟨m8a, m8b⟩, ⟨m9a, m9b⟩, ⟨m10a, m10b⟩, ⟨m11a, m11b⟩, ⟨m12a, m12b⟩, ⟨m13a, m13b⟩, ⟨m14a, m14b⟩, ⟨m15a, m15b⟩, ⟨m16a, m16b⟩⟩ : MineC5r w1 (w.heap.size + 1 + 1 + 1) 0 ∧ MineC5r w1 (w.heap.size + 1 + 1 + 1) 1 ∧ MineC5r w1 (w.heap.size + 1 + 1 + 1) 2 ∧ MineC5r w1 (w.heap.size + 1 + 1 + 1) 3 ∧ MineC5r w1 (w.heap.size + 1 + 1 + 1) 4 ∧ MineC5r w1 (w.heap.size + 1 + 1 + 1) 5 ∧ MineC5r w1 (w.heap.size + 1 + 1 + 1) 6 ∧ MineC5r w1 (w.heap.size + 1 + 1 + 1) 7 ∧ MineC5r w1 (w.heap.size + 1 + 1 + 1) 8 ∧ MineC5r w1 (w.heap.size + 1 + 1 + 1) 9 := by
        refine ⟨?_, ?_, ?_, ?_, ?_, ?_, ?_, ?_, ?_, ?_⟩ <;> (refine mine_below hb1 (mine_of (v := .int .i64 0) ?_ ?_) <;> simp [go_sem])
      have zm7 : w.heap.size + 1 + 1 + 1 < w1.heap.size := World.block_lt_of_cell? _ _ m7a
      go_wp2_with fail
      refine (PV1 _).mono ?_
      rintro e w2 ⟨rfl, hb2⟩
      obtain ⟨f17, f18, f19, f20, f21, f22⟩ : w2.cell? ⟨w.heap.size, 0, none⟩ = some (.int .i64 ax) ∧ w2.cell? ⟨w.heap.size, 1, none⟩ = some (.int .i64 ay) ∧ w2.cell? ⟨w.heap.size + 1, 0, none⟩ = some (.int .i64 bx) ∧ w2.cell? ⟨w.heap.size + 1, 1, none⟩ = some (.int .i64 b_y) ∧ w2.cell? ⟨w.heap.size + 1 + 1, 0, none⟩ = some (.int .i64 cx) ∧ w2.cell? ⟨w.heap.size + 1 + 1, 1, none⟩ = some (.int .i64 cy) := by
        refine ⟨?_, ?_, ?_, ?_, ?_, ?_⟩ <;> (refine cell_below hb2 ?_; repeat (first | (with_reducible assumption) | ((with_reducible refine cell_set ?_ ?_ _); (· first | (simp; done) | (simp; omega) | omega)) | ((with_reducible refine cell_new ?_ ?_); (· (simp; done)); (· rfl)) | (with_reducible refine cell_alloc ?_ _) | (with_reducible refine cell_drew ?_) | (with_reducible refine cell_drewN ?_ _) | (with_reducible refine cell_below (by assumption) ?_)))
      have zf17 : w.heap.size < w2.heap.size := World.block_lt_of_cell? _ _ f17
      have zf19 : w.heap.size + 1 < w2.heap.size := World.block_lt_of_cell? _ _ f19
      have zf21 : w.heap.size + 1 + 1 < w2.heap.size := World.block_lt_of_cell? _ _ f21
      obtain ⟨⟨m23a, m23b⟩, ⟨m24a, m24b⟩, ⟨m25a, m25b⟩, ⟨m26a, m26b⟩, ⟨m27a, m27b⟩, ⟨m28a, m28b⟩, ⟨m29a, m29b⟩, ⟨m30a, m30b⟩, ⟨m31a, m31b⟩, ⟨m32a, m32b⟩⟩ : MineC5r w2 (w.heap.size + 1 + 1 + 1) 0 ∧ MineC5r w2 (w.heap.size + 1 + 1 + 1) 1 ∧ MineC5r w2 (w.heap.size + 1 + 1 + 1) 2 ∧ MineC5r w2 (w.heap.size + 1 + 1 + 1) 3 ∧ MineC5r w2 (w.heap.size + 1 + 1 + 1) 4 ∧ MineC5r w2 (w.heap.size + 1 + 1 + 1) 5 ∧ MineC5r w2 (w.heap.size + 1 + 1 + 1) 6 ∧ MineC5r w2 (w.heap.size + 1 + 1 + 1) 7 ∧ MineC5r w2 (w.heap.size + 1 + 1 + 1) 8 ∧ MineC5r w2 (w.heap.size + 1 + 1 + 1) 9 := by
        refine ⟨?_, ?_, ?_, ?_, ?_, ?_, ?_, ?_, ?_, ?_⟩ <;> (refine mine_below hb2 ?_; repeat (first | (refine ⟨?_, ?_⟩ <;> (with_reducible assumption)) | (with_reducible refine mine_alloc ?_ _) | (with_reducible refine mine_set ?_ _ _) | (with_reducible refine mine_drew ?_) | (with_reducible refine mine_drewN ?_ _) | (with_reducible refine mine_below (by assumption) ?_)))
      have zm23 : w.heap.size + 1 + 1 + 1 < w2.heap.size := World.block_lt_of_cell? _ _ m23a
      clear f1 zf1 f2 f3 zf3 f4 f5 zf5 f6 m7a m7b zm7 m8a m8b m9a m9b m10a m10b m11a m11b m12a m12b m13a m13b m14a m14b m15a m15b m16a m16b
      go_wp2_with fail
      refine (PV2 _).mono ?_
      rintro e w3 ⟨rfl, hb3⟩
      obtain ⟨f33, f34, f35, f36, f37, f38⟩ : w3.cell? ⟨w.heap.size, 0, none⟩ = some (.int .i64 ax) ∧ w3.cell? ⟨w.heap.size, 1, none⟩ = some (.int .i64 ay) ∧ w3.cell? ⟨w.heap.size + 1, 0, none⟩ = some (.int .i64 bx) ∧ w3.cell? ⟨w.heap.size + 1, 1, none⟩ = some (.int .i64 b_y) ∧ w3.cell? ⟨w.heap.size + 1 + 1, 0, none⟩ = some (.int .i64 cx) ∧ w3.cell? ⟨w.heap.size + 1 + 1, 1, none⟩ = some (.int .i64 cy) := by
        refine ⟨?_, ?_, ?_, ?_, ?_, ?_⟩ <;> (refine cell_below hb3 ?_; repeat (first | (with_reducible assumption) | ((with_reducible refine cell_set ?_ ?_ _); (· first | (simp; done) | (simp; omega) | omega)) | ((with_reducible refine cell_new ?_ ?_); (· (simp; done)); (· rfl)) | (with_reducible refine cell_alloc ?_ _) | (with_reducible refine cell_drew ?_) | (with_reducible refine cell_drewN ?_ _) | (with_reducible refine cell_below (by assumption) ?_)))
      have zf33 : w.heap.size < w3.heap.size := World.block_lt_of_cell? _ _ f33
      have zf35 : w.heap.size + 1 < w3.heap.size := World.block_lt_of_cell? _ _ f35
      have zf37 : w.heap.size + 1 + 1 < w3.heap.size := World.block_lt_of_cell? _ _ f37
      obtain ⟨⟨m39a, m39b⟩, ⟨m40a, m40b⟩, ⟨m41a, m41b⟩, ⟨m42a, m42b⟩, ⟨m43a, m43b⟩, ⟨m44a, m44b⟩, ⟨m45a, m45b⟩, ⟨m46a, m46b⟩, ⟨m47a, m47b⟩, ⟨m48a, m48b⟩⟩ : MineC5r w3 (w.heap.size + 1 + 1 + 1) 0 ∧ MineC5r w3 (w.heap.size + 1 + 1 + 1) 1 ∧ MineC5r w3 (w.heap.size + 1 + 1 + 1) 2 ∧ MineC5r w3 (w.heap.size + 1 + 1 + 1) 3 ∧ MineC5r w3 (w.heap.size + 1 + 1 + 1) 4 ∧ MineC5r w3 (w.heap.size + 1 + 1 + 1) 5 ∧ MineC5r w3 (w.heap.size + 1 + 1 + 1) 6 ∧ MineC5r w3 (w.heap.size + 1 + 1 + 1) 7 ∧ MineC5r w3 (w.heap.size + 1 + 1 + 1) 8 ∧ MineC5r w3 (w.heap.size + 1 + 1 + 1) 9 := by
        refine ⟨?_, ?_, ?_, ?_, ?_, ?_, ?_, ?_, ?_, ?_⟩ <;> (refine mine_below hb3 ?_; repeat (first | (refine ⟨?_, ?_⟩ <;> (with_reducible assumption)) | (with_reducible refine mine_alloc ?_ _) | (with_reducible refine mine_set ?_ _ _) | (with_reducible refine mine_drew ?_) | (with_reducible refine mine_drewN ?_ _) | (with_reducible refine mine_below (by assumption) ?_)))
      have zm39 : w.heap.size + 1 + 1 + 1 < w3.heap.size := World.block_lt_of_cell? _ _ m39a
      clear f17 zf17 f18 f19 zf19 f20 f21 zf21 f22 m23a m23b zm23 m24a m24b m25a m25b m26a m26b m27a m27b m28a m28b m29a m29b m30a m30b m31a m31b m32a m32b
      go_wp2_with fail
      refine (CA _).mono ?_
      rintro e w4 ⟨rfl, hb4⟩
      obtain ⟨f49, f50, f51, f52, f53, f54⟩ : w4.cell? ⟨w.heap.size, 0, none⟩ = some (.int .i64 ax) ∧ w4.cell? ⟨w.heap.size, 1, none⟩ = some (.int .i64 ay) ∧ w4.cell? ⟨w.heap.size + 1, 0, none⟩ = some (.int .i64 bx) ∧ w4.cell? ⟨w.heap.size + 1, 1, none⟩ = some (.int .i64 b_y) ∧ w4.cell? ⟨w.heap.size + 1 + 1, 0, none⟩ = some (.int .i64 cx) ∧ w4.cell? ⟨w.heap.size + 1 + 1, 1, none⟩ = some (.int .i64 cy) := by
        refine ⟨?_, ?_, ?_, ?_, ?_, ?_⟩ <;> (refine cell_below hb4 ?_; repeat (first | (with_reducible assumption) | ((with_reducible refine cell_set ?_ ?_ _); (· first | (simp; done) | (simp; omega) | omega)) | ((with_reducible refine cell_new ?_ ?_); (· (simp; done)); (· rfl)) | (with_reducible refine cell_alloc ?_ _) | (with_reducible refine cell_drew ?_) | (with_reducible refine cell_drewN ?_ _) | (with_reducible refine cell_below (by assumption) ?_)))
      have zf49 : w.heap.size < w4.heap.size := World.block_lt_of_cell? _ _ f49
      have zf51 : w.heap.size + 1 < w4.heap.size := World.block_lt_of_cell? _ _ f51
      have zf53 : w.heap.size + 1 + 1 < w4.heap.size := World.block_lt_of_cell? _ _ f53
      obtain ⟨⟨m55a, m55b⟩, ⟨m56a, m56b⟩, ⟨m57a, m57b⟩, ⟨m58a, m58b⟩, ⟨m59a, m59b⟩, ⟨m60a, m60b⟩, ⟨m61a, m61b⟩, ⟨m62a, m62b⟩, ⟨m63a, m63b⟩, ⟨m64a, m64b⟩⟩ : MineC5r w4 (w.heap.size + 1 + 1 + 1) 0 ∧ MineC5r w4 (w.heap.size + 1 + 1 + 1) 1 ∧ MineC5r w4 (w.heap.size + 1 + 1 + 1) 2 ∧ MineC5r w4 (w.heap.size + 1 + 1 + 1) 3 ∧ MineC5r w4 (w.heap.size + 1 + 1 + 1) 4 ∧ MineC5r w4 (w.heap.size + 1 + 1 + 1) 5 ∧ MineC5r w4 (w.heap.size + 1 + 1 + 1) 6 ∧ MineC5r w4 (w.heap.size + 1 + 1 + 1) 7 ∧ MineC5r w4 (w.heap.size + 1 + 1 + 1) 8 ∧ MineC5r w4 (w.heap.size + 1 + 1 + 1) 9 := by
        refine ⟨?_, ?_, ?_, ?_, ?_, ?_, ?_, ?_, ?_, ?_⟩ <;> (refine mine_below hb4 ?_; repeat (first | (refine ⟨?_, ?_⟩ <;> (with_reducible assumption)) | (with_reducible refine mine_alloc ?_ _) | (with_reducible refine mine_set ?_ _ _) | (with_reducible refine mine_drew ?_) | (with_reducible refine mine_drewN ?_ _) | (with_reducible refine mine_below (by assumption) ?_)))
      have zm55 : w.heap.size + 1 + 1 + 1 < w4.heap.size := World.block_lt_of_cell? _ _ m55a
      clear f33 zf33 f34 f35 zf35 f36 f37 zf37 f38 m39a m39b zm39 m40a m40b m41a m41b m42a m42b m43a m43b m44a m44b m45a m45b m46a m46b m47a m47b m48a m48b
      go_wp2_with fail
      refine (CB _).mono ?_
      rintro e w5 ⟨rfl, hb5⟩
      obtain ⟨f65, f66, f67, f68, f69, f70⟩ : w5.cell? ⟨w.heap.size, 0, none⟩ = some (.int .i64 ax) ∧ w5.cell? ⟨w.heap.size, 1, none⟩ = some (.int .i64 ay) ∧ w5.cell? ⟨w.heap.size + 1, 0, none⟩ = some (.int .i64 bx) ∧ w5.cell? ⟨w.heap.size + 1, 1, none⟩ = some (.int .i64 b_y) ∧ w5.cell? ⟨w.heap.size + 1 + 1, 0, none⟩ = some (.int .i64 cx) ∧ w5.cell? ⟨w.heap.size + 1 + 1, 1, none⟩ = some (.int .i64 cy) := by
        refine ⟨?_, ?_, ?_, ?_, ?_, ?_⟩ <;> (refine cell_below hb5 ?_; repeat (first | (with_reducible assumption) | ((with_reducible refine cell_set ?_ ?_ _); (· first | (simp; done) | (simp; omega) | omega)) | ((with_reducible refine cell_new ?_ ?_); (· (simp; done)); (· rfl)) | (with_reducible refine cell_alloc ?_ _) | (with_reducible refine cell_drew ?_) | (with_reducible refine cell_drewN ?_ _) | (with_reducible refine cell_below (by assumption) ?_)))
      have zf65 : w.heap.size < w5.heap.size := World.block_lt_of_cell? _ _ f65
      have zf67 : w.heap.size + 1 < w5.heap.size := World.block_lt_of_cell? _ _ f67
      have zf69 : w.heap.size + 1 + 1 < w5.heap.size := World.block_lt_of_cell? _ _ f69
      obtain ⟨⟨m71a, m71b⟩, ⟨m72a, m72b⟩, ⟨m73a, m73b⟩, ⟨m74a, m74b⟩, ⟨m75a, m75b⟩, ⟨m76a, m76b⟩, ⟨m77a, m77b⟩, ⟨m78a, m78b⟩, ⟨m79a, m79b⟩, ⟨m80a, m80b⟩⟩ : MineC5r w5 (w.heap.size + 1 + 1 + 1) 0 ∧ MineC5r w5 (w.heap.size + 1 + 1 + 1) 1 ∧ MineC5r w5 (w.heap.size + 1 + 1 + 1) 2 ∧ MineC5r w5 (w.heap.size + 1 + 1 + 1) 3 ∧ MineC5r w5 (w.heap.size + 1 + 1 + 1) 4 ∧ MineC5r w5 (w.heap.size + 1 + 1 + 1) 5 ∧ MineC5r w5 (w.heap.size + 1 + 1 + 1) 6 ∧ MineC5r w5 (w.heap.size + 1 + 1 + 1) 7 ∧ MineC5r w5 (w.heap.size + 1 + 1 + 1) 8 ∧ MineC5r w5 (w.heap.size + 1 + 1 + 1) 9 := by
        refine ⟨?_, ?_, ?_, ?_, ?_, ?_, ?_, ?_, ?_, ?_⟩ <;> (refine mine_below hb5 ?_; repeat (first | (refine ⟨?_, ?_⟩ <;> (with_reducible assumption)) | (with_reducible refine mine_alloc ?_ _) | (with_reducible refine mine_set ?_ _ _) | (with_reducible refine mine_drew ?_) | (with_reducible refine mine_drewN ?_ _) | (with_reducible refine mine_below (by assumption) ?_)))
      have zm71 : w.heap.size + 1 + 1 + 1 < w5.heap.size := World.block_lt_of_cell? _ _ m71a
      clear f49 zf49 f50 f51 zf51 f52 f53 zf53 f54 m55a m55b zm55 m56a m56b m57a m57b m58a m58b m59a m59b m60a m60b m61a m61b m62a m62b m63a m63b m64a m64b
      go_wp2_with (first
        | (go_at_call 79; refine (DF _).mono ?_; rintro e w' ⟨rfl, rfl⟩)
        | (go_at_call 61; refine (AB _).mono ?_; rintro e w' ⟨rfl, rfl⟩))
      all_goals
        exact bodyPost_ret (v := .tuple #[.agg #[.int .i64 0, .int .i64 0, .int .i64 0, .int .i64 0, .int .i64 0, .int .i64 0, .int .i64 0, .int .i64 0, .int .i64 0, .int .i64 0], .int .i64 10]) (by simp [results, Try.results31, go_sem, *]) rfl ⟨rfl, by (repeat (with_reducible (first | assumption | exact Below.refl _ _ | refine Below.drew ?_ | refine below_drewN ?_ _ | refine below_set ?_ (by simp; try omega) _ | refine below_alloc ?_ (Nat.le_refl _) _ | refine below_sub (by assumption) ?_)))⟩
  by_cases h5 : bx = cx ∧ b_y = cy
  · rw [fly_same hN h3 (.inr h5)] at hR
    obtain ⟨⟨rfl, rfl, rfl, rfl, rfl⟩, ⟨rfl, rfl, rfl, rfl, rfl⟩, rfl⟩ := fly_zeros hR
    rw [course_same h1 h2 h5] at CB
    rw [course_off h0 h1 h4] at CA
    have ub := atan2F_bd (bx - ax) (b_y - ay)
    have DF := fun W => rdiff_any (atan2F (bx - ax) (b_y - ay)) 0 (by unfold I64; omega) (by unfold I64; omega) W
    have dd := diffF_bd (atan2F (bx - ax) (b_y - ay)) 0
    generalize diffF (atan2F (bx - ax) (b_y - ay)) 0 = d at *
    have AB := fun W => rsz_any d (by omega) (by omega) W
    clear hR hN h0 h1 h2 h4 h5
    generalize atan2F (bx - ax) (b_y - ay) = u at *
    · skip
      go_enter Try.func31, Try.ntmps31
      go_wp2_with fail
      refine (PV0 _).mono ?_
      rintro e w1 ⟨rfl, hb1⟩
      obtain ⟨f1, f2, f3, f4, f5, f6⟩ : w1.cell? ⟨w.heap.size, 0, none⟩ = some (.int .i64 ax) ∧ w1.cell? ⟨w.heap.size, 1, none⟩ = some (.int .i64 ay) ∧ w1.cell? ⟨w.heap.size + 1, 0, none⟩ = some (.int .i64 bx) ∧ w1.cell? ⟨w.heap.size + 1, 1, none⟩ = some (.int .i64 b_y) ∧ w1.cell? ⟨w.heap.size + 1 + 1, 0, none⟩ = some (.int .i64 cx) ∧ w1.cell? ⟨w.heap.size + 1 + 1, 1, none⟩ = some (.int .i64 cy) := by
        refine ⟨?_, ?_, ?_, ?_, ?_, ?_⟩ <;> (refine cell_below hb1 ?_; repeat (first | (with_reducible assumption) | ((with_reducible refine cell_set ?_ ?_ _); (· first | (simp; done) | (simp; omega) | omega)) | ((with_reducible refine cell_new ?_ ?_); (· (simp; done)); (· rfl)) | (with_reducible refine cell_alloc ?_ _) | (with_reducible refine cell_drew ?_) | (with_reducible refine cell_drewN ?_ _) | (with_reducible refine cell_below (by assumption) ?_)))
      have zf1 : w.heap.size < w1.heap.size := World.block_lt_of_cell? _ _ f1
      have zf3 : w.heap.size + 1 < w1.heap.size := World.block_lt_of_cell? _ _ f3
      have zf5 : w.heap.size + 1 + 1 < w1.heap.size := World.block_lt_of_cell? _ _ f5
      obtain ⟨⟨m7a, m7b⟩, ⟨m8a, m8b⟩, ⟨m9a, m9b⟩, ⟨m10a, m10b⟩, ⟨m11a, m11b⟩, ⟨m12a, m12b⟩, ⟨m13a, m13b⟩, ⟨m14a, m14b⟩, ⟨m15a, m15b⟩, ⟨m16a, m16b⟩⟩ : MineC5r w1 (w.heap.size + 1 + 1 + 1) 0 ∧ MineC5r w1 (w.heap.size + 1 + 1 + 1) 1 ∧ MineC5r w1 (w.heap.size + 1 + 1 + 1) 2 ∧ MineC5r w1 (w.heap.size + 1 + 1 + 1) 3 ∧ MineC5r w1 (w.heap.size + 1 + 1 + 1) 4 ∧ MineC5r w1 (w.heap.size + 1 + 1 + 1) 5 ∧ MineC5r w1 (w.heap.size + 1 + 1 + 1) 6 ∧ MineC5r w1 (w.heap.size + 1 + 1 + 1) 7 ∧ MineC5r w1 (w.heap.size + 1 + 1 + 1) 8 ∧ MineC5r w1 (w.heap.size + 1 + 1 + 1) 9 := by
        refine ⟨?_, ?_, ?_, ?_, ?_, ?_, ?_, ?_, ?_, ?_⟩ <;> (refine mine_below hb1 (mine_of (v := .int .i64 0) ?_ ?_) <;> simp [go_sem])
      have zm7 : w.heap.size + 1 + 1 + 1 < w1.heap.size := World.block_lt_of_cell? _ _ m7a
      go_wp2_with fail
      refine (PV1 _).mono ?_
      rintro e w2 ⟨rfl, hb2⟩
      obtain ⟨f17, f18, f19, f20, f21, f22⟩ : w2.cell? ⟨w.heap.size, 0, none⟩ = some (.int .i64 ax) ∧ w2.cell? ⟨w.heap.size, 1, none⟩ = some (.int .i64 ay) ∧ w2.cell? ⟨w.heap.size + 1, 0, none⟩ = some (.int .i64 bx) ∧ w2.cell? ⟨w.heap.size + 1, 1, none⟩ = some (.int .i64 b_y) ∧ w2.cell? ⟨w.heap.size + 1 + 1, 0, none⟩ = some (.int .i64 cx) ∧ w2.cell? ⟨w.heap.size + 1 + 1, 1, none⟩ = some (.int .i64 cy) := by
        refine ⟨?_, ?_, ?_, ?_, ?_, ?_⟩ <;> (refine cell_below hb2 ?_; repeat (first | (with_reducible assumption) | ((with_reducible refine cell_set ?_ ?_ _); (· first | (simp; done) | (simp; omega) | omega)) | ((with_reducible refine cell_new ?_ ?_); (· (simp; done)); (· rfl)) | (with_reducible refine cell_alloc ?_ _) | (with_reducible refine cell_drew ?_) | (with_reducible refine cell_drewN ?_ _) | (with_reducible refine cell_below (by assumption) ?_)))
      have zf17 : w.heap.size < w2.heap.size := World.block_lt_of_cell? _ _ f17
      have zf19 : w.heap.size + 1 < w2.heap.size := World.block_lt_of_cell? _ _ f19
      have zf21 : w.heap.size + 1 + 1 < w2.heap.size := World.block_lt_of_cell? _ _ f21
      obtain ⟨⟨m23a, m23b⟩, ⟨m24a, m24b⟩, ⟨m25a, m25b⟩, ⟨m26a, m26b⟩, ⟨m27a, m27b⟩, ⟨m28a, m28b⟩, ⟨m29a, m29b⟩, ⟨m30a, m30b⟩, ⟨m31a, m31b⟩, ⟨m32a, m32b⟩⟩ : MineC5r w2 (w.heap.size + 1 + 1 + 1) 0 ∧ MineC5r w2 (w.heap.size + 1 + 1 + 1) 1 ∧ MineC5r w2 (w.heap.size + 1 + 1 + 1) 2 ∧ MineC5r w2 (w.heap.size + 1 + 1 + 1) 3 ∧ MineC5r w2 (w.heap.size + 1 + 1 + 1) 4 ∧ MineC5r w2 (w.heap.size + 1 + 1 + 1) 5 ∧ MineC5r w2 (w.heap.size + 1 + 1 + 1) 6 ∧ MineC5r w2 (w.heap.size + 1 + 1 + 1) 7 ∧ MineC5r w2 (w.heap.size + 1 + 1 + 1) 8 ∧ MineC5r w2 (w.heap.size + 1 + 1 + 1) 9 := by
        refine ⟨?_, ?_, ?_, ?_, ?_, ?_, ?_, ?_, ?_, ?_⟩ <;> (refine mine_below hb2 ?_; repeat (first | (refine ⟨?_, ?_⟩ <;> (with_reducible assumption)) | (with_reducible refine mine_alloc ?_ _) | (with_reducible refine mine_set ?_ _ _) | (with_reducible refine mine_drew ?_) | (with_reducible refine mine_drewN ?_ _) | (with_reducible refine mine_below (by assumption) ?_)))
      have zm23 : w.heap.size + 1 + 1 + 1 < w2.heap.size := World.block_lt_of_cell? _ _ m23a
      clear f1 zf1 f2 f3 zf3 f4 f5 zf5 f6 m7a m7b zm7 m8a m8b m9a m9b m10a m10b m11a m11b m12a m12b m13a m13b m14a m14b m15a m15b m16a m16b
      go_wp2_with fail
      refine (PV2 _).mono ?_
      rintro e w3 ⟨rfl, hb3⟩
      obtain ⟨f33, f34, f35, f36, f37, f38⟩ : w3.cell? ⟨w.heap.size, 0, none⟩ = some (.int .i64 ax) ∧ w3.cell? ⟨w.heap.size, 1, none⟩ = some (.int .i64 ay) ∧ w3.cell? ⟨w.heap.size + 1, 0, none⟩ = some (.int .i64 bx) ∧ w3.cell? ⟨w.heap.size + 1, 1, none⟩ = some (.int .i64 b_y) ∧ w3.cell? ⟨w.heap.size + 1 + 1, 0, none⟩ = some (.int .i64 cx) ∧ w3.cell? ⟨w.heap.size + 1 + 1, 1, none⟩ = some (.int .i64 cy) := by
        refine ⟨?_, ?_, ?_, ?_, ?_, ?_⟩ <;> (refine cell_below hb3 ?_; repeat (first | (with_reducible assumption) | ((with_reducible refine cell_set ?_ ?_ _); (· first | (simp; done) | (simp; omega) | omega)) | ((with_reducible refine cell_new ?_ ?_); (· (simp; done)); (· rfl)) | (with_reducible refine cell_alloc ?_ _) | (with_reducible refine cell_drew ?_) | (with_reducible refine cell_drewN ?_ _) | (with_reducible refine cell_below (by assumption) ?_)))
      have zf33 : w.heap.size < w3.heap.size := World.block_lt_of_cell? _ _ f33
      have zf35 : w.heap.size + 1 < w3.heap.size := World.block_lt_of_cell? _ _ f35
      have zf37 : w.heap.size + 1 + 1 < w3.heap.size := World.block_lt_of_cell? _ _ f37
      obtain ⟨⟨m39a, m39b⟩, ⟨m40a, m40b⟩, ⟨m41a, m41b⟩, ⟨m42a, m42b⟩, ⟨m43a, m43b⟩, ⟨m44a, m44b⟩, ⟨m45a, m45b⟩, ⟨m46a, m46b⟩, ⟨m47a, m47b⟩, ⟨m48a, m48b⟩⟩ : MineC5r w3 (w.heap.size + 1 + 1 + 1) 0 ∧ MineC5r w3 (w.heap.size + 1 + 1 + 1) 1 ∧ MineC5r w3 (w.heap.size + 1 + 1 + 1) 2 ∧ MineC5r w3 (w.heap.size + 1 + 1 + 1) 3 ∧ MineC5r w3 (w.heap.size + 1 + 1 + 1) 4 ∧ MineC5r w3 (w.heap.size + 1 + 1 + 1) 5 ∧ MineC5r w3 (w.heap.size + 1 + 1 + 1) 6 ∧ MineC5r w3 (w.heap.size + 1 + 1 + 1) 7 ∧ MineC5r w3 (w.heap.size + 1 + 1 + 1) 8 ∧ MineC5r w3 (w.heap.size + 1 + 1 + 1) 9 := by
        refine ⟨?_, ?_, ?_, ?_, ?_, ?_, ?_, ?_, ?_, ?_⟩ <;> (refine mine_below hb3 ?_; repeat (first | (refine ⟨?_, ?_⟩ <;> (with_reducible assumption)) | (with_reducible refine mine_alloc ?_ _) | (with_reducible refine mine_set ?_ _ _) | (with_reducible refine mine_drew ?_) | (with_reducible refine mine_drewN ?_ _) | (with_reducible refine mine_below (by assumption) ?_)))
      have zm39 : w.heap.size + 1 + 1 + 1 < w3.heap.size := World.block_lt_of_cell? _ _ m39a
      clear f17 zf17 f18 f19 zf19 f20 f21 zf21 f22 m23a m23b zm23 m24a m24b m25a m25b m26a m26b m27a m27b m28a m28b m29a m29b m30a m30b m31a m31b m32a m32b
      go_wp2_with fail
      refine (CA _).mono ?_
      rintro e w4 ⟨rfl, hb4⟩
      obtain ⟨f49, f50, f51, f52, f53, f54⟩ : w4.cell? ⟨w.heap.size, 0, none⟩ = some (.int .i64 ax) ∧ w4.cell? ⟨w.heap.size, 1, none⟩ = some (.int .i64 ay) ∧ w4.cell? ⟨w.heap.size + 1, 0, none⟩ = some (.int .i64 bx) ∧ w4.cell? ⟨w.heap.size + 1, 1, none⟩ = some (.int .i64 b_y) ∧ w4.cell? ⟨w.heap.size + 1 + 1, 0, none⟩ = some (.int .i64 cx) ∧ w4.cell? ⟨w.heap.size + 1 + 1, 1, none⟩ = some (.int .i64 cy) := by
        refine ⟨?_, ?_, ?_, ?_, ?_, ?_⟩ <;> (refine cell_below hb4 ?_; repeat (first | (with_reducible assumption) | ((with_reducible refine cell_set ?_ ?_ _); (· first | (simp; done) | (simp; omega) | omega)) | ((with_reducible refine cell_new ?_ ?_); (· (simp; done)); (· rfl)) | (with_reducible refine cell_alloc ?_ _) | (with_reducible refine cell_drew ?_) | (with_reducible refine cell_drewN ?_ _) | (with_reducible refine cell_below (by assumption) ?_)))
      have zf49 : w.heap.size < w4.heap.size := World.block_lt_of_cell? _ _ f49
      have zf51 : w.heap.size + 1 < w4.heap.size := World.block_lt_of_cell? _ _ f51
      have zf53 : w.heap.size + 1 + 1 < w4.heap.size := World.block_lt_of_cell? _ _ f53
      obtain ⟨⟨m55a, m55b⟩, ⟨m56a, m56b⟩, ⟨m57a, m57b⟩, ⟨m58a, m58b⟩, ⟨m59a, m59b⟩, ⟨m60a, m60b⟩, ⟨m61a, m61b⟩, ⟨m62a, m62b⟩, ⟨m63a, m63b⟩, ⟨m64a, m64b⟩⟩ : MineC5r w4 (w.heap.size + 1 + 1 + 1) 0 ∧ MineC5r w4 (w.heap.size + 1 + 1 + 1) 1 ∧ MineC5r w4 (w.heap.size + 1 + 1 + 1) 2 ∧ MineC5r w4 (w.heap.size + 1 + 1 + 1) 3 ∧ MineC5r w4 (w.heap.size + 1 + 1 + 1) 4 ∧ MineC5r w4 (w.heap.size + 1 + 1 + 1) 5 ∧ MineC5r w4 (w.heap.size + 1 + 1 + 1) 6 ∧ MineC5r w4 (w.heap.size + 1 + 1 + 1) 7 ∧ MineC5r w4 (w.heap.size + 1 + 1 + 1) 8 ∧ MineC5r w4 (w.heap.size + 1 + 1 + 1) 9 := by
        refine ⟨?_, ?_, ?_, ?_, ?_, ?_, ?_, ?_, ?_, ?_⟩ <;> (refine mine_below hb4 ?_; repeat (first | (refine ⟨?_, ?_⟩ <;> (with_reducible assumption)) | (with_reducible refine mine_alloc ?_ _) | (with_reducible refine mine_set ?_ _ _) | (with_reducible refine mine_drew ?_) | (with_reducible refine mine_drewN ?_ _) | (with_reducible refine mine_below (by assumption) ?_)))
      have zm55 : w.heap.size + 1 + 1 + 1 < w4.heap.size := World.block_lt_of_cell? _ _ m55a
      clear f33 zf33 f34 f35 zf35 f36 f37 zf37 f38 m39a m39b zm39 m40a m40b m41a m41b m42a m42b m43a m43b m44a m44b m45a m45b m46a m46b m47a m47b m48a m48b
      go_wp2_with fail
      refine (CB _).mono ?_
      rintro e w5 ⟨rfl, hb5⟩
      obtain ⟨f65, f66, f67, f68, f69, f70⟩ : w5.cell? ⟨w.heap.size, 0, none⟩ = some (.int .i64 ax) ∧ w5.cell? ⟨w.heap.size, 1, none⟩ = some (.int .i64 ay) ∧ w5.cell? ⟨w.heap.size + 1, 0, none⟩ = some (.int .i64 bx) ∧ w5.cell? ⟨w.heap.size + 1, 1, none⟩ = some (.int .i64 b_y) ∧ w5.cell? ⟨w.heap.size + 1 + 1, 0, none⟩ = some (.int .i64 cx) ∧ w5.cell? ⟨w.heap.size + 1 + 1, 1, none⟩ = some (.int .i64 cy) := by
        refine ⟨?_, ?_, ?_, ?_, ?_, ?_⟩ <;> (refine cell_below hb5 ?_; repeat (first | (with_reducible assumption) | ((with_reducible refine cell_set ?_ ?_ _); (· first | (simp; done) | (simp; omega) | omega)) | ((with_reducible refine cell_new ?_ ?_); (· (simp; done)); (· rfl)) | (with_reducible refine cell_alloc ?_ _) | (with_reducible refine cell_drew ?_) | (with_reducible refine cell_drewN ?_ _) | (with_reducible refine cell_below (by assumption) ?_)))
      have zf65 : w.heap.size < w5.heap.size := World.block_lt_of_cell? _ _ f65
      have zf67 : w.heap.size + 1 < w5.heap.size := World.block_lt_of_cell? _ _ f67
      have zf69 : w.heap.size + 1 + 1 < w5.heap.size := World.block_lt_of_cell? _ _ f69
      obtain ⟨⟨m71a, m71b⟩, ⟨m72a, m72b⟩, ⟨m73a, m73b⟩, ⟨m74a, m74b⟩, ⟨m75a, m75b⟩, ⟨m76a, m76b⟩, ⟨m77a, m77b⟩, ⟨m78a, m78b⟩, ⟨m79a, m79b⟩, ⟨m80a, m80b⟩⟩ : MineC5r w5 (w.heap.size + 1 + 1 + 1) 0 ∧ MineC5r w5 (w.heap.size + 1 + 1 + 1) 1 ∧ MineC5r w5 (w.heap.size + 1 + 1 + 1) 2 ∧ MineC5r w5 (w.heap.size + 1 + 1 + 1) 3 ∧ MineC5r w5 (w.heap.size + 1 + 1 + 1) 4 ∧ MineC5r w5 (w.heap.size + 1 + 1 + 1) 5 ∧ MineC5r w5 (w.heap.size + 1 + 1 + 1) 6 ∧ MineC5r w5 (w.heap.size + 1 + 1 + 1) 7 ∧ MineC5r w5 (w.heap.size + 1 + 1 + 1) 8 ∧ MineC5r w5 (w.heap.size + 1 + 1 + 1) 9 := by
        refine ⟨?_, ?_, ?_, ?_, ?_, ?_, ?_, ?_, ?_, ?_⟩ <;> (refine mine_below hb5 ?_; repeat (first | (refine ⟨?_, ?_⟩ <;> (with_reducible assumption)) | (with_reducible refine mine_alloc ?_ _) | (with_reducible refine mine_set ?_ _ _) | (with_reducible refine mine_drew ?_) | (with_reducible refine mine_drewN ?_ _) | (with_reducible refine mine_below (by assumption) ?_)))
      have zm71 : w.heap.size + 1 + 1 + 1 < w5.heap.size := World.block_lt_of_cell? _ _ m71a
      clear f49 zf49 f50 f51 zf51 f52 f53 zf53 f54 m55a m55b zm55 m56a m56b m57a m57b m58a m58b m59a m59b m60a m60b m61a m61b m62a m62b m63a m63b m64a m64b
      go_wp2_with (first
        | (go_at_call 79; refine (DF _).mono ?_; rintro e w' ⟨rfl, rfl⟩)
        | (go_at_call 61; refine (AB _).mono ?_; rintro e w' ⟨rfl, rfl⟩))
      all_goals
        exact bodyPost_ret (v := .tuple #[.agg #[.int .i64 0, .int .i64 0, .int .i64 0, .int .i64 0, .int .i64 0, .int .i64 0, .int .i64 0, .int .i64 0, .int .i64 0, .int .i64 0], .int .i64 10]) (by simp [results, Try.results31, go_sem, *]) rfl ⟨rfl, by (repeat (with_reducible (first | assumption | exact Below.refl _ _ | refine Below.drew ?_ | refine below_drewN ?_ _ | refine below_set ?_ (by simp; try omega) _ | refine below_alloc ?_ (Nat.le_refl _) _ | refine below_sub (by assumption) ?_)))⟩
  exact rfly_main ax ay bx b_y cx cy r hr w v0 v1 v2 v3 v4 v5 v6 v7 v8 v9 e0 h0 h1 h2 h3 h4 h5 hR
end Go.Proofs.Yteedgcffdgkicaa

