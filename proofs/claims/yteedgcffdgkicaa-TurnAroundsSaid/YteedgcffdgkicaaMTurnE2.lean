/-
  The walks of Tangent.
-/
import Derived.Test.YteedgcffdgkicaaMTurnA2
import Derived.Test.YteedgcffdgkicaaMLineD
import Derived.Test.YteedgcffdgkicaaMLaws
import Derived.Deep.DeepCutAuto
namespace Go.Proofs.Yteedgcffdgkicaa
open Go.RowKit
set_option linter.unusedVariables false
set_option linter.unusedSimpArgs false
theorem tan_no {cx cy r px py : Int} {right : Bool} (h : (vldB cx cy && vldB px py) = false) : tanF cx cy r px py right = (0, 0, 1) := by unfold tanF; rw [h]; rfl
theorem tan_rng {cx cy r px py : Int} {right : Bool} (h : (vldB cx cy && vldB px py) = true) (h2 : r < 1 ∨ r > 8000000) : tanF cx cy r px py right = (0, 0, 2) := by unfold tanF; rw [h, if_neg (by simp), if_pos h2]
theorem tan_in {cx cy r px py : Int} {right : Bool} (h : (vldB cx cy && vldB px py) = true) (h2 : ¬ (r < 1 ∨ r > 8000000)) (h3 : dist2 cx cy px py ≤ r * r) : tanF cx cy r px py right = (0, 0, 10) := by unfold tanF; rw [h, if_neg (by simp), if_neg h2, if_pos h3]
theorem tan_ray {cx cy r px py X Y E : Int} {right : Bool} (h : (vldB cx cy && vldB px py) = true) (h2 : ¬ (r < 1 ∨ r > 8000000)) (h3 : ¬ dist2 cx cy px py ≤ r * r) (hY : rayF cx cy (tanDir cx cy r px py right) r = (X, Y, E)) : tanF cx cy r px py right = if E ≠ 0 then (0, 0, 2) else (X, Y, 0) := by
  unfold tanF; rw [h, if_neg (by simp), if_neg h2, if_neg h3, hY]
theorem tan_course {cx cy r px py : Int} (h : (vldB cx cy && vldB px py) = true) (h3 : ¬ dist2 cx cy px py ≤ r * r) : (courseF cx cy px py).1 = atan2F (px - cx) (py - cy) := by
  unfold courseF
  rw [h, if_neg (by simp), if_neg]
  rintro ⟨rfl, rfl⟩
  apply h3
  unfold dist2
  rw [Int.sub_self, Int.sub_self]
  exact sq_nonneg r
set_option maxRecDepth 100000 in
set_option maxHeartbeats 4000000 in
theorem tan_l (cx cy r px py : Int) (hr : I64 r) (w : World) (v0 v1 e0 : Int) (hR : (v0, v1, e0) = tanF cx cy r px py false) :
    Calls Try.prog 33 #[.agg #[.int .i64 cx, .int .i64 cy], .int .i64 r, .int .u8 1, .agg #[.int .i64 px, .int .i64 py]] w fun e w' => e = .returned (.tuple #[.agg #[.int .i64 v0, .int .i64 v1], .int .i64 e0]) ∧ Below w.heap.size w w' := by
  rcases h0 : vldB cx cy with _ | _
  · rw [tan_no (by rw [h0]; rfl)] at hR
    obtain ⟨rfl, rfl, rfl⟩ : v0 = 0 ∧ v1 = 0 ∧ e0 = 1 := by simpa using hR
    have PV0 := fun W => pvalid_e cx cy false h0 W
    clear hR h0
    go_enter Try.func33, Try.ntmps33
    go_wp2_with fail
    refine (PV0 _).mono ?_
    rintro e w1 ⟨rfl, hb1⟩
    obtain ⟨f1, f2, f3, f4⟩ : w1.cell? ⟨w.heap.size, 0, none⟩ = some (.int .i64 cx) ∧ w1.cell? ⟨w.heap.size, 1, none⟩ = some (.int .i64 cy) ∧ w1.cell? ⟨w.heap.size + 1, 0, none⟩ = some (.int .i64 px) ∧ w1.cell? ⟨w.heap.size + 1, 1, none⟩ = some (.int .i64 py) := by
      refine ⟨?_, ?_, ?_, ?_⟩ <;> (refine cell_below hb1 ?_; repeat (first | (with_reducible assumption) | (with_reducible refine cell_drew ?_) | (with_reducible refine cell_drewN ?_ _) | (with_reducible refine cell_below (by assumption) ?_) | ((with_reducible refine cell_new ?_ ?_); (· (simp; done)); (· rfl)) | (with_reducible refine cell_alloc ?_ _) | ((with_reducible refine cell_set ?_ ?_ _); (· first | (simp; done) | (simp; omega) | omega))))
    have zf1 : w.heap.size < w1.heap.size := World.block_lt_of_cell? _ _ f1
    have zf3 : w.heap.size + 1 < w1.heap.size := World.block_lt_of_cell? _ _ f3
    obtain ⟨⟨m5a, m5b⟩, ⟨m6a, m6b⟩⟩ : (w1.cell? ⟨w.heap.size + 1 + 1, 0, none⟩ = some (cellV w1 ⟨w.heap.size + 1 + 1, 0, none⟩) ∧ w1.frozen? ⟨w.heap.size + 1 + 1, 0, none⟩ = false) ∧ (w1.cell? ⟨w.heap.size + 1 + 1, 1, none⟩ = some (cellV w1 ⟨w.heap.size + 1 + 1, 1, none⟩) ∧ w1.frozen? ⟨w.heap.size + 1 + 1, 1, none⟩ = false) := by
      refine ⟨?_, ?_⟩ <;> (refine mine_below hb1 (mine_of (v := .int .i64 0) ?_ ?_) <;> simp [go_sem])
    have zm5 : w.heap.size + 1 + 1 < w1.heap.size := World.block_lt_of_cell? _ _ m5a
    go_wp2_with fail
    exact bodyPost_ret (v := .tuple #[.agg #[.int .i64 0, .int .i64 0], .int .i64 1]) (by simp [results, Try.results33, go_sem, *]) rfl ⟨rfl, by (repeat (with_reducible (first | assumption | exact Below.refl _ _ | refine Below.drew ?_ | refine below_drewN ?_ _ | refine below_set ?_ (by simp; try omega) _ | refine below_alloc ?_ (Nat.le_refl _) _ | refine below_sub (by assumption) ?_)))⟩
  have PV0 := fun W => pvalid_e cx cy true h0 W
  rcases h1 : vldB px py with _ | _
  · rw [tan_no (by rw [h0, h1]; rfl)] at hR
    obtain ⟨rfl, rfl, rfl⟩ : v0 = 0 ∧ v1 = 0 ∧ e0 = 1 := by simpa using hR
    have PV1 := fun W => pvalid_e px py false h1 W
    clear hR h0 h1
    go_enter Try.func33, Try.ntmps33
    go_wp2_with fail
    refine (PV0 _).mono ?_
    rintro e w1 ⟨rfl, hb1⟩
    obtain ⟨f1, f2, f3, f4⟩ : w1.cell? ⟨w.heap.size, 0, none⟩ = some (.int .i64 cx) ∧ w1.cell? ⟨w.heap.size, 1, none⟩ = some (.int .i64 cy) ∧ w1.cell? ⟨w.heap.size + 1, 0, none⟩ = some (.int .i64 px) ∧ w1.cell? ⟨w.heap.size + 1, 1, none⟩ = some (.int .i64 py) := by
      refine ⟨?_, ?_, ?_, ?_⟩ <;> (refine cell_below hb1 ?_; repeat (first | (with_reducible assumption) | (with_reducible refine cell_drew ?_) | (with_reducible refine cell_drewN ?_ _) | (with_reducible refine cell_below (by assumption) ?_) | ((with_reducible refine cell_new ?_ ?_); (· (simp; done)); (· rfl)) | (with_reducible refine cell_alloc ?_ _) | ((with_reducible refine cell_set ?_ ?_ _); (· first | (simp; done) | (simp; omega) | omega))))
    have zf1 : w.heap.size < w1.heap.size := World.block_lt_of_cell? _ _ f1
    have zf3 : w.heap.size + 1 < w1.heap.size := World.block_lt_of_cell? _ _ f3
    obtain ⟨⟨m5a, m5b⟩, ⟨m6a, m6b⟩⟩ : (w1.cell? ⟨w.heap.size + 1 + 1, 0, none⟩ = some (cellV w1 ⟨w.heap.size + 1 + 1, 0, none⟩) ∧ w1.frozen? ⟨w.heap.size + 1 + 1, 0, none⟩ = false) ∧ (w1.cell? ⟨w.heap.size + 1 + 1, 1, none⟩ = some (cellV w1 ⟨w.heap.size + 1 + 1, 1, none⟩) ∧ w1.frozen? ⟨w.heap.size + 1 + 1, 1, none⟩ = false) := by
      refine ⟨?_, ?_⟩ <;> (refine mine_below hb1 (mine_of (v := .int .i64 0) ?_ ?_) <;> simp [go_sem])
    have zm5 : w.heap.size + 1 + 1 < w1.heap.size := World.block_lt_of_cell? _ _ m5a
    go_wp2_with fail
    refine (PV1 _).mono ?_
    rintro e w2 ⟨rfl, hb2⟩
    obtain ⟨f7, f8, f9, f10⟩ : w2.cell? ⟨w.heap.size, 0, none⟩ = some (.int .i64 cx) ∧ w2.cell? ⟨w.heap.size, 1, none⟩ = some (.int .i64 cy) ∧ w2.cell? ⟨w.heap.size + 1, 0, none⟩ = some (.int .i64 px) ∧ w2.cell? ⟨w.heap.size + 1, 1, none⟩ = some (.int .i64 py) := by
      refine ⟨?_, ?_, ?_, ?_⟩ <;> (refine cell_below hb2 ?_; repeat (first | (with_reducible assumption) | (with_reducible refine cell_drew ?_) | (with_reducible refine cell_drewN ?_ _) | (with_reducible refine cell_below (by assumption) ?_) | ((with_reducible refine cell_new ?_ ?_); (· (simp; done)); (· rfl)) | (with_reducible refine cell_alloc ?_ _) | ((with_reducible refine cell_set ?_ ?_ _); (· first | (simp; done) | (simp; omega) | omega))))
    have zf7 : w.heap.size < w2.heap.size := World.block_lt_of_cell? _ _ f7
    have zf9 : w.heap.size + 1 < w2.heap.size := World.block_lt_of_cell? _ _ f9
    obtain ⟨⟨m11a, m11b⟩, ⟨m12a, m12b⟩⟩ : (w2.cell? ⟨w.heap.size + 1 + 1, 0, none⟩ = some (cellV w2 ⟨w.heap.size + 1 + 1, 0, none⟩) ∧ w2.frozen? ⟨w.heap.size + 1 + 1, 0, none⟩ = false) ∧ (w2.cell? ⟨w.heap.size + 1 + 1, 1, none⟩ = some (cellV w2 ⟨w.heap.size + 1 + 1, 1, none⟩) ∧ w2.frozen? ⟨w.heap.size + 1 + 1, 1, none⟩ = false) := by
      refine ⟨?_, ?_⟩ <;> (refine mine_below hb2 ?_; repeat (first | (with_reducible exact ⟨by assumption, by assumption⟩) | (with_reducible refine mine_drew ?_) | (with_reducible refine mine_drewN ?_ _) | (with_reducible refine mine_below (by assumption) ?_) | ((with_reducible refine mine_new ?_ ?_); (· (simp; done)); (· rfl)) | (with_reducible refine mine_alloc ?_ _) | (with_reducible refine mine_set ?_ _ _)))
    have zm11 : w.heap.size + 1 + 1 < w2.heap.size := World.block_lt_of_cell? _ _ m11a
    clear f1 zf1 f2 f3 zf3 f4 m5a m5b zm5 m6a m6b
    go_wp2_with fail
    exact bodyPost_ret (v := .tuple #[.agg #[.int .i64 0, .int .i64 0], .int .i64 1]) (by simp [results, Try.results33, go_sem, *]) rfl ⟨rfl, by (repeat (with_reducible (first | assumption | exact Below.refl _ _ | refine Below.drew ?_ | refine below_drewN ?_ _ | refine below_set ?_ (by simp; try omega) _ | refine below_alloc ?_ (Nat.le_refl _) _ | refine below_sub (by assumption) ?_)))⟩
  have PV1 := fun W => pvalid_e px py true h1 W
  by_cases h2 : r < 1 ∨ r > 8000000
  · rw [tan_rng (by rw [h0, h1]; rfl) h2] at hR
    obtain ⟨rfl, rfl, rfl⟩ : v0 = 0 ∧ v1 = 0 ∧ e0 = 2 := by simpa using hR
    clear hR h0 h1
    rcases h2 with h2 | h2
    all_goals
      go_enter Try.func33, Try.ntmps33
      go_wp2_with fail
      refine (PV0 _).mono ?_
      rintro e w1 ⟨rfl, hb1⟩
      obtain ⟨f1, f2, f3, f4⟩ : w1.cell? ⟨w.heap.size, 0, none⟩ = some (.int .i64 cx) ∧ w1.cell? ⟨w.heap.size, 1, none⟩ = some (.int .i64 cy) ∧ w1.cell? ⟨w.heap.size + 1, 0, none⟩ = some (.int .i64 px) ∧ w1.cell? ⟨w.heap.size + 1, 1, none⟩ = some (.int .i64 py) := by
        refine ⟨?_, ?_, ?_, ?_⟩ <;> (refine cell_below hb1 ?_; repeat (first | (with_reducible assumption) | (with_reducible refine cell_drew ?_) | (with_reducible refine cell_drewN ?_ _) | (with_reducible refine cell_below (by assumption) ?_) | ((with_reducible refine cell_new ?_ ?_); (· (simp; done)); (· rfl)) | (with_reducible refine cell_alloc ?_ _) | ((with_reducible refine cell_set ?_ ?_ _); (· first | (simp; done) | (simp; omega) | omega))))
      have zf1 : w.heap.size < w1.heap.size := World.block_lt_of_cell? _ _ f1
      have zf3 : w.heap.size + 1 < w1.heap.size := World.block_lt_of_cell? _ _ f3
      obtain ⟨⟨m5a, m5b⟩, ⟨m6a, m6b⟩⟩ : (w1.cell? ⟨w.heap.size + 1 + 1, 0, none⟩ = some (cellV w1 ⟨w.heap.size + 1 + 1, 0, none⟩) ∧ w1.frozen? ⟨w.heap.size + 1 + 1, 0, none⟩ = false) ∧ (w1.cell? ⟨w.heap.size + 1 + 1, 1, none⟩ = some (cellV w1 ⟨w.heap.size + 1 + 1, 1, none⟩) ∧ w1.frozen? ⟨w.heap.size + 1 + 1, 1, none⟩ = false) := by
        refine ⟨?_, ?_⟩ <;> (refine mine_below hb1 (mine_of (v := .int .i64 0) ?_ ?_) <;> simp [go_sem])
      have zm5 : w.heap.size + 1 + 1 < w1.heap.size := World.block_lt_of_cell? _ _ m5a
      go_wp2_with fail
      refine (PV1 _).mono ?_
      rintro e w2 ⟨rfl, hb2⟩
      obtain ⟨f7, f8, f9, f10⟩ : w2.cell? ⟨w.heap.size, 0, none⟩ = some (.int .i64 cx) ∧ w2.cell? ⟨w.heap.size, 1, none⟩ = some (.int .i64 cy) ∧ w2.cell? ⟨w.heap.size + 1, 0, none⟩ = some (.int .i64 px) ∧ w2.cell? ⟨w.heap.size + 1, 1, none⟩ = some (.int .i64 py) := by
        refine ⟨?_, ?_, ?_, ?_⟩ <;> (refine cell_below hb2 ?_; repeat (first | (with_reducible assumption) | (with_reducible refine cell_drew ?_) | (with_reducible refine cell_drewN ?_ _) | (with_reducible refine cell_below (by assumption) ?_) | ((with_reducible refine cell_new ?_ ?_); (· (simp; done)); (· rfl)) | (with_reducible refine cell_alloc ?_ _) | ((with_reducible refine cell_set ?_ ?_ _); (· first | (simp; done) | (simp; omega) | omega))))
      have zf7 : w.heap.size < w2.heap.size := World.block_lt_of_cell? _ _ f7
      have zf9 : w.heap.size + 1 < w2.heap.size := World.block_lt_of_cell? _ _ f9
      obtain ⟨⟨m11a, m11b⟩, ⟨m12a, m12b⟩⟩ : (w2.cell? ⟨w.heap.size + 1 + 1, 0, none⟩ = some (cellV w2 ⟨w.heap.size + 1 + 1, 0, none⟩) ∧ w2.frozen? ⟨w.heap.size + 1 + 1, 0, none⟩ = false) ∧ (w2.cell? ⟨w.heap.size + 1 + 1, 1, none⟩ = some (cellV w2 ⟨w.heap.size + 1 + 1, 1, none⟩) ∧ w2.frozen? ⟨w.heap.size + 1 + 1, 1, none⟩ = false) := by
        refine ⟨?_, ?_⟩ <;> (refine mine_below hb2 ?_; repeat (first | (with_reducible exact ⟨by assumption, by assumption⟩) | (with_reducible refine mine_drew ?_) | (with_reducible refine mine_drewN ?_ _) | (with_reducible refine mine_below (by assumption) ?_) | ((with_reducible refine mine_new ?_ ?_); (· (simp; done)); (· rfl)) | (with_reducible refine mine_alloc ?_ _) | (with_reducible refine mine_set ?_ _ _)))
      have zm11 : w.heap.size + 1 + 1 < w2.heap.size := World.block_lt_of_cell? _ _ m11a
      clear f1 zf1 f2 f3 zf3 f4 m5a m5b zm5 m6a m6b
      go_wp2_with fail
      exact bodyPost_ret (v := .tuple #[.agg #[.int .i64 0, .int .i64 0], .int .i64 2]) (by simp [results, Try.results33, go_sem, *]) rfl ⟨rfl, by (repeat (with_reducible (first | assumption | exact Below.refl _ _ | refine Below.drew ?_ | refine below_drewN ?_ _ | refine below_set ?_ (by simp; try omega) _ | refine below_alloc ?_ (Nat.le_refl _) _ | refine below_sub (by assumption) ?_)))⟩
  have b0 := vldB_bd h0
  have b1 := vldB_bd h1
  have s1 := sq_bd (a := px - cx) (m := 4000000) (by omega) (by omega)
  have s2 := sq_bd (a := py - cy) (m := 4000000) (by omega) (by omega)
  have s3 := sq_nonneg (px - cx)
  have s4 := sq_nonneg (py - cy)
  have s5 := sq_bd (a := r) (m := 8000000) (by omega) (by omega)
  have s6 := sq_nonneg r
  by_cases h3 : dist2 cx cy px py ≤ r * r
  · rw [tan_in (by rw [h0, h1]; rfl) h2 h3] at hR
    obtain ⟨rfl, rfl, rfl⟩ : v0 = 0 ∧ v1 = 0 ∧ e0 = 10 := by simpa using hR
    clear hR h0 h1
    unfold dist2 at h3
    go_enter Try.func33, Try.ntmps33
    go_wp2_with fail
    refine (PV0 _).mono ?_
    rintro e w1 ⟨rfl, hb1⟩
    obtain ⟨f1, f2, f3, f4⟩ : w1.cell? ⟨w.heap.size, 0, none⟩ = some (.int .i64 cx) ∧ w1.cell? ⟨w.heap.size, 1, none⟩ = some (.int .i64 cy) ∧ w1.cell? ⟨w.heap.size + 1, 0, none⟩ = some (.int .i64 px) ∧ w1.cell? ⟨w.heap.size + 1, 1, none⟩ = some (.int .i64 py) := by
      refine ⟨?_, ?_, ?_, ?_⟩ <;> (refine cell_below hb1 ?_; repeat (first | (with_reducible assumption) | (with_reducible refine cell_drew ?_) | (with_reducible refine cell_drewN ?_ _) | (with_reducible refine cell_below (by assumption) ?_) | ((with_reducible refine cell_new ?_ ?_); (· (simp; done)); (· rfl)) | (with_reducible refine cell_alloc ?_ _) | ((with_reducible refine cell_set ?_ ?_ _); (· first | (simp; done) | (simp; omega) | omega))))
    have zf1 : w.heap.size < w1.heap.size := World.block_lt_of_cell? _ _ f1
    have zf3 : w.heap.size + 1 < w1.heap.size := World.block_lt_of_cell? _ _ f3
    obtain ⟨⟨m5a, m5b⟩, ⟨m6a, m6b⟩⟩ : (w1.cell? ⟨w.heap.size + 1 + 1, 0, none⟩ = some (cellV w1 ⟨w.heap.size + 1 + 1, 0, none⟩) ∧ w1.frozen? ⟨w.heap.size + 1 + 1, 0, none⟩ = false) ∧ (w1.cell? ⟨w.heap.size + 1 + 1, 1, none⟩ = some (cellV w1 ⟨w.heap.size + 1 + 1, 1, none⟩) ∧ w1.frozen? ⟨w.heap.size + 1 + 1, 1, none⟩ = false) := by
      refine ⟨?_, ?_⟩ <;> (refine mine_below hb1 (mine_of (v := .int .i64 0) ?_ ?_) <;> simp [go_sem])
    have zm5 : w.heap.size + 1 + 1 < w1.heap.size := World.block_lt_of_cell? _ _ m5a
    go_wp2_with fail
    refine (PV1 _).mono ?_
    rintro e w2 ⟨rfl, hb2⟩
    obtain ⟨f7, f8, f9, f10⟩ : w2.cell? ⟨w.heap.size, 0, none⟩ = some (.int .i64 cx) ∧ w2.cell? ⟨w.heap.size, 1, none⟩ = some (.int .i64 cy) ∧ w2.cell? ⟨w.heap.size + 1, 0, none⟩ = some (.int .i64 px) ∧ w2.cell? ⟨w.heap.size + 1, 1, none⟩ = some (.int .i64 py) := by
      refine ⟨?_, ?_, ?_, ?_⟩ <;> (refine cell_below hb2 ?_; repeat (first | (with_reducible assumption) | (with_reducible refine cell_drew ?_) | (with_reducible refine cell_drewN ?_ _) | (with_reducible refine cell_below (by assumption) ?_) | ((with_reducible refine cell_new ?_ ?_); (· (simp; done)); (· rfl)) | (with_reducible refine cell_alloc ?_ _) | ((with_reducible refine cell_set ?_ ?_ _); (· first | (simp; done) | (simp; omega) | omega))))
    have zf7 : w.heap.size < w2.heap.size := World.block_lt_of_cell? _ _ f7
    have zf9 : w.heap.size + 1 < w2.heap.size := World.block_lt_of_cell? _ _ f9
    obtain ⟨⟨m11a, m11b⟩, ⟨m12a, m12b⟩⟩ : (w2.cell? ⟨w.heap.size + 1 + 1, 0, none⟩ = some (cellV w2 ⟨w.heap.size + 1 + 1, 0, none⟩) ∧ w2.frozen? ⟨w.heap.size + 1 + 1, 0, none⟩ = false) ∧ (w2.cell? ⟨w.heap.size + 1 + 1, 1, none⟩ = some (cellV w2 ⟨w.heap.size + 1 + 1, 1, none⟩) ∧ w2.frozen? ⟨w.heap.size + 1 + 1, 1, none⟩ = false) := by
      refine ⟨?_, ?_⟩ <;> (refine mine_below hb2 ?_; repeat (first | (with_reducible exact ⟨by assumption, by assumption⟩) | (with_reducible refine mine_drew ?_) | (with_reducible refine mine_drewN ?_ _) | (with_reducible refine mine_below (by assumption) ?_) | ((with_reducible refine mine_new ?_ ?_); (· (simp; done)); (· rfl)) | (with_reducible refine mine_alloc ?_ _) | (with_reducible refine mine_set ?_ _ _)))
    have zm11 : w.heap.size + 1 + 1 < w2.heap.size := World.block_lt_of_cell? _ _ m11a
    clear f1 zf1 f2 f3 zf3 f4 m5a m5b zm5 m6a m6b
    go_wp2_with fail
    go_quiet (fail)
    go_wp2_with fail
    exact bodyPost_ret (v := .tuple #[.agg #[.int .i64 0, .int .i64 0], .int .i64 10]) (by simp [results, Try.results33, go_sem, *]) rfl ⟨rfl, by (repeat (with_reducible (first | assumption | exact Below.refl _ _ | refine Below.drew ?_ | refine below_drewN ?_ _ | refine below_set ?_ (by simp; try omega) _ | refine below_alloc ?_ (Nat.le_refl _) _ | refine below_sub (by assumption) ?_)))⟩
  obtain ⟨Y0, hY0⟩ : ∃ Y, Y = rayF cx cy (tanDir cx cy r px py false) r := ⟨_, rfl⟩
  obtain ⟨X, Y, E⟩ := Y0
  rw [tan_ray (by rw [h0, h1]; rfl) h2 h3 hY0.symm] at hR
  have CS := fun W => course_any cx cy px py W
  have ce := tan_course (by rw [h0, h1]; rfl) h3
  rw [ce] at CS
  have cb := atan2F_bd (px - cx) (py - cy)
  unfold tanDir at hY0
  unfold dist2 at h3 hY0
  clear h0 h1 ce
  have hk : ((isq ((px - cx) * (px - cx) + (py - cy) * (py - cy) - r * r).toNat : Nat) : Int) ≤ 8000000 := isq_le' (by omega) (by
    have := isq_int ((px - cx) * (px - cx) + (py - cy) * (py - cy) - r * r) (by omega)
    omega)
  have SQ := fun W => sqrt_any ((px - cx) * (px - cx) + (py - cy) * (py - cy) - r * r) (by unfold I64; omega) W
  generalize isq ((px - cx) * (px - cx) + (py - cy) * (py - cy) - r * r).toNat = k at *
  have AT := fun W => atan2_any (k : Int) r (by omega) (by omega) (by omega) (by omega) (by omega) W
  have zb := atan2F_bd (k : Int) r
  generalize atan2F (k : Int) r = z at *
  generalize atan2F (px - cx) (py - cy) = y at *
  generalize (courseF cx cy px py).2 = ye at *
  simp only [if_true, if_false, Bool.false_eq_true] at hY0
  have TN := fun W => turn_any y (z) (by unfold I64; omega) (by unfold I64; omega) W
  have tb := turnF_bd y (z)
  generalize turnF y (z) = d at *
  have RY := fun W => ray_any cx cy d r (by unfold I64; omega) (by unfold I64; omega) W _ hY0
  clear hY0
  go_enter Try.func33, Try.ntmps33
  go_wp2_with fail
  refine (PV0 _).mono ?_
  rintro e w1 ⟨rfl, hb1⟩
  obtain ⟨f1, f2, f3, f4⟩ : w1.cell? ⟨w.heap.size, 0, none⟩ = some (.int .i64 cx) ∧ w1.cell? ⟨w.heap.size, 1, none⟩ = some (.int .i64 cy) ∧ w1.cell? ⟨w.heap.size + 1, 0, none⟩ = some (.int .i64 px) ∧ w1.cell? ⟨w.heap.size + 1, 1, none⟩ = some (.int .i64 py) := by
    refine ⟨?_, ?_, ?_, ?_⟩ <;> (refine cell_below hb1 ?_; repeat (first | (with_reducible assumption) | (with_reducible refine cell_drew ?_) | (with_reducible refine cell_drewN ?_ _) | (with_reducible refine cell_below (by assumption) ?_) | ((with_reducible refine cell_new ?_ ?_); (· (simp; done)); (· rfl)) | (with_reducible refine cell_alloc ?_ _) | ((with_reducible refine cell_set ?_ ?_ _); (· first | (simp; done) | (simp; omega) | omega))))
  have zf1 : w.heap.size < w1.heap.size := World.block_lt_of_cell? _ _ f1
  have zf3 : w.heap.size + 1 < w1.heap.size := World.block_lt_of_cell? _ _ f3
  obtain ⟨⟨m5a, m5b⟩, ⟨m6a, m6b⟩⟩ : (w1.cell? ⟨w.heap.size + 1 + 1, 0, none⟩ = some (cellV w1 ⟨w.heap.size + 1 + 1, 0, none⟩) ∧ w1.frozen? ⟨w.heap.size + 1 + 1, 0, none⟩ = false) ∧ (w1.cell? ⟨w.heap.size + 1 + 1, 1, none⟩ = some (cellV w1 ⟨w.heap.size + 1 + 1, 1, none⟩) ∧ w1.frozen? ⟨w.heap.size + 1 + 1, 1, none⟩ = false) := by
    refine ⟨?_, ?_⟩ <;> (refine mine_below hb1 (mine_of (v := .int .i64 0) ?_ ?_) <;> simp [go_sem])
  have zm5 : w.heap.size + 1 + 1 < w1.heap.size := World.block_lt_of_cell? _ _ m5a
  go_wp2_with fail
  refine (PV1 _).mono ?_
  rintro e w2 ⟨rfl, hb2⟩
  obtain ⟨f7, f8, f9, f10⟩ : w2.cell? ⟨w.heap.size, 0, none⟩ = some (.int .i64 cx) ∧ w2.cell? ⟨w.heap.size, 1, none⟩ = some (.int .i64 cy) ∧ w2.cell? ⟨w.heap.size + 1, 0, none⟩ = some (.int .i64 px) ∧ w2.cell? ⟨w.heap.size + 1, 1, none⟩ = some (.int .i64 py) := by
    refine ⟨?_, ?_, ?_, ?_⟩ <;> (refine cell_below hb2 ?_; repeat (first | (with_reducible assumption) | (with_reducible refine cell_drew ?_) | (with_reducible refine cell_drewN ?_ _) | (with_reducible refine cell_below (by assumption) ?_) | ((with_reducible refine cell_new ?_ ?_); (· (simp; done)); (· rfl)) | (with_reducible refine cell_alloc ?_ _) | ((with_reducible refine cell_set ?_ ?_ _); (· first | (simp; done) | (simp; omega) | omega))))
  have zf7 : w.heap.size < w2.heap.size := World.block_lt_of_cell? _ _ f7
  have zf9 : w.heap.size + 1 < w2.heap.size := World.block_lt_of_cell? _ _ f9
  obtain ⟨⟨m11a, m11b⟩, ⟨m12a, m12b⟩⟩ : (w2.cell? ⟨w.heap.size + 1 + 1, 0, none⟩ = some (cellV w2 ⟨w.heap.size + 1 + 1, 0, none⟩) ∧ w2.frozen? ⟨w.heap.size + 1 + 1, 0, none⟩ = false) ∧ (w2.cell? ⟨w.heap.size + 1 + 1, 1, none⟩ = some (cellV w2 ⟨w.heap.size + 1 + 1, 1, none⟩) ∧ w2.frozen? ⟨w.heap.size + 1 + 1, 1, none⟩ = false) := by
    refine ⟨?_, ?_⟩ <;> (refine mine_below hb2 ?_; repeat (first | (with_reducible exact ⟨by assumption, by assumption⟩) | (with_reducible refine mine_drew ?_) | (with_reducible refine mine_drewN ?_ _) | (with_reducible refine mine_below (by assumption) ?_) | ((with_reducible refine mine_new ?_ ?_); (· (simp; done)); (· rfl)) | (with_reducible refine mine_alloc ?_ _) | (with_reducible refine mine_set ?_ _ _)))
  have zm11 : w.heap.size + 1 + 1 < w2.heap.size := World.block_lt_of_cell? _ _ m11a
  clear f1 zf1 f2 f3 zf3 f4 m5a m5b zm5 m6a m6b
  go_wp2_with fail
  go_quiet (fail)
  go_wp2_with fail
  refine (CS _).mono ?_
  rintro e w3 ⟨rfl, hb3⟩
  obtain ⟨f13, f14, f15, f16⟩ : w3.cell? ⟨w.heap.size, 0, none⟩ = some (.int .i64 cx) ∧ w3.cell? ⟨w.heap.size, 1, none⟩ = some (.int .i64 cy) ∧ w3.cell? ⟨w.heap.size + 1, 0, none⟩ = some (.int .i64 px) ∧ w3.cell? ⟨w.heap.size + 1, 1, none⟩ = some (.int .i64 py) := by
    refine ⟨?_, ?_, ?_, ?_⟩ <;> (refine cell_below hb3 ?_; repeat (first | (with_reducible assumption) | (with_reducible refine cell_drew ?_) | (with_reducible refine cell_drewN ?_ _) | (with_reducible refine cell_below (by assumption) ?_) | ((with_reducible refine cell_new ?_ ?_); (· (simp; done)); (· rfl)) | (with_reducible refine cell_alloc ?_ _) | ((with_reducible refine cell_set ?_ ?_ _); (· first | (simp; done) | (simp; omega) | omega))))
  have zf13 : w.heap.size < w3.heap.size := World.block_lt_of_cell? _ _ f13
  have zf15 : w.heap.size + 1 < w3.heap.size := World.block_lt_of_cell? _ _ f15
  obtain ⟨⟨m17a, m17b⟩, ⟨m18a, m18b⟩⟩ : (w3.cell? ⟨w.heap.size + 1 + 1, 0, none⟩ = some (cellV w3 ⟨w.heap.size + 1 + 1, 0, none⟩) ∧ w3.frozen? ⟨w.heap.size + 1 + 1, 0, none⟩ = false) ∧ (w3.cell? ⟨w.heap.size + 1 + 1, 1, none⟩ = some (cellV w3 ⟨w.heap.size + 1 + 1, 1, none⟩) ∧ w3.frozen? ⟨w.heap.size + 1 + 1, 1, none⟩ = false) := by
    refine ⟨?_, ?_⟩ <;> (refine mine_below hb3 ?_; repeat (first | (with_reducible exact ⟨by assumption, by assumption⟩) | (with_reducible refine mine_drew ?_) | (with_reducible refine mine_drewN ?_ _) | (with_reducible refine mine_below (by assumption) ?_) | ((with_reducible refine mine_new ?_ ?_); (· (simp; done)); (· rfl)) | (with_reducible refine mine_alloc ?_ _) | (with_reducible refine mine_set ?_ _ _)))
  have zm17 : w.heap.size + 1 + 1 < w3.heap.size := World.block_lt_of_cell? _ _ m17a
  clear f7 zf7 f8 f9 zf9 f10 m11a m11b zm11 m12a m12b
  go_wp2_with (go_at_call 85; refine (SQ _).mono ?_; rintro e w' ⟨rfl, n1, rfl⟩)
  refine (AT _).mono ?_
  rintro e w4 ⟨rfl, hb4⟩
  obtain ⟨f19, f20, f21, f22⟩ : w4.cell? ⟨w.heap.size, 0, none⟩ = some (.int .i64 cx) ∧ w4.cell? ⟨w.heap.size, 1, none⟩ = some (.int .i64 cy) ∧ w4.cell? ⟨w.heap.size + 1, 0, none⟩ = some (.int .i64 px) ∧ w4.cell? ⟨w.heap.size + 1, 1, none⟩ = some (.int .i64 py) := by
    refine ⟨?_, ?_, ?_, ?_⟩ <;> (refine cell_below hb4 ?_; repeat (first | (with_reducible assumption) | (with_reducible refine cell_drew ?_) | (with_reducible refine cell_drewN ?_ _) | (with_reducible refine cell_below (by assumption) ?_) | ((with_reducible refine cell_new ?_ ?_); (· (simp; done)); (· rfl)) | (with_reducible refine cell_alloc ?_ _) | ((with_reducible refine cell_set ?_ ?_ _); (· first | (simp; done) | (simp; omega) | omega))))
  have zf19 : w.heap.size < w4.heap.size := World.block_lt_of_cell? _ _ f19
  have zf21 : w.heap.size + 1 < w4.heap.size := World.block_lt_of_cell? _ _ f21
  obtain ⟨⟨m23a, m23b⟩, ⟨m24a, m24b⟩⟩ : (w4.cell? ⟨w.heap.size + 1 + 1, 0, none⟩ = some (cellV w4 ⟨w.heap.size + 1 + 1, 0, none⟩) ∧ w4.frozen? ⟨w.heap.size + 1 + 1, 0, none⟩ = false) ∧ (w4.cell? ⟨w.heap.size + 1 + 1, 1, none⟩ = some (cellV w4 ⟨w.heap.size + 1 + 1, 1, none⟩) ∧ w4.frozen? ⟨w.heap.size + 1 + 1, 1, none⟩ = false) := by
    refine ⟨?_, ?_⟩ <;> (refine mine_below hb4 ?_; repeat (first | (with_reducible exact ⟨by assumption, by assumption⟩) | (with_reducible refine mine_drew ?_) | (with_reducible refine mine_drewN ?_ _) | (with_reducible refine mine_below (by assumption) ?_) | ((with_reducible refine mine_new ?_ ?_); (· (simp; done)); (· rfl)) | (with_reducible refine mine_alloc ?_ _) | (with_reducible refine mine_set ?_ _ _)))
  have zm23 : w.heap.size + 1 + 1 < w4.heap.size := World.block_lt_of_cell? _ _ m23a
  clear f13 zf13 f14 f15 zf15 f16 m17a m17b zm17 m18a m18b
  go_wp2_with fail
  go_cut [17, 18] (fun sA sB wx => ∃ g : Nat, sA = .pointer (some ⟨g, 0, none⟩) ∧ sB = .int .i64 E ∧ (wx.cell? ⟨g, 0, none⟩ = some (.int .i64 X) ∧ wx.cell? ⟨g, 1, none⟩ = some (.int .i64 Y)) ∧ w4.heap.size ≤ g ∧ Below w4.heap.size w4 wx)
  case first =>
    go_region_with (first
      | (go_at_call 63; refine (TN _).mono ?_; rintro e w' ⟨rfl, rfl⟩)
      | (go_at_call 65; refine (RY _).mono ?_; rintro e w' ⟨rfl, hb'⟩; have hz' := hb'.size; try (refine (fun n0 => ?_) (mine_below hb' (a := ⟨w4.heap.size, 0, none⟩) (mine_of (v := .int .i64 0) ?_ ?_)); rotate_left; (· (simp [go_sem]; done)); (· (simp [go_sem]; done)); obtain ⟨n0a, n0b⟩ := n0; refine (fun n1 => ?_) (mine_below hb' (a := ⟨w4.heap.size, 1, none⟩) (mine_of (v := .int .i64 0) ?_ ?_)); rotate_left; (· (simp [go_sem]; done)); (· (simp [go_sem]; done)); obtain ⟨n1a, n1b⟩ := n1)))
    all_goals
      go_wp2_with fail
      go_meet
      refine ⟨_, rfl, rfl, ?_, ?_, ?_⟩
      · constructor <;> (first | (simp [go_sem]; done) | (simp [go_sem, *]; done) | (simp [World.cell?_setCell, *]; done))
      · first | omega | exact Nat.le_refl _ | (simp at hz'; omega) | (simp; omega) | trace_state
      · (repeat (with_reducible (first | assumption | exact Below.refl _ _ | refine Below.drew ?_ | refine below_drewN ?_ _ | refine below_set ?_ (by simp; try omega) _ | refine below_alloc ?_ (Nat.le_refl _) _ | refine below_sub (by assumption) ?_)))
  case rest =>
    obtain ⟨g, rfl, rfl, ⟨c1, c2⟩, hg, hbc⟩ := hcut
    obtain ⟨n0a, n0b⟩ := mine_below hbc (a := ⟨w.heap.size + 1 + 1, 0, none⟩) (by repeat (first | (with_reducible exact ⟨by assumption, by assumption⟩) | (with_reducible refine mine_drew ?_) | (with_reducible refine mine_drewN ?_ _) | (with_reducible refine mine_below (by assumption) ?_) | ((with_reducible refine mine_new ?_ ?_); (· (simp; done)); (· rfl)) | (with_reducible refine mine_alloc ?_ _) | (with_reducible refine mine_set ?_ _ _)))
    obtain ⟨n1a, n1b⟩ := mine_below hbc (a := ⟨w.heap.size + 1 + 1, 1, none⟩) (by repeat (first | (with_reducible exact ⟨by assumption, by assumption⟩) | (with_reducible refine mine_drew ?_) | (with_reducible refine mine_drewN ?_ _) | (with_reducible refine mine_below (by assumption) ?_) | ((with_reducible refine mine_new ?_ ?_); (· (simp; done)); (· rfl)) | (with_reducible refine mine_alloc ?_ _) | (with_reducible refine mine_set ?_ _ _)))
    clear AT SQ CS TN RY
    by_cases hE : E = 0
    · subst hE
      obtain ⟨rfl, rfl, rfl⟩ : X = v0 ∧ Y = v1 ∧ 0 = e0 := by simpa using hR.symm
      go_wp2_with fail
      exact bodyPost_ret (v := .tuple #[.agg #[.int .i64 X, .int .i64 Y], .int .i64 0]) (by simp [results, Try.results33, go_sem, *]) rfl ⟨rfl, by (repeat (with_reducible (first | assumption | exact Below.refl _ _ | refine Below.drew ?_ | refine below_drewN ?_ _ | refine below_set ?_ (by simp; try omega) _ | refine below_alloc ?_ (Nat.le_refl _) _ | refine below_sub (by assumption) ?_)))⟩
    · obtain ⟨rfl, rfl, rfl⟩ : v0 = 0 ∧ v1 = 0 ∧ e0 = 2 := by simpa [hE] using hR
      have tE : (E == 0) = false := by rw [beq_eq_false_iff_ne]; exact hE
      go_wp2_with fail
      exact bodyPost_ret (v := .tuple #[.agg #[.int .i64 0, .int .i64 0], .int .i64 2]) (by simp [results, Try.results33, go_sem, *]) rfl ⟨rfl, by (repeat (with_reducible (first | assumption | exact Below.refl _ _ | refine Below.drew ?_ | refine below_drewN ?_ _ | refine below_set ?_ (by simp; try omega) _ | refine below_alloc ?_ (Nat.le_refl _) _ | refine below_sub (by assumption) ?_)))⟩
set_option maxRecDepth 100000 in
set_option maxHeartbeats 4000000 in
theorem tan_r (cx cy r px py : Int) (hr : I64 r) (w : World) (v0 v1 e0 : Int) (hR : (v0, v1, e0) = tanF cx cy r px py true) :
    Calls Try.prog 33 #[.agg #[.int .i64 cx, .int .i64 cy], .int .i64 r, .int .u8 2, .agg #[.int .i64 px, .int .i64 py]] w fun e w' => e = .returned (.tuple #[.agg #[.int .i64 v0, .int .i64 v1], .int .i64 e0]) ∧ Below w.heap.size w w' := by
  rcases h0 : vldB cx cy with _ | _
  · rw [tan_no (by rw [h0]; rfl)] at hR
    obtain ⟨rfl, rfl, rfl⟩ : v0 = 0 ∧ v1 = 0 ∧ e0 = 1 := by simpa using hR
    have PV0 := fun W => pvalid_e cx cy false h0 W
    clear hR h0
    go_enter Try.func33, Try.ntmps33
    go_wp2_with fail
    refine (PV0 _).mono ?_
    rintro e w1 ⟨rfl, hb1⟩
    obtain ⟨f1, f2, f3, f4⟩ : w1.cell? ⟨w.heap.size, 0, none⟩ = some (.int .i64 cx) ∧ w1.cell? ⟨w.heap.size, 1, none⟩ = some (.int .i64 cy) ∧ w1.cell? ⟨w.heap.size + 1, 0, none⟩ = some (.int .i64 px) ∧ w1.cell? ⟨w.heap.size + 1, 1, none⟩ = some (.int .i64 py) := by
      refine ⟨?_, ?_, ?_, ?_⟩ <;> (refine cell_below hb1 ?_; repeat (first | (with_reducible assumption) | (with_reducible refine cell_drew ?_) | (with_reducible refine cell_drewN ?_ _) | (with_reducible refine cell_below (by assumption) ?_) | ((with_reducible refine cell_new ?_ ?_); (· (simp; done)); (· rfl)) | (with_reducible refine cell_alloc ?_ _) | ((with_reducible refine cell_set ?_ ?_ _); (· first | (simp; done) | (simp; omega) | omega))))
    have zf1 : w.heap.size < w1.heap.size := World.block_lt_of_cell? _ _ f1
    have zf3 : w.heap.size + 1 < w1.heap.size := World.block_lt_of_cell? _ _ f3
    obtain ⟨⟨m5a, m5b⟩, ⟨m6a, m6b⟩⟩ : (w1.cell? ⟨w.heap.size + 1 + 1, 0, none⟩ = some (cellV w1 ⟨w.heap.size + 1 + 1, 0, none⟩) ∧ w1.frozen? ⟨w.heap.size + 1 + 1, 0, none⟩ = false) ∧ (w1.cell? ⟨w.heap.size + 1 + 1, 1, none⟩ = some (cellV w1 ⟨w.heap.size + 1 + 1, 1, none⟩) ∧ w1.frozen? ⟨w.heap.size + 1 + 1, 1, none⟩ = false) := by
      refine ⟨?_, ?_⟩ <;> (refine mine_below hb1 (mine_of (v := .int .i64 0) ?_ ?_) <;> simp [go_sem])
    have zm5 : w.heap.size + 1 + 1 < w1.heap.size := World.block_lt_of_cell? _ _ m5a
    go_wp2_with fail
    exact bodyPost_ret (v := .tuple #[.agg #[.int .i64 0, .int .i64 0], .int .i64 1]) (by simp [results, Try.results33, go_sem, *]) rfl ⟨rfl, by (repeat (with_reducible (first | assumption | exact Below.refl _ _ | refine Below.drew ?_ | refine below_drewN ?_ _ | refine below_set ?_ (by simp; try omega) _ | refine below_alloc ?_ (Nat.le_refl _) _ | refine below_sub (by assumption) ?_)))⟩
  have PV0 := fun W => pvalid_e cx cy true h0 W
  rcases h1 : vldB px py with _ | _
  · rw [tan_no (by rw [h0, h1]; rfl)] at hR
    obtain ⟨rfl, rfl, rfl⟩ : v0 = 0 ∧ v1 = 0 ∧ e0 = 1 := by simpa using hR
    have PV1 := fun W => pvalid_e px py false h1 W
    clear hR h0 h1
    go_enter Try.func33, Try.ntmps33
    go_wp2_with fail
    refine (PV0 _).mono ?_
    rintro e w1 ⟨rfl, hb1⟩
    obtain ⟨f1, f2, f3, f4⟩ : w1.cell? ⟨w.heap.size, 0, none⟩ = some (.int .i64 cx) ∧ w1.cell? ⟨w.heap.size, 1, none⟩ = some (.int .i64 cy) ∧ w1.cell? ⟨w.heap.size + 1, 0, none⟩ = some (.int .i64 px) ∧ w1.cell? ⟨w.heap.size + 1, 1, none⟩ = some (.int .i64 py) := by
      refine ⟨?_, ?_, ?_, ?_⟩ <;> (refine cell_below hb1 ?_; repeat (first | (with_reducible assumption) | (with_reducible refine cell_drew ?_) | (with_reducible refine cell_drewN ?_ _) | (with_reducible refine cell_below (by assumption) ?_) | ((with_reducible refine cell_new ?_ ?_); (· (simp; done)); (· rfl)) | (with_reducible refine cell_alloc ?_ _) | ((with_reducible refine cell_set ?_ ?_ _); (· first | (simp; done) | (simp; omega) | omega))))
    have zf1 : w.heap.size < w1.heap.size := World.block_lt_of_cell? _ _ f1
    have zf3 : w.heap.size + 1 < w1.heap.size := World.block_lt_of_cell? _ _ f3
    obtain ⟨⟨m5a, m5b⟩, ⟨m6a, m6b⟩⟩ : (w1.cell? ⟨w.heap.size + 1 + 1, 0, none⟩ = some (cellV w1 ⟨w.heap.size + 1 + 1, 0, none⟩) ∧ w1.frozen? ⟨w.heap.size + 1 + 1, 0, none⟩ = false) ∧ (w1.cell? ⟨w.heap.size + 1 + 1, 1, none⟩ = some (cellV w1 ⟨w.heap.size + 1 + 1, 1, none⟩) ∧ w1.frozen? ⟨w.heap.size + 1 + 1, 1, none⟩ = false) := by
      refine ⟨?_, ?_⟩ <;> (refine mine_below hb1 (mine_of (v := .int .i64 0) ?_ ?_) <;> simp [go_sem])
    have zm5 : w.heap.size + 1 + 1 < w1.heap.size := World.block_lt_of_cell? _ _ m5a
    go_wp2_with fail
    refine (PV1 _).mono ?_
    rintro e w2 ⟨rfl, hb2⟩
    obtain ⟨f7, f8, f9, f10⟩ : w2.cell? ⟨w.heap.size, 0, none⟩ = some (.int .i64 cx) ∧ w2.cell? ⟨w.heap.size, 1, none⟩ = some (.int .i64 cy) ∧ w2.cell? ⟨w.heap.size + 1, 0, none⟩ = some (.int .i64 px) ∧ w2.cell? ⟨w.heap.size + 1, 1, none⟩ = some (.int .i64 py) := by
      refine ⟨?_, ?_, ?_, ?_⟩ <;> (refine cell_below hb2 ?_; repeat (first | (with_reducible assumption) | (with_reducible refine cell_drew ?_) | (with_reducible refine cell_drewN ?_ _) | (with_reducible refine cell_below (by assumption) ?_) | ((with_reducible refine cell_new ?_ ?_); (· (simp; done)); (· rfl)) | (with_reducible refine cell_alloc ?_ _) | ((with_reducible refine cell_set ?_ ?_ _); (· first | (simp; done) | (simp; omega) | omega))))
    have zf7 : w.heap.size < w2.heap.size := World.block_lt_of_cell? _ _ f7
    have zf9 : w.heap.size + 1 < w2.heap.size := World.block_lt_of_cell? _ _ f9
    obtain ⟨⟨m11a, m11b⟩, ⟨m12a, m12b⟩⟩ : (w2.cell? ⟨w.heap.size + 1 + 1, 0, none⟩ = some (cellV w2 ⟨w.heap.size + 1 + 1, 0, none⟩) ∧ w2.frozen? ⟨w.heap.size + 1 + 1, 0, none⟩ = false) ∧ (w2.cell? ⟨w.heap.size + 1 + 1, 1, none⟩ = some (cellV w2 ⟨w.heap.size + 1 + 1, 1, none⟩) ∧ w2.frozen? ⟨w.heap.size + 1 + 1, 1, none⟩ = false) := by
      refine ⟨?_, ?_⟩ <;> (refine mine_below hb2 ?_; repeat (first | (with_reducible exact ⟨by assumption, by assumption⟩) | (with_reducible refine mine_drew ?_) | (with_reducible refine mine_drewN ?_ _) | (with_reducible refine mine_below (by assumption) ?_) | ((with_reducible refine mine_new ?_ ?_); (· (simp; done)); (· rfl)) | (with_reducible refine mine_alloc ?_ _) | (with_reducible refine mine_set ?_ _ _)))
    have zm11 : w.heap.size + 1 + 1 < w2.heap.size := World.block_lt_of_cell? _ _ m11a
    clear f1 zf1 f2 f3 zf3 f4 m5a m5b zm5 m6a m6b
    go_wp2_with fail
    exact bodyPost_ret (v := .tuple #[.agg #[.int .i64 0, .int .i64 0], .int .i64 1]) (by simp [results, Try.results33, go_sem, *]) rfl ⟨rfl, by (repeat (with_reducible (first | assumption | exact Below.refl _ _ | refine Below.drew ?_ | refine below_drewN ?_ _ | refine below_set ?_ (by simp; try omega) _ | refine below_alloc ?_ (Nat.le_refl _) _ | refine below_sub (by assumption) ?_)))⟩
  have PV1 := fun W => pvalid_e px py true h1 W
  by_cases h2 : r < 1 ∨ r > 8000000
  · rw [tan_rng (by rw [h0, h1]; rfl) h2] at hR
    obtain ⟨rfl, rfl, rfl⟩ : v0 = 0 ∧ v1 = 0 ∧ e0 = 2 := by simpa using hR
    clear hR h0 h1
    rcases h2 with h2 | h2
    all_goals
      go_enter Try.func33, Try.ntmps33
      go_wp2_with fail
      refine (PV0 _).mono ?_
      rintro e w1 ⟨rfl, hb1⟩
      obtain ⟨f1, f2, f3, f4⟩ : w1.cell? ⟨w.heap.size, 0, none⟩ = some (.int .i64 cx) ∧ w1.cell? ⟨w.heap.size, 1, none⟩ = some (.int .i64 cy) ∧ w1.cell? ⟨w.heap.size + 1, 0, none⟩ = some (.int .i64 px) ∧ w1.cell? ⟨w.heap.size + 1, 1, none⟩ = some (.int .i64 py) := by
        refine ⟨?_, ?_, ?_, ?_⟩ <;> (refine cell_below hb1 ?_; repeat (first | (with_reducible assumption) | (with_reducible refine cell_drew ?_) | (with_reducible refine cell_drewN ?_ _) | (with_reducible refine cell_below (by assumption) ?_) | ((with_reducible refine cell_new ?_ ?_); (· (simp; done)); (· rfl)) | (with_reducible refine cell_alloc ?_ _) | ((with_reducible refine cell_set ?_ ?_ _); (· first | (simp; done) | (simp; omega) | omega))))
      have zf1 : w.heap.size < w1.heap.size := World.block_lt_of_cell? _ _ f1
      have zf3 : w.heap.size + 1 < w1.heap.size := World.block_lt_of_cell? _ _ f3
      obtain ⟨⟨m5a, m5b⟩, ⟨m6a, m6b⟩⟩ : (w1.cell? ⟨w.heap.size + 1 + 1, 0, none⟩ = some (cellV w1 ⟨w.heap.size + 1 + 1, 0, none⟩) ∧ w1.frozen? ⟨w.heap.size + 1 + 1, 0, none⟩ = false) ∧ (w1.cell? ⟨w.heap.size + 1 + 1, 1, none⟩ = some (cellV w1 ⟨w.heap.size + 1 + 1, 1, none⟩) ∧ w1.frozen? ⟨w.heap.size + 1 + 1, 1, none⟩ = false) := by
        refine ⟨?_, ?_⟩ <;> (refine mine_below hb1 (mine_of (v := .int .i64 0) ?_ ?_) <;> simp [go_sem])
      have zm5 : w.heap.size + 1 + 1 < w1.heap.size := World.block_lt_of_cell? _ _ m5a
      go_wp2_with fail
      refine (PV1 _).mono ?_
      rintro e w2 ⟨rfl, hb2⟩
      obtain ⟨f7, f8, f9, f10⟩ : w2.cell? ⟨w.heap.size, 0, none⟩ = some (.int .i64 cx) ∧ w2.cell? ⟨w.heap.size, 1, none⟩ = some (.int .i64 cy) ∧ w2.cell? ⟨w.heap.size + 1, 0, none⟩ = some (.int .i64 px) ∧ w2.cell? ⟨w.heap.size + 1, 1, none⟩ = some (.int .i64 py) := by
        refine ⟨?_, ?_, ?_, ?_⟩ <;> (refine cell_below hb2 ?_; repeat (first | (with_reducible assumption) | (with_reducible refine cell_drew ?_) | (with_reducible refine cell_drewN ?_ _) | (with_reducible refine cell_below (by assumption) ?_) | ((with_reducible refine cell_new ?_ ?_); (· (simp; done)); (· rfl)) | (with_reducible refine cell_alloc ?_ _) | ((with_reducible refine cell_set ?_ ?_ _); (· first | (simp; done) | (simp; omega) | omega))))
      have zf7 : w.heap.size < w2.heap.size := World.block_lt_of_cell? _ _ f7
      have zf9 : w.heap.size + 1 < w2.heap.size := World.block_lt_of_cell? _ _ f9
      obtain ⟨⟨m11a, m11b⟩, ⟨m12a, m12b⟩⟩ : (w2.cell? ⟨w.heap.size + 1 + 1, 0, none⟩ = some (cellV w2 ⟨w.heap.size + 1 + 1, 0, none⟩) ∧ w2.frozen? ⟨w.heap.size + 1 + 1, 0, none⟩ = false) ∧ (w2.cell? ⟨w.heap.size + 1 + 1, 1, none⟩ = some (cellV w2 ⟨w.heap.size + 1 + 1, 1, none⟩) ∧ w2.frozen? ⟨w.heap.size + 1 + 1, 1, none⟩ = false) := by
        refine ⟨?_, ?_⟩ <;> (refine mine_below hb2 ?_; repeat (first | (with_reducible exact ⟨by assumption, by assumption⟩) | (with_reducible refine mine_drew ?_) | (with_reducible refine mine_drewN ?_ _) | (with_reducible refine mine_below (by assumption) ?_) | ((with_reducible refine mine_new ?_ ?_); (· (simp; done)); (· rfl)) | (with_reducible refine mine_alloc ?_ _) | (with_reducible refine mine_set ?_ _ _)))
      have zm11 : w.heap.size + 1 + 1 < w2.heap.size := World.block_lt_of_cell? _ _ m11a
      clear f1 zf1 f2 f3 zf3 f4 m5a m5b zm5 m6a m6b
      go_wp2_with fail
      exact bodyPost_ret (v := .tuple #[.agg #[.int .i64 0, .int .i64 0], .int .i64 2]) (by simp [results, Try.results33, go_sem, *]) rfl ⟨rfl, by (repeat (with_reducible (first | assumption | exact Below.refl _ _ | refine Below.drew ?_ | refine below_drewN ?_ _ | refine below_set ?_ (by simp; try omega) _ | refine below_alloc ?_ (Nat.le_refl _) _ | refine below_sub (by assumption) ?_)))⟩
  have b0 := vldB_bd h0
  have b1 := vldB_bd h1
  have s1 := sq_bd (a := px - cx) (m := 4000000) (by omega) (by omega)
  have s2 := sq_bd (a := py - cy) (m := 4000000) (by omega) (by omega)
  have s3 := sq_nonneg (px - cx)
  have s4 := sq_nonneg (py - cy)
  have s5 := sq_bd (a := r) (m := 8000000) (by omega) (by omega)
  have s6 := sq_nonneg r
  by_cases h3 : dist2 cx cy px py ≤ r * r
  · rw [tan_in (by rw [h0, h1]; rfl) h2 h3] at hR
    obtain ⟨rfl, rfl, rfl⟩ : v0 = 0 ∧ v1 = 0 ∧ e0 = 10 := by simpa using hR
    clear hR h0 h1
    unfold dist2 at h3
    go_enter Try.func33, Try.ntmps33
    go_wp2_with fail
    refine (PV0 _).mono ?_
    rintro e w1 ⟨rfl, hb1⟩
    obtain ⟨f1, f2, f3, f4⟩ : w1.cell? ⟨w.heap.size, 0, none⟩ = some (.int .i64 cx) ∧ w1.cell? ⟨w.heap.size, 1, none⟩ = some (.int .i64 cy) ∧ w1.cell? ⟨w.heap.size + 1, 0, none⟩ = some (.int .i64 px) ∧ w1.cell? ⟨w.heap.size + 1, 1, none⟩ = some (.int .i64 py) := by
      refine ⟨?_, ?_, ?_, ?_⟩ <;> (refine cell_below hb1 ?_; repeat (first | (with_reducible assumption) | (with_reducible refine cell_drew ?_) | (with_reducible refine cell_drewN ?_ _) | (with_reducible refine cell_below (by assumption) ?_) | ((with_reducible refine cell_new ?_ ?_); (· (simp; done)); (· rfl)) | (with_reducible refine cell_alloc ?_ _) | ((with_reducible refine cell_set ?_ ?_ _); (· first | (simp; done) | (simp; omega) | omega))))
    have zf1 : w.heap.size < w1.heap.size := World.block_lt_of_cell? _ _ f1
    have zf3 : w.heap.size + 1 < w1.heap.size := World.block_lt_of_cell? _ _ f3
    obtain ⟨⟨m5a, m5b⟩, ⟨m6a, m6b⟩⟩ : (w1.cell? ⟨w.heap.size + 1 + 1, 0, none⟩ = some (cellV w1 ⟨w.heap.size + 1 + 1, 0, none⟩) ∧ w1.frozen? ⟨w.heap.size + 1 + 1, 0, none⟩ = false) ∧ (w1.cell? ⟨w.heap.size + 1 + 1, 1, none⟩ = some (cellV w1 ⟨w.heap.size + 1 + 1, 1, none⟩) ∧ w1.frozen? ⟨w.heap.size + 1 + 1, 1, none⟩ = false) := by
      refine ⟨?_, ?_⟩ <;> (refine mine_below hb1 (mine_of (v := .int .i64 0) ?_ ?_) <;> simp [go_sem])
    have zm5 : w.heap.size + 1 + 1 < w1.heap.size := World.block_lt_of_cell? _ _ m5a
    go_wp2_with fail
    refine (PV1 _).mono ?_
    rintro e w2 ⟨rfl, hb2⟩
    obtain ⟨f7, f8, f9, f10⟩ : w2.cell? ⟨w.heap.size, 0, none⟩ = some (.int .i64 cx) ∧ w2.cell? ⟨w.heap.size, 1, none⟩ = some (.int .i64 cy) ∧ w2.cell? ⟨w.heap.size + 1, 0, none⟩ = some (.int .i64 px) ∧ w2.cell? ⟨w.heap.size + 1, 1, none⟩ = some (.int .i64 py) := by
      refine ⟨?_, ?_, ?_, ?_⟩ <;> (refine cell_below hb2 ?_; repeat (first | (with_reducible assumption) | (with_reducible refine cell_drew ?_) | (with_reducible refine cell_drewN ?_ _) | (with_reducible refine cell_below (by assumption) ?_) | ((with_reducible refine cell_new ?_ ?_); (· (simp; done)); (· rfl)) | (with_reducible refine cell_alloc ?_ _) | ((with_reducible refine cell_set ?_ ?_ _); (· first | (simp; done) | (simp; omega) | omega))))
    have zf7 : w.heap.size < w2.heap.size := World.block_lt_of_cell? _ _ f7
    have zf9 : w.heap.size + 1 < w2.heap.size := World.block_lt_of_cell? _ _ f9
    obtain ⟨⟨m11a, m11b⟩, ⟨m12a, m12b⟩⟩ : (w2.cell? ⟨w.heap.size + 1 + 1, 0, none⟩ = some (cellV w2 ⟨w.heap.size + 1 + 1, 0, none⟩) ∧ w2.frozen? ⟨w.heap.size + 1 + 1, 0, none⟩ = false) ∧ (w2.cell? ⟨w.heap.size + 1 + 1, 1, none⟩ = some (cellV w2 ⟨w.heap.size + 1 + 1, 1, none⟩) ∧ w2.frozen? ⟨w.heap.size + 1 + 1, 1, none⟩ = false) := by
      refine ⟨?_, ?_⟩ <;> (refine mine_below hb2 ?_; repeat (first | (with_reducible exact ⟨by assumption, by assumption⟩) | (with_reducible refine mine_drew ?_) | (with_reducible refine mine_drewN ?_ _) | (with_reducible refine mine_below (by assumption) ?_) | ((with_reducible refine mine_new ?_ ?_); (· (simp; done)); (· rfl)) | (with_reducible refine mine_alloc ?_ _) | (with_reducible refine mine_set ?_ _ _)))
    have zm11 : w.heap.size + 1 + 1 < w2.heap.size := World.block_lt_of_cell? _ _ m11a
    clear f1 zf1 f2 f3 zf3 f4 m5a m5b zm5 m6a m6b
    go_wp2_with fail
    go_quiet (fail)
    go_wp2_with fail
    exact bodyPost_ret (v := .tuple #[.agg #[.int .i64 0, .int .i64 0], .int .i64 10]) (by simp [results, Try.results33, go_sem, *]) rfl ⟨rfl, by (repeat (with_reducible (first | assumption | exact Below.refl _ _ | refine Below.drew ?_ | refine below_drewN ?_ _ | refine below_set ?_ (by simp; try omega) _ | refine below_alloc ?_ (Nat.le_refl _) _ | refine below_sub (by assumption) ?_)))⟩
  obtain ⟨Y0, hY0⟩ : ∃ Y, Y = rayF cx cy (tanDir cx cy r px py true) r := ⟨_, rfl⟩
  obtain ⟨X, Y, E⟩ := Y0
  rw [tan_ray (by rw [h0, h1]; rfl) h2 h3 hY0.symm] at hR
  have CS := fun W => course_any cx cy px py W
  have ce := tan_course (by rw [h0, h1]; rfl) h3
  rw [ce] at CS
  have cb := atan2F_bd (px - cx) (py - cy)
  unfold tanDir at hY0
  unfold dist2 at h3 hY0
  clear h0 h1 ce
  have hk : ((isq ((px - cx) * (px - cx) + (py - cy) * (py - cy) - r * r).toNat : Nat) : Int) ≤ 8000000 := isq_le' (by omega) (by
    have := isq_int ((px - cx) * (px - cx) + (py - cy) * (py - cy) - r * r) (by omega)
    omega)
  have SQ := fun W => sqrt_any ((px - cx) * (px - cx) + (py - cy) * (py - cy) - r * r) (by unfold I64; omega) W
  generalize isq ((px - cx) * (px - cx) + (py - cy) * (py - cy) - r * r).toNat = k at *
  have AT := fun W => atan2_any (k : Int) r (by omega) (by omega) (by omega) (by omega) (by omega) W
  have zb := atan2F_bd (k : Int) r
  generalize atan2F (k : Int) r = z at *
  generalize atan2F (px - cx) (py - cy) = y at *
  generalize (courseF cx cy px py).2 = ye at *
  simp only [if_true, if_false, Bool.false_eq_true] at hY0
  have TN := fun W => turn_any y (-z) (by unfold I64; omega) (by unfold I64; omega) W
  have tb := turnF_bd y (-z)
  generalize turnF y (-z) = d at *
  have RY := fun W => ray_any cx cy d r (by unfold I64; omega) (by unfold I64; omega) W _ hY0
  clear hY0
  go_enter Try.func33, Try.ntmps33
  go_wp2_with fail
  refine (PV0 _).mono ?_
  rintro e w1 ⟨rfl, hb1⟩
  obtain ⟨f1, f2, f3, f4⟩ : w1.cell? ⟨w.heap.size, 0, none⟩ = some (.int .i64 cx) ∧ w1.cell? ⟨w.heap.size, 1, none⟩ = some (.int .i64 cy) ∧ w1.cell? ⟨w.heap.size + 1, 0, none⟩ = some (.int .i64 px) ∧ w1.cell? ⟨w.heap.size + 1, 1, none⟩ = some (.int .i64 py) := by
    refine ⟨?_, ?_, ?_, ?_⟩ <;> (refine cell_below hb1 ?_; repeat (first | (with_reducible assumption) | (with_reducible refine cell_drew ?_) | (with_reducible refine cell_drewN ?_ _) | (with_reducible refine cell_below (by assumption) ?_) | ((with_reducible refine cell_new ?_ ?_); (· (simp; done)); (· rfl)) | (with_reducible refine cell_alloc ?_ _) | ((with_reducible refine cell_set ?_ ?_ _); (· first | (simp; done) | (simp; omega) | omega))))
  have zf1 : w.heap.size < w1.heap.size := World.block_lt_of_cell? _ _ f1
  have zf3 : w.heap.size + 1 < w1.heap.size := World.block_lt_of_cell? _ _ f3
  obtain ⟨⟨m5a, m5b⟩, ⟨m6a, m6b⟩⟩ : (w1.cell? ⟨w.heap.size + 1 + 1, 0, none⟩ = some (cellV w1 ⟨w.heap.size + 1 + 1, 0, none⟩) ∧ w1.frozen? ⟨w.heap.size + 1 + 1, 0, none⟩ = false) ∧ (w1.cell? ⟨w.heap.size + 1 + 1, 1, none⟩ = some (cellV w1 ⟨w.heap.size + 1 + 1, 1, none⟩) ∧ w1.frozen? ⟨w.heap.size + 1 + 1, 1, none⟩ = false) := by
    refine ⟨?_, ?_⟩ <;> (refine mine_below hb1 (mine_of (v := .int .i64 0) ?_ ?_) <;> simp [go_sem])
  have zm5 : w.heap.size + 1 + 1 < w1.heap.size := World.block_lt_of_cell? _ _ m5a
  go_wp2_with fail
  refine (PV1 _).mono ?_
  rintro e w2 ⟨rfl, hb2⟩
  obtain ⟨f7, f8, f9, f10⟩ : w2.cell? ⟨w.heap.size, 0, none⟩ = some (.int .i64 cx) ∧ w2.cell? ⟨w.heap.size, 1, none⟩ = some (.int .i64 cy) ∧ w2.cell? ⟨w.heap.size + 1, 0, none⟩ = some (.int .i64 px) ∧ w2.cell? ⟨w.heap.size + 1, 1, none⟩ = some (.int .i64 py) := by
    refine ⟨?_, ?_, ?_, ?_⟩ <;> (refine cell_below hb2 ?_; repeat (first | (with_reducible assumption) | (with_reducible refine cell_drew ?_) | (with_reducible refine cell_drewN ?_ _) | (with_reducible refine cell_below (by assumption) ?_) | ((with_reducible refine cell_new ?_ ?_); (· (simp; done)); (· rfl)) | (with_reducible refine cell_alloc ?_ _) | ((with_reducible refine cell_set ?_ ?_ _); (· first | (simp; done) | (simp; omega) | omega))))
  have zf7 : w.heap.size < w2.heap.size := World.block_lt_of_cell? _ _ f7
  have zf9 : w.heap.size + 1 < w2.heap.size := World.block_lt_of_cell? _ _ f9
  obtain ⟨⟨m11a, m11b⟩, ⟨m12a, m12b⟩⟩ : (w2.cell? ⟨w.heap.size + 1 + 1, 0, none⟩ = some (cellV w2 ⟨w.heap.size + 1 + 1, 0, none⟩) ∧ w2.frozen? ⟨w.heap.size + 1 + 1, 0, none⟩ = false) ∧ (w2.cell? ⟨w.heap.size + 1 + 1, 1, none⟩ = some (cellV w2 ⟨w.heap.size + 1 + 1, 1, none⟩) ∧ w2.frozen? ⟨w.heap.size + 1 + 1, 1, none⟩ = false) := by
    refine ⟨?_, ?_⟩ <;> (refine mine_below hb2 ?_; repeat (first | (with_reducible exact ⟨by assumption, by assumption⟩) | (with_reducible refine mine_drew ?_) | (with_reducible refine mine_drewN ?_ _) | (with_reducible refine mine_below (by assumption) ?_) | ((with_reducible refine mine_new ?_ ?_); (· (simp; done)); (· rfl)) | (with_reducible refine mine_alloc ?_ _) | (with_reducible refine mine_set ?_ _ _)))
  have zm11 : w.heap.size + 1 + 1 < w2.heap.size := World.block_lt_of_cell? _ _ m11a
  clear f1 zf1 f2 f3 zf3 f4 m5a m5b zm5 m6a m6b
  go_wp2_with fail
  go_quiet (fail)
  go_wp2_with fail
  refine (CS _).mono ?_
  rintro e w3 ⟨rfl, hb3⟩
  obtain ⟨f13, f14, f15, f16⟩ : w3.cell? ⟨w.heap.size, 0, none⟩ = some (.int .i64 cx) ∧ w3.cell? ⟨w.heap.size, 1, none⟩ = some (.int .i64 cy) ∧ w3.cell? ⟨w.heap.size + 1, 0, none⟩ = some (.int .i64 px) ∧ w3.cell? ⟨w.heap.size + 1, 1, none⟩ = some (.int .i64 py) := by
    refine ⟨?_, ?_, ?_, ?_⟩ <;> (refine cell_below hb3 ?_; repeat (first | (with_reducible assumption) | (with_reducible refine cell_drew ?_) | (with_reducible refine cell_drewN ?_ _) | (with_reducible refine cell_below (by assumption) ?_) | ((with_reducible refine cell_new ?_ ?_); (· (simp; done)); (· rfl)) | (with_reducible refine cell_alloc ?_ _) | ((with_reducible refine cell_set ?_ ?_ _); (· first | (simp; done) | (simp; omega) | omega))))
  have zf13 : w.heap.size < w3.heap.size := World.block_lt_of_cell? _ _ f13
  have zf15 : w.heap.size + 1 < w3.heap.size := World.block_lt_of_cell? _ _ f15
  obtain ⟨⟨m17a, m17b⟩, ⟨m18a, m18b⟩⟩ : (w3.cell? ⟨w.heap.size + 1 + 1, 0, none⟩ = some (cellV w3 ⟨w.heap.size + 1 + 1, 0, none⟩) ∧ w3.frozen? ⟨w.heap.size + 1 + 1, 0, none⟩ = false) ∧ (w3.cell? ⟨w.heap.size + 1 + 1, 1, none⟩ = some (cellV w3 ⟨w.heap.size + 1 + 1, 1, none⟩) ∧ w3.frozen? ⟨w.heap.size + 1 + 1, 1, none⟩ = false) := by
    refine ⟨?_, ?_⟩ <;> (refine mine_below hb3 ?_; repeat (first | (with_reducible exact ⟨by assumption, by assumption⟩) | (with_reducible refine mine_drew ?_) | (with_reducible refine mine_drewN ?_ _) | (with_reducible refine mine_below (by assumption) ?_) | ((with_reducible refine mine_new ?_ ?_); (· (simp; done)); (· rfl)) | (with_reducible refine mine_alloc ?_ _) | (with_reducible refine mine_set ?_ _ _)))
  have zm17 : w.heap.size + 1 + 1 < w3.heap.size := World.block_lt_of_cell? _ _ m17a
  clear f7 zf7 f8 f9 zf9 f10 m11a m11b zm11 m12a m12b
  go_wp2_with (go_at_call 85; refine (SQ _).mono ?_; rintro e w' ⟨rfl, n1, rfl⟩)
  refine (AT _).mono ?_
  rintro e w4 ⟨rfl, hb4⟩
  obtain ⟨f19, f20, f21, f22⟩ : w4.cell? ⟨w.heap.size, 0, none⟩ = some (.int .i64 cx) ∧ w4.cell? ⟨w.heap.size, 1, none⟩ = some (.int .i64 cy) ∧ w4.cell? ⟨w.heap.size + 1, 0, none⟩ = some (.int .i64 px) ∧ w4.cell? ⟨w.heap.size + 1, 1, none⟩ = some (.int .i64 py) := by
    refine ⟨?_, ?_, ?_, ?_⟩ <;> (refine cell_below hb4 ?_; repeat (first | (with_reducible assumption) | (with_reducible refine cell_drew ?_) | (with_reducible refine cell_drewN ?_ _) | (with_reducible refine cell_below (by assumption) ?_) | ((with_reducible refine cell_new ?_ ?_); (· (simp; done)); (· rfl)) | (with_reducible refine cell_alloc ?_ _) | ((with_reducible refine cell_set ?_ ?_ _); (· first | (simp; done) | (simp; omega) | omega))))
  have zf19 : w.heap.size < w4.heap.size := World.block_lt_of_cell? _ _ f19
  have zf21 : w.heap.size + 1 < w4.heap.size := World.block_lt_of_cell? _ _ f21
  obtain ⟨⟨m23a, m23b⟩, ⟨m24a, m24b⟩⟩ : (w4.cell? ⟨w.heap.size + 1 + 1, 0, none⟩ = some (cellV w4 ⟨w.heap.size + 1 + 1, 0, none⟩) ∧ w4.frozen? ⟨w.heap.size + 1 + 1, 0, none⟩ = false) ∧ (w4.cell? ⟨w.heap.size + 1 + 1, 1, none⟩ = some (cellV w4 ⟨w.heap.size + 1 + 1, 1, none⟩) ∧ w4.frozen? ⟨w.heap.size + 1 + 1, 1, none⟩ = false) := by
    refine ⟨?_, ?_⟩ <;> (refine mine_below hb4 ?_; repeat (first | (with_reducible exact ⟨by assumption, by assumption⟩) | (with_reducible refine mine_drew ?_) | (with_reducible refine mine_drewN ?_ _) | (with_reducible refine mine_below (by assumption) ?_) | ((with_reducible refine mine_new ?_ ?_); (· (simp; done)); (· rfl)) | (with_reducible refine mine_alloc ?_ _) | (with_reducible refine mine_set ?_ _ _)))
  have zm23 : w.heap.size + 1 + 1 < w4.heap.size := World.block_lt_of_cell? _ _ m23a
  clear f13 zf13 f14 f15 zf15 f16 m17a m17b zm17 m18a m18b
  go_wp2_with fail
  go_cut [17, 18] (fun sA sB wx => ∃ g : Nat, sA = .pointer (some ⟨g, 0, none⟩) ∧ sB = .int .i64 E ∧ (wx.cell? ⟨g, 0, none⟩ = some (.int .i64 X) ∧ wx.cell? ⟨g, 1, none⟩ = some (.int .i64 Y)) ∧ w4.heap.size ≤ g ∧ Below w4.heap.size w4 wx)
  case first =>
    go_region_with (first
      | (go_at_call 63; refine (TN _).mono ?_; rintro e w' ⟨rfl, rfl⟩)
      | (go_at_call 65; refine (RY _).mono ?_; rintro e w' ⟨rfl, hb'⟩; have hz' := hb'.size; try (refine (fun n0 => ?_) (mine_below hb' (a := ⟨w4.heap.size, 0, none⟩) (mine_of (v := .int .i64 0) ?_ ?_)); rotate_left; (· (simp [go_sem]; done)); (· (simp [go_sem]; done)); obtain ⟨n0a, n0b⟩ := n0; refine (fun n1 => ?_) (mine_below hb' (a := ⟨w4.heap.size, 1, none⟩) (mine_of (v := .int .i64 0) ?_ ?_)); rotate_left; (· (simp [go_sem]; done)); (· (simp [go_sem]; done)); obtain ⟨n1a, n1b⟩ := n1)))
    all_goals
      go_wp2_with fail
      go_meet
      refine ⟨_, rfl, rfl, ?_, ?_, ?_⟩
      · constructor <;> (first | (simp [go_sem]; done) | (simp [go_sem, *]; done) | (simp [World.cell?_setCell, *]; done))
      · first | omega | exact Nat.le_refl _ | (simp at hz'; omega) | (simp; omega) | trace_state
      · (repeat (with_reducible (first | assumption | exact Below.refl _ _ | refine Below.drew ?_ | refine below_drewN ?_ _ | refine below_set ?_ (by simp; try omega) _ | refine below_alloc ?_ (Nat.le_refl _) _ | refine below_sub (by assumption) ?_)))
  case rest =>
    obtain ⟨g, rfl, rfl, ⟨c1, c2⟩, hg, hbc⟩ := hcut
    obtain ⟨n0a, n0b⟩ := mine_below hbc (a := ⟨w.heap.size + 1 + 1, 0, none⟩) (by repeat (first | (with_reducible exact ⟨by assumption, by assumption⟩) | (with_reducible refine mine_drew ?_) | (with_reducible refine mine_drewN ?_ _) | (with_reducible refine mine_below (by assumption) ?_) | ((with_reducible refine mine_new ?_ ?_); (· (simp; done)); (· rfl)) | (with_reducible refine mine_alloc ?_ _) | (with_reducible refine mine_set ?_ _ _)))
    obtain ⟨n1a, n1b⟩ := mine_below hbc (a := ⟨w.heap.size + 1 + 1, 1, none⟩) (by repeat (first | (with_reducible exact ⟨by assumption, by assumption⟩) | (with_reducible refine mine_drew ?_) | (with_reducible refine mine_drewN ?_ _) | (with_reducible refine mine_below (by assumption) ?_) | ((with_reducible refine mine_new ?_ ?_); (· (simp; done)); (· rfl)) | (with_reducible refine mine_alloc ?_ _) | (with_reducible refine mine_set ?_ _ _)))
    clear AT SQ CS TN RY
    by_cases hE : E = 0
    · subst hE
      obtain ⟨rfl, rfl, rfl⟩ : X = v0 ∧ Y = v1 ∧ 0 = e0 := by simpa using hR.symm
      go_wp2_with fail
      exact bodyPost_ret (v := .tuple #[.agg #[.int .i64 X, .int .i64 Y], .int .i64 0]) (by simp [results, Try.results33, go_sem, *]) rfl ⟨rfl, by (repeat (with_reducible (first | assumption | exact Below.refl _ _ | refine Below.drew ?_ | refine below_drewN ?_ _ | refine below_set ?_ (by simp; try omega) _ | refine below_alloc ?_ (Nat.le_refl _) _ | refine below_sub (by assumption) ?_)))⟩
    · obtain ⟨rfl, rfl, rfl⟩ : v0 = 0 ∧ v1 = 0 ∧ e0 = 2 := by simpa [hE] using hR
      have tE : (E == 0) = false := by rw [beq_eq_false_iff_ne]; exact hE
      go_wp2_with fail
      exact bodyPost_ret (v := .tuple #[.agg #[.int .i64 0, .int .i64 0], .int .i64 2]) (by simp [results, Try.results33, go_sem, *]) rfl ⟨rfl, by (repeat (with_reducible (first | assumption | exact Below.refl _ _ | refine Below.drew ?_ | refine below_drewN ?_ _ | refine below_set ?_ (by simp; try omega) _ | refine below_alloc ?_ (Nat.le_refl _) _ | refine below_sub (by assumption) ?_)))⟩
set_option maxRecDepth 100000 in
set_option maxHeartbeats 4000000 in
theorem tan_o (cx cy r px py : Int) (w : World) :
    Calls Try.prog 33 #[.agg #[.int .i64 cx, .int .i64 cy], .int .i64 r, .int .u8 0, .agg #[.int .i64 px, .int .i64 py]] w fun e w' => e = .returned (.tuple #[.agg #[.int .i64 0, .int .i64 0], .int .i64 1]) ∧ Below w.heap.size w w' := by
  rcases h0 : vldB cx cy with _ | _
  · have PV0 := fun W => pvalid_e cx cy false h0 W
    clear h0
    go_enter Try.func33, Try.ntmps33
    go_wp2_with fail
    refine (PV0 _).mono ?_
    rintro e w1 ⟨rfl, hb1⟩
    obtain ⟨f1, f2, f3, f4⟩ : w1.cell? ⟨w.heap.size, 0, none⟩ = some (.int .i64 cx) ∧ w1.cell? ⟨w.heap.size, 1, none⟩ = some (.int .i64 cy) ∧ w1.cell? ⟨w.heap.size + 1, 0, none⟩ = some (.int .i64 px) ∧ w1.cell? ⟨w.heap.size + 1, 1, none⟩ = some (.int .i64 py) := by
      refine ⟨?_, ?_, ?_, ?_⟩ <;> (refine cell_below hb1 ?_; repeat (first | (with_reducible assumption) | (with_reducible refine cell_drew ?_) | (with_reducible refine cell_drewN ?_ _) | (with_reducible refine cell_below (by assumption) ?_) | ((with_reducible refine cell_new ?_ ?_); (· (simp; done)); (· rfl)) | (with_reducible refine cell_alloc ?_ _) | ((with_reducible refine cell_set ?_ ?_ _); (· first | (simp; done) | (simp; omega) | omega))))
    have zf1 : w.heap.size < w1.heap.size := World.block_lt_of_cell? _ _ f1
    have zf3 : w.heap.size + 1 < w1.heap.size := World.block_lt_of_cell? _ _ f3
    obtain ⟨⟨m5a, m5b⟩, ⟨m6a, m6b⟩⟩ : (w1.cell? ⟨w.heap.size + 1 + 1, 0, none⟩ = some (cellV w1 ⟨w.heap.size + 1 + 1, 0, none⟩) ∧ w1.frozen? ⟨w.heap.size + 1 + 1, 0, none⟩ = false) ∧ (w1.cell? ⟨w.heap.size + 1 + 1, 1, none⟩ = some (cellV w1 ⟨w.heap.size + 1 + 1, 1, none⟩) ∧ w1.frozen? ⟨w.heap.size + 1 + 1, 1, none⟩ = false) := by
      refine ⟨?_, ?_⟩ <;> (refine mine_below hb1 (mine_of (v := .int .i64 0) ?_ ?_) <;> simp [go_sem])
    have zm5 : w.heap.size + 1 + 1 < w1.heap.size := World.block_lt_of_cell? _ _ m5a
    go_wp2_with fail
    exact bodyPost_ret (v := .tuple #[.agg #[.int .i64 0, .int .i64 0], .int .i64 1]) (by simp [results, Try.results33, go_sem, *]) rfl ⟨rfl, by (repeat (with_reducible (first | assumption | exact Below.refl _ _ | refine Below.drew ?_ | refine below_drewN ?_ _ | refine below_set ?_ (by simp; try omega) _ | refine below_alloc ?_ (Nat.le_refl _) _ | refine below_sub (by assumption) ?_)))⟩
  have PV0 := fun W => pvalid_e cx cy true h0 W
  rcases h1 : vldB px py with _ | _
  · have PV1 := fun W => pvalid_e px py false h1 W
    clear h0 h1
    go_enter Try.func33, Try.ntmps33
    go_wp2_with fail
    refine (PV0 _).mono ?_
    rintro e w1 ⟨rfl, hb1⟩
    obtain ⟨f1, f2, f3, f4⟩ : w1.cell? ⟨w.heap.size, 0, none⟩ = some (.int .i64 cx) ∧ w1.cell? ⟨w.heap.size, 1, none⟩ = some (.int .i64 cy) ∧ w1.cell? ⟨w.heap.size + 1, 0, none⟩ = some (.int .i64 px) ∧ w1.cell? ⟨w.heap.size + 1, 1, none⟩ = some (.int .i64 py) := by
      refine ⟨?_, ?_, ?_, ?_⟩ <;> (refine cell_below hb1 ?_; repeat (first | (with_reducible assumption) | (with_reducible refine cell_drew ?_) | (with_reducible refine cell_drewN ?_ _) | (with_reducible refine cell_below (by assumption) ?_) | ((with_reducible refine cell_new ?_ ?_); (· (simp; done)); (· rfl)) | (with_reducible refine cell_alloc ?_ _) | ((with_reducible refine cell_set ?_ ?_ _); (· first | (simp; done) | (simp; omega) | omega))))
    have zf1 : w.heap.size < w1.heap.size := World.block_lt_of_cell? _ _ f1
    have zf3 : w.heap.size + 1 < w1.heap.size := World.block_lt_of_cell? _ _ f3
    obtain ⟨⟨m5a, m5b⟩, ⟨m6a, m6b⟩⟩ : (w1.cell? ⟨w.heap.size + 1 + 1, 0, none⟩ = some (cellV w1 ⟨w.heap.size + 1 + 1, 0, none⟩) ∧ w1.frozen? ⟨w.heap.size + 1 + 1, 0, none⟩ = false) ∧ (w1.cell? ⟨w.heap.size + 1 + 1, 1, none⟩ = some (cellV w1 ⟨w.heap.size + 1 + 1, 1, none⟩) ∧ w1.frozen? ⟨w.heap.size + 1 + 1, 1, none⟩ = false) := by
      refine ⟨?_, ?_⟩ <;> (refine mine_below hb1 (mine_of (v := .int .i64 0) ?_ ?_) <;> simp [go_sem])
    have zm5 : w.heap.size + 1 + 1 < w1.heap.size := World.block_lt_of_cell? _ _ m5a
    go_wp2_with fail
    refine (PV1 _).mono ?_
    rintro e w2 ⟨rfl, hb2⟩
    obtain ⟨f7, f8, f9, f10⟩ : w2.cell? ⟨w.heap.size, 0, none⟩ = some (.int .i64 cx) ∧ w2.cell? ⟨w.heap.size, 1, none⟩ = some (.int .i64 cy) ∧ w2.cell? ⟨w.heap.size + 1, 0, none⟩ = some (.int .i64 px) ∧ w2.cell? ⟨w.heap.size + 1, 1, none⟩ = some (.int .i64 py) := by
      refine ⟨?_, ?_, ?_, ?_⟩ <;> (refine cell_below hb2 ?_; repeat (first | (with_reducible assumption) | (with_reducible refine cell_drew ?_) | (with_reducible refine cell_drewN ?_ _) | (with_reducible refine cell_below (by assumption) ?_) | ((with_reducible refine cell_new ?_ ?_); (· (simp; done)); (· rfl)) | (with_reducible refine cell_alloc ?_ _) | ((with_reducible refine cell_set ?_ ?_ _); (· first | (simp; done) | (simp; omega) | omega))))
    have zf7 : w.heap.size < w2.heap.size := World.block_lt_of_cell? _ _ f7
    have zf9 : w.heap.size + 1 < w2.heap.size := World.block_lt_of_cell? _ _ f9
    obtain ⟨⟨m11a, m11b⟩, ⟨m12a, m12b⟩⟩ : (w2.cell? ⟨w.heap.size + 1 + 1, 0, none⟩ = some (cellV w2 ⟨w.heap.size + 1 + 1, 0, none⟩) ∧ w2.frozen? ⟨w.heap.size + 1 + 1, 0, none⟩ = false) ∧ (w2.cell? ⟨w.heap.size + 1 + 1, 1, none⟩ = some (cellV w2 ⟨w.heap.size + 1 + 1, 1, none⟩) ∧ w2.frozen? ⟨w.heap.size + 1 + 1, 1, none⟩ = false) := by
      refine ⟨?_, ?_⟩ <;> (refine mine_below hb2 ?_; repeat (first | (with_reducible exact ⟨by assumption, by assumption⟩) | (with_reducible refine mine_drew ?_) | (with_reducible refine mine_drewN ?_ _) | (with_reducible refine mine_below (by assumption) ?_) | ((with_reducible refine mine_new ?_ ?_); (· (simp; done)); (· rfl)) | (with_reducible refine mine_alloc ?_ _) | (with_reducible refine mine_set ?_ _ _)))
    have zm11 : w.heap.size + 1 + 1 < w2.heap.size := World.block_lt_of_cell? _ _ m11a
    clear f1 zf1 f2 f3 zf3 f4 m5a m5b zm5 m6a m6b
    go_wp2_with fail
    exact bodyPost_ret (v := .tuple #[.agg #[.int .i64 0, .int .i64 0], .int .i64 1]) (by simp [results, Try.results33, go_sem, *]) rfl ⟨rfl, by (repeat (with_reducible (first | assumption | exact Below.refl _ _ | refine Below.drew ?_ | refine below_drewN ?_ _ | refine below_set ?_ (by simp; try omega) _ | refine below_alloc ?_ (Nat.le_refl _) _ | refine below_sub (by assumption) ?_)))⟩
  · have PV1 := fun W => pvalid_e px py true h1 W
    clear h0 h1
    go_enter Try.func33, Try.ntmps33
    go_wp2_with fail
    refine (PV0 _).mono ?_
    rintro e w1 ⟨rfl, hb1⟩
    obtain ⟨f1, f2, f3, f4⟩ : w1.cell? ⟨w.heap.size, 0, none⟩ = some (.int .i64 cx) ∧ w1.cell? ⟨w.heap.size, 1, none⟩ = some (.int .i64 cy) ∧ w1.cell? ⟨w.heap.size + 1, 0, none⟩ = some (.int .i64 px) ∧ w1.cell? ⟨w.heap.size + 1, 1, none⟩ = some (.int .i64 py) := by
      refine ⟨?_, ?_, ?_, ?_⟩ <;> (refine cell_below hb1 ?_; repeat (first | (with_reducible assumption) | (with_reducible refine cell_drew ?_) | (with_reducible refine cell_drewN ?_ _) | (with_reducible refine cell_below (by assumption) ?_) | ((with_reducible refine cell_new ?_ ?_); (· (simp; done)); (· rfl)) | (with_reducible refine cell_alloc ?_ _) | ((with_reducible refine cell_set ?_ ?_ _); (· first | (simp; done) | (simp; omega) | omega))))
    have zf1 : w.heap.size < w1.heap.size := World.block_lt_of_cell? _ _ f1
    have zf3 : w.heap.size + 1 < w1.heap.size := World.block_lt_of_cell? _ _ f3
    obtain ⟨⟨m5a, m5b⟩, ⟨m6a, m6b⟩⟩ : (w1.cell? ⟨w.heap.size + 1 + 1, 0, none⟩ = some (cellV w1 ⟨w.heap.size + 1 + 1, 0, none⟩) ∧ w1.frozen? ⟨w.heap.size + 1 + 1, 0, none⟩ = false) ∧ (w1.cell? ⟨w.heap.size + 1 + 1, 1, none⟩ = some (cellV w1 ⟨w.heap.size + 1 + 1, 1, none⟩) ∧ w1.frozen? ⟨w.heap.size + 1 + 1, 1, none⟩ = false) := by
      refine ⟨?_, ?_⟩ <;> (refine mine_below hb1 (mine_of (v := .int .i64 0) ?_ ?_) <;> simp [go_sem])
    have zm5 : w.heap.size + 1 + 1 < w1.heap.size := World.block_lt_of_cell? _ _ m5a
    go_wp2_with fail
    refine (PV1 _).mono ?_
    rintro e w2 ⟨rfl, hb2⟩
    obtain ⟨f7, f8, f9, f10⟩ : w2.cell? ⟨w.heap.size, 0, none⟩ = some (.int .i64 cx) ∧ w2.cell? ⟨w.heap.size, 1, none⟩ = some (.int .i64 cy) ∧ w2.cell? ⟨w.heap.size + 1, 0, none⟩ = some (.int .i64 px) ∧ w2.cell? ⟨w.heap.size + 1, 1, none⟩ = some (.int .i64 py) := by
      refine ⟨?_, ?_, ?_, ?_⟩ <;> (refine cell_below hb2 ?_; repeat (first | (with_reducible assumption) | (with_reducible refine cell_drew ?_) | (with_reducible refine cell_drewN ?_ _) | (with_reducible refine cell_below (by assumption) ?_) | ((with_reducible refine cell_new ?_ ?_); (· (simp; done)); (· rfl)) | (with_reducible refine cell_alloc ?_ _) | ((with_reducible refine cell_set ?_ ?_ _); (· first | (simp; done) | (simp; omega) | omega))))
    have zf7 : w.heap.size < w2.heap.size := World.block_lt_of_cell? _ _ f7
    have zf9 : w.heap.size + 1 < w2.heap.size := World.block_lt_of_cell? _ _ f9
    obtain ⟨⟨m11a, m11b⟩, ⟨m12a, m12b⟩⟩ : (w2.cell? ⟨w.heap.size + 1 + 1, 0, none⟩ = some (cellV w2 ⟨w.heap.size + 1 + 1, 0, none⟩) ∧ w2.frozen? ⟨w.heap.size + 1 + 1, 0, none⟩ = false) ∧ (w2.cell? ⟨w.heap.size + 1 + 1, 1, none⟩ = some (cellV w2 ⟨w.heap.size + 1 + 1, 1, none⟩) ∧ w2.frozen? ⟨w.heap.size + 1 + 1, 1, none⟩ = false) := by
      refine ⟨?_, ?_⟩ <;> (refine mine_below hb2 ?_; repeat (first | (with_reducible exact ⟨by assumption, by assumption⟩) | (with_reducible refine mine_drew ?_) | (with_reducible refine mine_drewN ?_ _) | (with_reducible refine mine_below (by assumption) ?_) | ((with_reducible refine mine_new ?_ ?_); (· (simp; done)); (· rfl)) | (with_reducible refine mine_alloc ?_ _) | (with_reducible refine mine_set ?_ _ _)))
    have zm11 : w.heap.size + 1 + 1 < w2.heap.size := World.block_lt_of_cell? _ _ m11a
    clear f1 zf1 f2 f3 zf3 f4 m5a m5b zm5 m6a m6b
    go_wp2_with fail
    exact bodyPost_ret (v := .tuple #[.agg #[.int .i64 0, .int .i64 0], .int .i64 1]) (by simp [results, Try.results33, go_sem, *]) rfl ⟨rfl, by (repeat (with_reducible (first | assumption | exact Below.refl _ _ | refine Below.drew ?_ | refine below_drewN ?_ _ | refine below_set ?_ (by simp; try omega) _ | refine below_alloc ?_ (Nat.le_refl _) _ | refine below_sub (by assumption) ?_)))⟩
end Go.Proofs.Yteedgcffdgkicaa

