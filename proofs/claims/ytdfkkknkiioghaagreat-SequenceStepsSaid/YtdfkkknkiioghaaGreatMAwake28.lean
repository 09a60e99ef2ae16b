/-
  The walk of the example of chapter 28.
-/
import Derived.Test.YtdfkkknkiioghaaGreatMCorner
import Derived.Laws.OwnMore
namespace Go.Proofs.YtdfkkknkiioghaaGreat
open Go.RowKit
set_option linter.unusedVariables false
set_option linter.unusedSimpArgs false
theorem corner_at (W : World) (t : TypeId) (n : Nat) (hn : n = W.heap.size) : pathAt (W.alloc (.cells #[.bool false, .int .i64 0, .int .i64 (-30000), .int .i64 0, .int .i64 (-3000), .int .i64 0, .int .i64 0, .int .i64 0, .int .i64 0, .int .i64 0, .int .i64 27000, .int .i64 1, .bool false, .bool true, .int .i64 0, .int .i64 (-3000), .int .i64 879, .int .i64 (-879), .int .i64 3000, .int .i64 (-3000), .int .i64 3000, .int .i64 97200000, .int .i64 16200000, .int .i64 2356, .int .i64 1, .bool false, .bool true, .int .i64 879, .int .i64 (-879), .int .i64 3000, .int .i64 0, .int .i64 3000, .int .i64 (-3000), .int .i64 3000, .int .i64 113400000, .int .i64 16200000, .int .i64 2356, .int .i64 2, .bool false, .bool false, .int .i64 3000, .int .i64 0, .int .i64 30000, .int .i64 0, .int .i64 0, .int .i64 0, .int .i64 0, .int .i64 0, .int .i64 0, .int .i64 27000, .int .i64 2, .bool false] t)) (some ⟨n, 0, none⟩) cornerL := by
  intro k x hk
  refine ⟨n, 0, rfl, ?_⟩
  unfold cornerL at hk
  match k, hk with
  | 0, hk => simp at hk; subst hk; unfold elAt; refine ⟨?_, ?_, ?_, ?_, ?_, ?_, ?_, ?_, ?_, ?_, ?_, ?_, ?_⟩ <;> exact cell_new hn rfl
  | 1, hk => simp at hk; subst hk; unfold elAt; refine ⟨?_, ?_, ?_, ?_, ?_, ?_, ?_, ?_, ?_, ?_, ?_, ?_, ?_⟩ <;> exact cell_new hn rfl
  | 2, hk => simp at hk; subst hk; unfold elAt; refine ⟨?_, ?_, ?_, ?_, ?_, ?_, ?_, ?_, ?_, ?_, ?_, ?_, ?_⟩ <;> exact cell_new hn rfl
  | 3, hk => simp at hk; subst hk; unfold elAt; refine ⟨?_, ?_, ?_, ?_, ?_, ?_, ?_, ?_, ?_, ?_, ?_, ?_, ?_⟩ <;> exact cell_new hn rfl
  | k + 4, hk => simp at hk
set_option maxRecDepth 100000 in
set_option maxHeartbeats 8000000 in
theorem corner_any (w : World) : Calls Tryz.prog 8 #[] w fun e w' => ∃ g, e = .returned (.agg #[.slice (some ⟨g, 0, none⟩) 4 4, .int .i64 58712]) ∧ Hid (pathAt w' (some ⟨g, 0, none⟩) cornerL) ∧ Below w.heap.size w w' := by
  go_enter Tryz.func8, Tryz.ntmps8
  go_wp2
  exact bodyPost_ret (v := .agg #[.slice (some ⟨w.heap.size + 1 + 1 + 1 + 1, 0, none⟩) 4 4, .int .i64 58712]) (by simp [results, Tryz.results8, go_sem]) rfl ⟨_, rfl, hide (corner_at _ _ _ (by simp)), by (repeat (with_reducible (first | assumption | exact Below.refl _ _ | refine Below.drew ?_ | refine below_drewN ?_ _ | refine below_set ?_ (by simp; try omega) _ | refine below_alloc ?_ (Nat.le_refl _) _ | refine below_sub (by assumption) ?_)))⟩
set_option maxRecDepth 100000 in
set_option maxHeartbeats 8000000 in
theorem awake28_any (w : World) : Calls Tryz.prog 4 #[] w fun e w' => e = .returned (.bool true) ∧ Below w.heap.size w w' := by
  go_enter Tryz.func4, Tryz.ntmps4
  go_wp2_with fail
  refine (corner_any _).mono ?_
  rintro e w1 ⟨pg, rfl, hpa, hb1⟩
  go_wp2_with fail
  refine (start_any (some ⟨pg, 0, none⟩) cornerL 4 58712 0 _ (by decide) (hide (pathAt_below (show Below w1.heap.size w1 _ by (repeat (with_reducible (first | assumption | exact Below.refl _ _ | refine Below.drew ?_ | refine below_drewN ?_ _ | refine below_set ?_ (by simp; try omega) _ | refine below_alloc ?_ (Nat.le_refl _) _ | refine below_sub (by assumption) ?_)))) hpa.out)) (0, 1, 0) start_corner).mono ?_
  rintro e w2 ⟨rfl, hb2⟩
  obtain ⟨f1, f2⟩ : w2.cell? ⟨w1.heap.size, 0, none⟩ = some (.slice (some ⟨pg, 0, none⟩) 4 4) ∧ w2.cell? ⟨w1.heap.size, 1, none⟩ = some (.int .i64 58712) := by
    refine ⟨?_, ?_⟩ <;> (refine cell_below hb2 ?_; repeat (first | (with_reducible assumption) | ((with_reducible refine cell_set ?_ ?_ _); (· first | (simp; done) | (simp; omega) | omega)) | ((with_reducible refine cell_new ?_ ?_); (· (simp; done)); (· rfl)) | (with_reducible refine cell_alloc ?_ _) | (with_reducible refine cell_drew ?_) | (with_reducible refine cell_drewN ?_ _) | (with_reducible refine cell_below (by assumption) ?_)))
  have zf1 : w1.heap.size < w2.heap.size := World.block_lt_of_cell? _ _ f1
  have Bx2 : Below w1.heap.size w1 w2 := by (repeat (with_reducible (first | assumption | exact Below.refl _ _ | refine Below.drew ?_ | refine below_drewN ?_ _ | refine below_set ?_ (by simp; try omega) _ | refine below_alloc ?_ (Nat.le_refl _) _ | refine below_sub (by assumption) ?_)))
  have y3 : w1.heap.size < w2.heap.size := by omega
  go_wp2_with fail
  refine (step_main pg 0 cornerL 4 58712 0 1 0 (-3000) _ (by decide) (hide (pathAt_below (show Below w1.heap.size w1 _ by (repeat (with_reducible (first | assumption | exact Below.refl _ _ | refine Below.drew ?_ | refine below_drewN ?_ _ | refine below_set ?_ (by simp; try omega) _ | refine below_alloc ?_ (Nat.le_refl _) _ | refine below_sub (by assumption) ?_)))) hpa.out)) corner_chk (by decide +kernel) (by decide) ⟨false, 0, -30000, 0, -3000, 0, 0, 0, 0, 0, 27000, 1, false⟩ rfl (1, 1, false, []) (hide corner_one)).mono ?_
  rintro e w3 ⟨v1, rfl, hown1, hb3⟩
  obtain ⟨f4, f5⟩ : w3.cell? ⟨w1.heap.size, 0, none⟩ = some (.slice (some ⟨pg, 0, none⟩) 4 4) ∧ w3.cell? ⟨w1.heap.size, 1, none⟩ = some (.int .i64 58712) := by
    refine ⟨?_, ?_⟩ <;> (refine cell_below hb3 ?_; repeat (first | (with_reducible assumption) | ((with_reducible refine cell_set ?_ ?_ _); (· first | (simp; done) | (simp; omega) | omega)) | ((with_reducible refine cell_new ?_ ?_); (· (simp; done)); (· rfl)) | (with_reducible refine cell_alloc ?_ _) | (with_reducible refine cell_drew ?_) | (with_reducible refine cell_drewN ?_ _) | (with_reducible refine cell_below (by assumption) ?_)))
  have zf4 : w1.heap.size < w3.heap.size := World.block_lt_of_cell? _ _ f4
  obtain ⟨⟨o6a, o6b⟩, ⟨o7a, o7b⟩, ⟨o8a, o8b⟩⟩ : (w3.cell? ⟨w2.heap.size, 0, none⟩ = some (.int .i64 0) ∧ w3.frozen? ⟨w2.heap.size, 0, none⟩ = false) ∧ (w3.cell? ⟨w2.heap.size, 1, none⟩ = some (.int .i64 1) ∧ w3.frozen? ⟨w2.heap.size, 1, none⟩ = false) ∧ (w3.cell? ⟨w2.heap.size, 2, none⟩ = some (.bool false) ∧ w3.frozen? ⟨w2.heap.size, 2, none⟩ = false) := by
    refine ⟨?_, ?_, ?_⟩ <;> (refine own_below hb3 ?_; repeat (first | (refine ⟨?_, ?_⟩ <;> (with_reducible assumption)) | (with_reducible apply own_same) | ((with_reducible refine own_set ?_ ?_ _); (· first | (simp; done) | (simp; omega))) | ((with_reducible refine own_new ?_ ?_); (· (simp; done)); (· rfl)) | (with_reducible refine own_alloc ?_ _) | (with_reducible refine own_drew ?_) | (with_reducible refine own_drewN ?_ _) | (with_reducible refine own_below (by assumption) ?_)))
  have zo6 : w2.heap.size < w3.heap.size := World.block_lt_of_cell? _ _ o6a
  clear f1 zf1 f2
  have Bx3 : Below w1.heap.size w1 w3 := by (repeat (with_reducible (first | assumption | exact Below.refl _ _ | refine Below.drew ?_ | refine below_drewN ?_ _ | refine below_set ?_ (by simp; try omega) _ | refine below_alloc ?_ (Nat.le_refl _) _ | refine below_sub (by assumption) ?_)))
  obtain ⟨S1, c1, rfl⟩ : ∃ S c, v1 = .slice S 0 c := by
    rcases hown1.2 with ⟨h, _⟩ | ⟨gg, cap, cur, h, _⟩
    · exact ⟨_, _, h⟩
    · exact ⟨_, _, h⟩
  clear hown1
  have s1 := hb1.size
  go_wp2_with fail
  have hpz : Hid (pathAt (((w3.setCell ⟨w2.heap.size, 0, none⟩ (.int .i64 1)).setCell ⟨w2.heap.size, 1, none⟩ (.int .i64 1)).setCell ⟨w2.heap.size, 2, none⟩ (.bool false)) (some ⟨pg, 0, none⟩) cornerL) := hide (pathAt_below (show Below w1.heap.size w1 _ by (repeat (with_reducible (first | assumption | exact Below.refl _ _ | refine Below.drew ?_ | refine below_drewN ?_ _ | refine below_set ?_ (by simp; try omega) _ | refine below_alloc ?_ (Nat.le_refl _) _ | refine below_sub (by assumption) ?_)))) hpa.out)
  generalize hwwz : (((w3.setCell ⟨w2.heap.size, 0, none⟩ (.int .i64 1)).setCell ⟨w2.heap.size, 1, none⟩ (.int .i64 1)).setCell ⟨w2.heap.size, 2, none⟩ (.bool false)) = wz
  have ne9 : w2.heap.size ≠ w1.heap.size := by omega
  have x10 : wz.cell? ⟨w1.heap.size, 0, none⟩ = some (.slice (some ⟨pg, 0, none⟩) 4 4) := by
    rw [← hwwz]; exact (cell_set ne9 (cell_set ne9 (cell_set ne9 f4 _) _) _)
  have zzx10 : w1.heap.size < wz.heap.size := World.block_lt_of_cell? _ _ x10
  have x11 : wz.cell? ⟨w1.heap.size, 1, none⟩ = some (.int .i64 58712) := by
    rw [← hwwz]; exact (cell_set ne9 (cell_set ne9 (cell_set ne9 f5 _) _) _)
  obtain ⟨x12a, x12b⟩ : wz.cell? ⟨w2.heap.size, 0, none⟩ = some (.int .i64 1) ∧ wz.frozen? ⟨w2.heap.size, 0, none⟩ = false := by
    rw [← hwwz]; exact (own_set (by simp) (own_set (by simp) (own_same ⟨o6a, o6b⟩ _) _) _)
  have zzx12a : w2.heap.size < wz.heap.size := World.block_lt_of_cell? _ _ x12a
  obtain ⟨x13a, x13b⟩ : wz.cell? ⟨w2.heap.size, 1, none⟩ = some (.int .i64 1) ∧ wz.frozen? ⟨w2.heap.size, 1, none⟩ = false := by
    rw [← hwwz]; exact (own_set (by simp) (own_same (own_set (by simp) ⟨o7a, o7b⟩ _) _) _)
  obtain ⟨x14a, x14b⟩ : wz.cell? ⟨w2.heap.size, 2, none⟩ = some (.bool false) ∧ wz.frozen? ⟨w2.heap.size, 2, none⟩ = false := by
    rw [← hwwz]; exact (own_same (own_set (by simp) (own_set (by simp) ⟨o8a, o8b⟩ _) _) _)
  have Bwz : Below w.heap.size w wz := by
    rw [← hwwz]
    (repeat (with_reducible (first | assumption | exact Below.refl _ _ | refine Below.drew ?_ | refine below_drewN ?_ _ | refine below_set ?_ (by simp; try omega) _ | refine below_alloc ?_ (Nat.le_refl _) _ | refine below_sub (by assumption) ?_)))
  clear f4 zf4 f5 o6a o6b zo6 o7a o7b o8a o8b
  rw [hwwz] at hpz
  clear hwwz
  have hz2 : w2.heap.size < wz.heap.size := World.block_lt_of_cell? _ _ x12a
  refine (togo_main pg 0 cornerL 4 58712 3 2 10000 0 _ (by decide) (hide (pathAt_below (show Below wz.heap.size wz _ by (repeat (with_reducible (first | assumption | exact Below.refl _ _ | refine Below.drew ?_ | refine below_drewN ?_ _ | refine below_set ?_ (by simp; try omega) _ | refine below_alloc ?_ (Nat.le_refl _) _ | refine below_sub (by assumption) ?_)))) hpz.out)) corner_chk (by decide) ⟨false, 3000, 0, 30000, 0, 0, 0, 0, 0, 0, 27000, 2, false⟩ rfl 0 7000 corner_loc 20000 (hide corner_rest)).mono ?_
  rintro e w4 ⟨rfl, hb4⟩
  obtain ⟨f15, f16⟩ : w4.cell? ⟨w1.heap.size, 0, none⟩ = some (.slice (some ⟨pg, 0, none⟩) 4 4) ∧ w4.cell? ⟨w1.heap.size, 1, none⟩ = some (.int .i64 58712) := by
    refine ⟨?_, ?_⟩ <;> (refine cell_below hb4 ?_; repeat (first | (with_reducible assumption) | ((with_reducible refine cell_set ?_ ?_ _); (· first | (simp; done) | (simp; omega) | omega)) | ((with_reducible refine cell_new ?_ ?_); (· (simp; done)); (· rfl)) | (with_reducible refine cell_alloc ?_ _) | (with_reducible refine cell_drew ?_) | (with_reducible refine cell_drewN ?_ _) | (with_reducible refine cell_below (by assumption) ?_)))
  have zf15 : w1.heap.size < w4.heap.size := World.block_lt_of_cell? _ _ f15
  obtain ⟨⟨o17a, o17b⟩, ⟨o18a, o18b⟩, ⟨o19a, o19b⟩⟩ : (w4.cell? ⟨w2.heap.size, 0, none⟩ = some (.int .i64 1) ∧ w4.frozen? ⟨w2.heap.size, 0, none⟩ = false) ∧ (w4.cell? ⟨w2.heap.size, 1, none⟩ = some (.int .i64 1) ∧ w4.frozen? ⟨w2.heap.size, 1, none⟩ = false) ∧ (w4.cell? ⟨w2.heap.size, 2, none⟩ = some (.bool false) ∧ w4.frozen? ⟨w2.heap.size, 2, none⟩ = false) := by
    refine ⟨?_, ?_, ?_⟩ <;> (refine own_below hb4 ?_; repeat (first | (refine ⟨?_, ?_⟩ <;> (with_reducible assumption)) | (with_reducible apply own_same) | ((with_reducible refine own_set ?_ ?_ _); (· first | (simp; done) | (simp; omega))) | ((with_reducible refine own_new ?_ ?_); (· (simp; done)); (· rfl)) | (with_reducible refine own_alloc ?_ _) | (with_reducible refine own_drew ?_) | (with_reducible refine own_drewN ?_ _) | (with_reducible refine own_below (by assumption) ?_)))
  have zo17 : w2.heap.size < w4.heap.size := World.block_lt_of_cell? _ _ o17a
  clear x10 zzx10 x11 x12a x12b zzx12a x13a x13b x14a x14b
  go_wp2_with fail
  refine (step_main pg 0 cornerL 4 58712 1 1 30000 0 _ (by decide) (hide (pathAt_below (show Below wz.heap.size wz _ by (repeat (with_reducible (first | assumption | exact Below.refl _ _ | refine Below.drew ?_ | refine below_drewN ?_ _ | refine below_set ?_ (by simp; try omega) _ | refine below_alloc ?_ (Nat.le_refl _) _ | refine below_sub (by assumption) ?_)))) hpz.out)) corner_chk (by decide +kernel) (by decide) ⟨true, 0, -3000, 879, -879, 3000, -3000, 3000, 97200000, 16200000, 2356, 1, false⟩ rfl (3, 2, true, [1, 2]) (hide corner_two)).mono ?_
  rintro e w5 ⟨v2, rfl, hown2, hb5⟩
  obtain ⟨f20, f21⟩ : w5.cell? ⟨w1.heap.size, 0, none⟩ = some (.slice (some ⟨pg, 0, none⟩) 4 4) ∧ w5.cell? ⟨w1.heap.size, 1, none⟩ = some (.int .i64 58712) := by
    refine ⟨?_, ?_⟩ <;> (refine cell_below hb5 ?_; repeat (first | (with_reducible assumption) | ((with_reducible refine cell_set ?_ ?_ _); (· first | (simp; done) | (simp; omega) | omega)) | ((with_reducible refine cell_new ?_ ?_); (· (simp; done)); (· rfl)) | (with_reducible refine cell_alloc ?_ _) | (with_reducible refine cell_drew ?_) | (with_reducible refine cell_drewN ?_ _) | (with_reducible refine cell_below (by assumption) ?_)))
  have zf20 : w1.heap.size < w5.heap.size := World.block_lt_of_cell? _ _ f20
  obtain ⟨⟨o22a, o22b⟩, ⟨o23a, o23b⟩, ⟨o24a, o24b⟩⟩ : (w5.cell? ⟨w2.heap.size, 0, none⟩ = some (.int .i64 1) ∧ w5.frozen? ⟨w2.heap.size, 0, none⟩ = false) ∧ (w5.cell? ⟨w2.heap.size, 1, none⟩ = some (.int .i64 1) ∧ w5.frozen? ⟨w2.heap.size, 1, none⟩ = false) ∧ (w5.cell? ⟨w2.heap.size, 2, none⟩ = some (.bool false) ∧ w5.frozen? ⟨w2.heap.size, 2, none⟩ = false) := by
    refine ⟨?_, ?_, ?_⟩ <;> (refine own_below hb5 ?_; repeat (first | (refine ⟨?_, ?_⟩ <;> (with_reducible assumption)) | (with_reducible apply own_same) | ((with_reducible refine own_set ?_ ?_ _); (· first | (simp; done) | (simp; omega))) | ((with_reducible refine own_new ?_ ?_); (· (simp; done)); (· rfl)) | (with_reducible refine own_alloc ?_ _) | (with_reducible refine own_drew ?_) | (with_reducible refine own_drewN ?_ _) | (with_reducible refine own_below (by assumption) ?_)))
  have zo22 : w2.heap.size < w5.heap.size := World.block_lt_of_cell? _ _ o22a
  clear f15 zf15 f16 o17a o17b zo17 o18a o18b o19a o19b
  obtain ⟨gg, cap2, rfl, hgg, l0, l1⟩ : ∃ gg cap, v2 = .slice (some ⟨gg, 0, none⟩) 2 cap ∧ w4.heap.size ≤ gg ∧ w5.cell? ⟨gg, 0, none⟩ = some (.int .i64 1) ∧ w5.cell? ⟨gg, 1, none⟩ = some (.int .i64 2) := by
    have hw2 := hown2
    rcases hown2.2 with ⟨h, h0⟩ | ⟨gg, cap, cur, h, hg, _⟩
    · exact absurd h0 (by simp)
    · subst h
      exact ⟨gg, cap, rfl, by simpa using hg, (World.ownsRow.cellAt hw2 0 (by simp)).trans rfl, (World.ownsRow.cellAt hw2 1 (by simp)).trans rfl⟩
  clear hown2
  have hs3 := hb3.size
  have hs4 := hb4.size
  simp at hs3
  have hne : gg ≠ w2.heap.size := by omega
  have hne2 : w2.heap.size ≠ gg := by omega
  go_wp2_with fail
  go_ret
  exact ⟨rfl, by (repeat (with_reducible (first | assumption | exact Below.refl _ _ | refine Below.drew ?_ | refine below_drewN ?_ _ | refine below_set ?_ (by simp; try omega) _ | refine below_alloc ?_ (Nat.le_refl _) _ | refine below_sub (by assumption) ?_)))⟩
end Go.Proofs.YtdfkkknkiioghaaGreat

