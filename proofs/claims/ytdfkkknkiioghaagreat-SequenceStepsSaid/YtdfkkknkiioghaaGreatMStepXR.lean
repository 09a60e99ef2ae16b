/-
  The walks of the reference's Step where it does not go on.
-/
import Derived.Test.YtdfkkknkiioghaaGreatMStep
import Derived.Test.YtdfkkknkiioghaaGreatMSeqAR
import Derived.Test.YtdfkkknkiioghaaGreatMLineC
namespace Go.Proofs.YtdfkkknkiioghaaGreat
open Go.RowKit
set_option linter.unusedVariables false
set_option linter.unusedSimpArgs false
set_option maxRecDepth 100000 in
set_option maxHeartbeats 4000000 in
theorem rstep_err (S : Option Addr) (l : List El) (cap : Nat) (len px py el e0 : Int) (dn : Bool) (c : Int) (hc : chkF l len = c) (h : ¬ c = 0) (w : World) (h2 : l.length ≤ 9223372036854775807) (hp : Hid (pathAt w S l)) :
    Calls Tryz.prog 6 #[.agg #[.slice S l.length cap, .int .i64 len], .agg #[.int .i64 el, .int .i64 e0, .bool dn], .agg #[.int .i64 px, .int .i64 py]] w fun e w' => e = .returned (.tuple #[.agg #[.int .i64 el, .int .i64 e0, .bool dn], .slice none 0 0]) ∧ Below w.heap.size w w' := by
  have CK := fun W hb => rchk_any S l cap len W h2 (hide (pathAt_below hb hp.out))
  rw [hc] at CK
  clear hc
  have T : (c != 0) = true := bne_iff_ne.2 h
  go_enter Tryz.func6, Tryz.ntmps6
  go_wp2_with fail
  refine (CK _ (by (repeat (with_reducible (first | assumption | exact Below.refl _ _ | refine Below.drew ?_ | refine below_drewN ?_ _ | refine below_set ?_ (by simp; try omega) _ | refine below_alloc ?_ (Nat.le_refl _) _ | refine below_sub (by assumption) ?_))))).mono ?_
  rintro e w1 ⟨rfl, hb1⟩
  obtain ⟨f1, f2, f3, f4, f5, f6, f7⟩ : w1.cell? ⟨w.heap.size, 0, none⟩ = some (.slice S l.length cap) ∧ w1.cell? ⟨w.heap.size, 1, none⟩ = some (.int .i64 len) ∧ w1.cell? ⟨w.heap.size + 1, 0, none⟩ = some (.int .i64 el) ∧ w1.cell? ⟨w.heap.size + 1, 1, none⟩ = some (.int .i64 e0) ∧ w1.cell? ⟨w.heap.size + 1, 2, none⟩ = some (.bool dn) ∧ w1.cell? ⟨w.heap.size + 1 + 1, 0, none⟩ = some (.int .i64 px) ∧ w1.cell? ⟨w.heap.size + 1 + 1, 1, none⟩ = some (.int .i64 py) := by
    refine ⟨?_, ?_, ?_, ?_, ?_, ?_, ?_⟩ <;> (refine cell_below hb1 ?_; repeat (first | (with_reducible assumption) | ((with_reducible refine cell_set ?_ ?_ _); (· first | (simp; done) | (simp; omega) | omega)) | ((with_reducible refine cell_new ?_ ?_); (· (simp; done)); (· rfl)) | (with_reducible refine cell_alloc ?_ _) | (with_reducible refine cell_drew ?_) | (with_reducible refine cell_drewN ?_ _) | (with_reducible refine cell_below (by assumption) ?_)))
  have zf1 : w.heap.size < w1.heap.size := World.block_lt_of_cell? _ _ f1
  have zf3 : w.heap.size + 1 < w1.heap.size := World.block_lt_of_cell? _ _ f3
  have zf6 : w.heap.size + 1 + 1 < w1.heap.size := World.block_lt_of_cell? _ _ f6
  obtain ⟨⟨m8a, m8b⟩, ⟨m9a, m9b⟩, ⟨m10a, m10b⟩⟩ : (w1.cell? ⟨w.heap.size + 1 + 1 + 1, 0, none⟩ = some (cellV w1 ⟨w.heap.size + 1 + 1 + 1, 0, none⟩) ∧ w1.frozen? ⟨w.heap.size + 1 + 1 + 1, 0, none⟩ = false) ∧ (w1.cell? ⟨w.heap.size + 1 + 1 + 1, 1, none⟩ = some (cellV w1 ⟨w.heap.size + 1 + 1 + 1, 1, none⟩) ∧ w1.frozen? ⟨w.heap.size + 1 + 1 + 1, 1, none⟩ = false) ∧ (w1.cell? ⟨w.heap.size + 1 + 1 + 1, 2, none⟩ = some (cellV w1 ⟨w.heap.size + 1 + 1 + 1, 2, none⟩) ∧ w1.frozen? ⟨w.heap.size + 1 + 1 + 1, 2, none⟩ = false) := by
    refine ⟨?_, ?_, ?_⟩ <;> (first | ((refine mine_below hb1 (mine_of (v := .int .i64 0) ?_ ?_) <;> simp [go_sem]); done) | ((refine mine_below hb1 (mine_of (v := .bool false) ?_ ?_) <;> simp [go_sem]); done))
  have zm8 : w.heap.size + 1 + 1 + 1 < w1.heap.size := World.block_lt_of_cell? _ _ m8a
  go_wp2_with fail
  all_goals
    exact bodyPost_ret (v := .tuple #[.agg #[.int .i64 el, .int .i64 e0, .bool dn], .slice none 0 0]) (by simp [results, Tryz.results6, go_sem, *]) rfl ⟨rfl, by (repeat (with_reducible (first | assumption | exact Below.refl _ _ | refine Below.drew ?_ | refine below_drewN ?_ _ | refine below_set ?_ (by simp; try omega) _ | refine below_alloc ?_ (Nat.le_refl _) _ | refine below_sub (by assumption) ?_)))⟩
set_option maxRecDepth 100000 in
set_option maxHeartbeats 4000000 in
theorem rstep_bad (S : Option Addr) (l : List El) (cap : Nat) (len px py el e0 : Int) (dn : Bool) (hc : chkF l len = 0) (hq : vldB px py = false) (w : World) (h2 : l.length ≤ 9223372036854775807) (hp : Hid (pathAt w S l)) :
    Calls Tryz.prog 6 #[.agg #[.slice S l.length cap, .int .i64 len], .agg #[.int .i64 el, .int .i64 e0, .bool dn], .agg #[.int .i64 px, .int .i64 py]] w fun e w' => e = .returned (.tuple #[.agg #[.int .i64 el, .int .i64 e0, .bool dn], .slice none 0 0]) ∧ Below w.heap.size w w' := by
  have CK := fun W hb => rchk_any S l cap len W h2 (hide (pathAt_below hb hp.out))
  rw [hc] at CK
  have PQ := fun W => rpvalid_d px py false hq W
  clear hc hq
  go_enter Tryz.func6, Tryz.ntmps6
  go_wp2_with fail
  refine (CK _ (by (repeat (with_reducible (first | assumption | exact Below.refl _ _ | refine Below.drew ?_ | refine below_drewN ?_ _ | refine below_set ?_ (by simp; try omega) _ | refine below_alloc ?_ (Nat.le_refl _) _ | refine below_sub (by assumption) ?_))))).mono ?_
  rintro e w1 ⟨rfl, hb1⟩
  obtain ⟨f1, f2, f3, f4, f5, f6, f7⟩ : w1.cell? ⟨w.heap.size, 0, none⟩ = some (.slice S l.length cap) ∧ w1.cell? ⟨w.heap.size, 1, none⟩ = some (.int .i64 len) ∧ w1.cell? ⟨w.heap.size + 1, 0, none⟩ = some (.int .i64 el) ∧ w1.cell? ⟨w.heap.size + 1, 1, none⟩ = some (.int .i64 e0) ∧ w1.cell? ⟨w.heap.size + 1, 2, none⟩ = some (.bool dn) ∧ w1.cell? ⟨w.heap.size + 1 + 1, 0, none⟩ = some (.int .i64 px) ∧ w1.cell? ⟨w.heap.size + 1 + 1, 1, none⟩ = some (.int .i64 py) := by
    refine ⟨?_, ?_, ?_, ?_, ?_, ?_, ?_⟩ <;> (refine cell_below hb1 ?_; repeat (first | (with_reducible assumption) | ((with_reducible refine cell_set ?_ ?_ _); (· first | (simp; done) | (simp; omega) | omega)) | ((with_reducible refine cell_new ?_ ?_); (· (simp; done)); (· rfl)) | (with_reducible refine cell_alloc ?_ _) | (with_reducible refine cell_drew ?_) | (with_reducible refine cell_drewN ?_ _) | (with_reducible refine cell_below (by assumption) ?_)))
  have zf1 : w.heap.size < w1.heap.size := World.block_lt_of_cell? _ _ f1
  have zf3 : w.heap.size + 1 < w1.heap.size := World.block_lt_of_cell? _ _ f3
  have zf6 : w.heap.size + 1 + 1 < w1.heap.size := World.block_lt_of_cell? _ _ f6
  obtain ⟨⟨m8a, m8b⟩, ⟨m9a, m9b⟩, ⟨m10a, m10b⟩⟩ : (w1.cell? ⟨w.heap.size + 1 + 1 + 1, 0, none⟩ = some (cellV w1 ⟨w.heap.size + 1 + 1 + 1, 0, none⟩) ∧ w1.frozen? ⟨w.heap.size + 1 + 1 + 1, 0, none⟩ = false) ∧ (w1.cell? ⟨w.heap.size + 1 + 1 + 1, 1, none⟩ = some (cellV w1 ⟨w.heap.size + 1 + 1 + 1, 1, none⟩) ∧ w1.frozen? ⟨w.heap.size + 1 + 1 + 1, 1, none⟩ = false) ∧ (w1.cell? ⟨w.heap.size + 1 + 1 + 1, 2, none⟩ = some (cellV w1 ⟨w.heap.size + 1 + 1 + 1, 2, none⟩) ∧ w1.frozen? ⟨w.heap.size + 1 + 1 + 1, 2, none⟩ = false) := by
    refine ⟨?_, ?_, ?_⟩ <;> (first | ((refine mine_below hb1 (mine_of (v := .int .i64 0) ?_ ?_) <;> simp [go_sem]); done) | ((refine mine_below hb1 (mine_of (v := .bool false) ?_ ?_) <;> simp [go_sem]); done))
  have zm8 : w.heap.size + 1 + 1 + 1 < w1.heap.size := World.block_lt_of_cell? _ _ m8a
  go_wp2_with fail
  refine (PQ _).mono ?_
  rintro e w2 ⟨rfl, hb2⟩
  obtain ⟨f11, f12, f13, f14, f15, f16, f17⟩ : w2.cell? ⟨w.heap.size, 0, none⟩ = some (.slice S l.length cap) ∧ w2.cell? ⟨w.heap.size, 1, none⟩ = some (.int .i64 len) ∧ w2.cell? ⟨w.heap.size + 1, 0, none⟩ = some (.int .i64 el) ∧ w2.cell? ⟨w.heap.size + 1, 1, none⟩ = some (.int .i64 e0) ∧ w2.cell? ⟨w.heap.size + 1, 2, none⟩ = some (.bool dn) ∧ w2.cell? ⟨w.heap.size + 1 + 1, 0, none⟩ = some (.int .i64 px) ∧ w2.cell? ⟨w.heap.size + 1 + 1, 1, none⟩ = some (.int .i64 py) := by
    refine ⟨?_, ?_, ?_, ?_, ?_, ?_, ?_⟩ <;> (refine cell_below hb2 ?_; repeat (first | (with_reducible assumption) | ((with_reducible refine cell_set ?_ ?_ _); (· first | (simp; done) | (simp; omega) | omega)) | ((with_reducible refine cell_new ?_ ?_); (· (simp; done)); (· rfl)) | (with_reducible refine cell_alloc ?_ _) | (with_reducible refine cell_drew ?_) | (with_reducible refine cell_drewN ?_ _) | (with_reducible refine cell_below (by assumption) ?_)))
  have zf11 : w.heap.size < w2.heap.size := World.block_lt_of_cell? _ _ f11
  have zf13 : w.heap.size + 1 < w2.heap.size := World.block_lt_of_cell? _ _ f13
  have zf16 : w.heap.size + 1 + 1 < w2.heap.size := World.block_lt_of_cell? _ _ f16
  obtain ⟨⟨m18a, m18b⟩, ⟨m19a, m19b⟩, ⟨m20a, m20b⟩⟩ : (w2.cell? ⟨w.heap.size + 1 + 1 + 1, 0, none⟩ = some (cellV w2 ⟨w.heap.size + 1 + 1 + 1, 0, none⟩) ∧ w2.frozen? ⟨w.heap.size + 1 + 1 + 1, 0, none⟩ = false) ∧ (w2.cell? ⟨w.heap.size + 1 + 1 + 1, 1, none⟩ = some (cellV w2 ⟨w.heap.size + 1 + 1 + 1, 1, none⟩) ∧ w2.frozen? ⟨w.heap.size + 1 + 1 + 1, 1, none⟩ = false) ∧ (w2.cell? ⟨w.heap.size + 1 + 1 + 1, 2, none⟩ = some (cellV w2 ⟨w.heap.size + 1 + 1 + 1, 2, none⟩) ∧ w2.frozen? ⟨w.heap.size + 1 + 1 + 1, 2, none⟩ = false) := by
    refine ⟨?_, ?_, ?_⟩ <;> (refine mine_below hb2 ?_; repeat (first | (refine ⟨?_, ?_⟩ <;> (with_reducible assumption)) | (with_reducible refine mine_alloc ?_ _) | (with_reducible refine mine_set ?_ _ _) | (with_reducible refine mine_drew ?_) | (with_reducible refine mine_drewN ?_ _) | (with_reducible refine mine_below (by assumption) ?_)))
  have zm18 : w.heap.size + 1 + 1 + 1 < w2.heap.size := World.block_lt_of_cell? _ _ m18a
  clear f1 zf1 f2 f3 zf3 f4 f5 f6 zf6 f7 m8a m8b zm8 m9a m9b m10a m10b
  go_wp2_with fail
  all_goals
    exact bodyPost_ret (v := .tuple #[.agg #[.int .i64 el, .int .i64 e0, .bool dn], .slice none 0 0]) (by simp [results, Tryz.results6, go_sem, *]) rfl ⟨rfl, by (repeat (with_reducible (first | assumption | exact Below.refl _ _ | refine Below.drew ?_ | refine below_drewN ?_ _ | refine below_set ?_ (by simp; try omega) _ | refine below_alloc ?_ (Nat.le_refl _) _ | refine below_sub (by assumption) ?_)))⟩
set_option maxRecDepth 100000 in
set_option maxHeartbeats 4000000 in
theorem rstep_done (S : Option Addr) (l : List El) (cap : Nat) (len px py el e0 : Int) (hc : chkF l len = 0) (hq : vldB px py = true) (w : World) (h2 : l.length ≤ 9223372036854775807) (hp : Hid (pathAt w S l)) :
    Calls Tryz.prog 6 #[.agg #[.slice S l.length cap, .int .i64 len], .agg #[.int .i64 el, .int .i64 e0, .bool true], .agg #[.int .i64 px, .int .i64 py]] w fun e w' => e = .returned (.tuple #[.agg #[.int .i64 el, .int .i64 e0, .bool true], .slice none 0 0]) ∧ Below w.heap.size w w' := by
  have CK := fun W hb => rchk_any S l cap len W h2 (hide (pathAt_below hb hp.out))
  rw [hc] at CK
  have PQ := fun W => rpvalid_d px py true hq W
  clear hc hq
  go_enter Tryz.func6, Tryz.ntmps6
  go_wp2_with fail
  refine (CK _ (by (repeat (with_reducible (first | assumption | exact Below.refl _ _ | refine Below.drew ?_ | refine below_drewN ?_ _ | refine below_set ?_ (by simp; try omega) _ | refine below_alloc ?_ (Nat.le_refl _) _ | refine below_sub (by assumption) ?_))))).mono ?_
  rintro e w1 ⟨rfl, hb1⟩
  obtain ⟨f1, f2, f3, f4, f5, f6, f7⟩ : w1.cell? ⟨w.heap.size, 0, none⟩ = some (.slice S l.length cap) ∧ w1.cell? ⟨w.heap.size, 1, none⟩ = some (.int .i64 len) ∧ w1.cell? ⟨w.heap.size + 1, 0, none⟩ = some (.int .i64 el) ∧ w1.cell? ⟨w.heap.size + 1, 1, none⟩ = some (.int .i64 e0) ∧ w1.cell? ⟨w.heap.size + 1, 2, none⟩ = some (.bool true) ∧ w1.cell? ⟨w.heap.size + 1 + 1, 0, none⟩ = some (.int .i64 px) ∧ w1.cell? ⟨w.heap.size + 1 + 1, 1, none⟩ = some (.int .i64 py) := by
    refine ⟨?_, ?_, ?_, ?_, ?_, ?_, ?_⟩ <;> (refine cell_below hb1 ?_; repeat (first | (with_reducible assumption) | ((with_reducible refine cell_set ?_ ?_ _); (· first | (simp; done) | (simp; omega) | omega)) | ((with_reducible refine cell_new ?_ ?_); (· (simp; done)); (· rfl)) | (with_reducible refine cell_alloc ?_ _) | (with_reducible refine cell_drew ?_) | (with_reducible refine cell_drewN ?_ _) | (with_reducible refine cell_below (by assumption) ?_)))
  have zf1 : w.heap.size < w1.heap.size := World.block_lt_of_cell? _ _ f1
  have zf3 : w.heap.size + 1 < w1.heap.size := World.block_lt_of_cell? _ _ f3
  have zf6 : w.heap.size + 1 + 1 < w1.heap.size := World.block_lt_of_cell? _ _ f6
  obtain ⟨⟨m8a, m8b⟩, ⟨m9a, m9b⟩, ⟨m10a, m10b⟩⟩ : (w1.cell? ⟨w.heap.size + 1 + 1 + 1, 0, none⟩ = some (cellV w1 ⟨w.heap.size + 1 + 1 + 1, 0, none⟩) ∧ w1.frozen? ⟨w.heap.size + 1 + 1 + 1, 0, none⟩ = false) ∧ (w1.cell? ⟨w.heap.size + 1 + 1 + 1, 1, none⟩ = some (cellV w1 ⟨w.heap.size + 1 + 1 + 1, 1, none⟩) ∧ w1.frozen? ⟨w.heap.size + 1 + 1 + 1, 1, none⟩ = false) ∧ (w1.cell? ⟨w.heap.size + 1 + 1 + 1, 2, none⟩ = some (cellV w1 ⟨w.heap.size + 1 + 1 + 1, 2, none⟩) ∧ w1.frozen? ⟨w.heap.size + 1 + 1 + 1, 2, none⟩ = false) := by
    refine ⟨?_, ?_, ?_⟩ <;> (first | ((refine mine_below hb1 (mine_of (v := .int .i64 0) ?_ ?_) <;> simp [go_sem]); done) | ((refine mine_below hb1 (mine_of (v := .bool false) ?_ ?_) <;> simp [go_sem]); done))
  have zm8 : w.heap.size + 1 + 1 + 1 < w1.heap.size := World.block_lt_of_cell? _ _ m8a
  go_wp2_with fail
  refine (PQ _).mono ?_
  rintro e w2 ⟨rfl, hb2⟩
  obtain ⟨f11, f12, f13, f14, f15, f16, f17⟩ : w2.cell? ⟨w.heap.size, 0, none⟩ = some (.slice S l.length cap) ∧ w2.cell? ⟨w.heap.size, 1, none⟩ = some (.int .i64 len) ∧ w2.cell? ⟨w.heap.size + 1, 0, none⟩ = some (.int .i64 el) ∧ w2.cell? ⟨w.heap.size + 1, 1, none⟩ = some (.int .i64 e0) ∧ w2.cell? ⟨w.heap.size + 1, 2, none⟩ = some (.bool true) ∧ w2.cell? ⟨w.heap.size + 1 + 1, 0, none⟩ = some (.int .i64 px) ∧ w2.cell? ⟨w.heap.size + 1 + 1, 1, none⟩ = some (.int .i64 py) := by
    refine ⟨?_, ?_, ?_, ?_, ?_, ?_, ?_⟩ <;> (refine cell_below hb2 ?_; repeat (first | (with_reducible assumption) | ((with_reducible refine cell_set ?_ ?_ _); (· first | (simp; done) | (simp; omega) | omega)) | ((with_reducible refine cell_new ?_ ?_); (· (simp; done)); (· rfl)) | (with_reducible refine cell_alloc ?_ _) | (with_reducible refine cell_drew ?_) | (with_reducible refine cell_drewN ?_ _) | (with_reducible refine cell_below (by assumption) ?_)))
  have zf11 : w.heap.size < w2.heap.size := World.block_lt_of_cell? _ _ f11
  have zf13 : w.heap.size + 1 < w2.heap.size := World.block_lt_of_cell? _ _ f13
  have zf16 : w.heap.size + 1 + 1 < w2.heap.size := World.block_lt_of_cell? _ _ f16
  obtain ⟨⟨m18a, m18b⟩, ⟨m19a, m19b⟩, ⟨m20a, m20b⟩⟩ : (w2.cell? ⟨w.heap.size + 1 + 1 + 1, 0, none⟩ = some (cellV w2 ⟨w.heap.size + 1 + 1 + 1, 0, none⟩) ∧ w2.frozen? ⟨w.heap.size + 1 + 1 + 1, 0, none⟩ = false) ∧ (w2.cell? ⟨w.heap.size + 1 + 1 + 1, 1, none⟩ = some (cellV w2 ⟨w.heap.size + 1 + 1 + 1, 1, none⟩) ∧ w2.frozen? ⟨w.heap.size + 1 + 1 + 1, 1, none⟩ = false) ∧ (w2.cell? ⟨w.heap.size + 1 + 1 + 1, 2, none⟩ = some (cellV w2 ⟨w.heap.size + 1 + 1 + 1, 2, none⟩) ∧ w2.frozen? ⟨w.heap.size + 1 + 1 + 1, 2, none⟩ = false) := by
    refine ⟨?_, ?_, ?_⟩ <;> (refine mine_below hb2 ?_; repeat (first | (refine ⟨?_, ?_⟩ <;> (with_reducible assumption)) | (with_reducible refine mine_alloc ?_ _) | (with_reducible refine mine_set ?_ _ _) | (with_reducible refine mine_drew ?_) | (with_reducible refine mine_drewN ?_ _) | (with_reducible refine mine_below (by assumption) ?_)))
  have zm18 : w.heap.size + 1 + 1 + 1 < w2.heap.size := World.block_lt_of_cell? _ _ m18a
  clear f1 zf1 f2 f3 zf3 f4 f5 f6 zf6 f7 m8a m8b zm8 m9a m9b m10a m10b
  go_wp2_with fail
  all_goals
    exact bodyPost_ret (v := .tuple #[.agg #[.int .i64 el, .int .i64 e0, .bool true], .slice none 0 0]) (by simp [results, Tryz.results6, go_sem, *]) rfl ⟨rfl, by (repeat (with_reducible (first | assumption | exact Below.refl _ _ | refine Below.drew ?_ | refine below_drewN ?_ _ | refine below_set ?_ (by simp; try omega) _ | refine below_alloc ?_ (Nat.le_refl _) _ | refine below_sub (by assumption) ?_)))⟩
set_option maxRecDepth 100000 in
set_option maxHeartbeats 4000000 in
theorem rstep_out (S : Option Addr) (l : List El) (cap : Nat) (len px py el e0 : Int) (hc : chkF l len = 0) (hq : vldB px py = true) (h : el < 0 ∨ (l.length : Int) ≤ el) (w : World) (h2 : l.length ≤ 9223372036854775807) (hp : Hid (pathAt w S l)) :
    Calls Tryz.prog 6 #[.agg #[.slice S l.length cap, .int .i64 len], .agg #[.int .i64 el, .int .i64 e0, .bool false], .agg #[.int .i64 px, .int .i64 py]] w fun e w' => e = .returned (.tuple #[.agg #[.int .i64 el, .int .i64 e0, .bool false], .slice none 0 0]) ∧ Below w.heap.size w w' := by
  have CK := fun W hb => rchk_any S l cap len W h2 (hide (pathAt_below hb hp.out))
  rw [hc] at CK
  have PQ := fun W => rpvalid_d px py true hq W
  clear hc hq
  have h' : el < 0 ∨ (0 ≤ el ∧ (l.length : Int) ≤ el) := by omega
  clear h
  rcases h' with h | ⟨h, k⟩
  all_goals
    go_enter Tryz.func6, Tryz.ntmps6
    go_wp2_with fail
    refine (CK _ (by (repeat (with_reducible (first | assumption | exact Below.refl _ _ | refine Below.drew ?_ | refine below_drewN ?_ _ | refine below_set ?_ (by simp; try omega) _ | refine below_alloc ?_ (Nat.le_refl _) _ | refine below_sub (by assumption) ?_))))).mono ?_
    rintro e w1 ⟨rfl, hb1⟩
    obtain ⟨f1, f2, f3, f4, f5, f6, f7⟩ : w1.cell? ⟨w.heap.size, 0, none⟩ = some (.slice S l.length cap) ∧ w1.cell? ⟨w.heap.size, 1, none⟩ = some (.int .i64 len) ∧ w1.cell? ⟨w.heap.size + 1, 0, none⟩ = some (.int .i64 el) ∧ w1.cell? ⟨w.heap.size + 1, 1, none⟩ = some (.int .i64 e0) ∧ w1.cell? ⟨w.heap.size + 1, 2, none⟩ = some (.bool false) ∧ w1.cell? ⟨w.heap.size + 1 + 1, 0, none⟩ = some (.int .i64 px) ∧ w1.cell? ⟨w.heap.size + 1 + 1, 1, none⟩ = some (.int .i64 py) := by
      refine ⟨?_, ?_, ?_, ?_, ?_, ?_, ?_⟩ <;> (refine cell_below hb1 ?_; repeat (first | (with_reducible assumption) | ((with_reducible refine cell_set ?_ ?_ _); (· first | (simp; done) | (simp; omega) | omega)) | ((with_reducible refine cell_new ?_ ?_); (· (simp; done)); (· rfl)) | (with_reducible refine cell_alloc ?_ _) | (with_reducible refine cell_drew ?_) | (with_reducible refine cell_drewN ?_ _) | (with_reducible refine cell_below (by assumption) ?_)))
    have zf1 : w.heap.size < w1.heap.size := World.block_lt_of_cell? _ _ f1
    have zf3 : w.heap.size + 1 < w1.heap.size := World.block_lt_of_cell? _ _ f3
    have zf6 : w.heap.size + 1 + 1 < w1.heap.size := World.block_lt_of_cell? _ _ f6
    obtain ⟨⟨m8a, m8b⟩, ⟨m9a, m9b⟩, ⟨m10a, m10b⟩⟩ : (w1.cell? ⟨w.heap.size + 1 + 1 + 1, 0, none⟩ = some (cellV w1 ⟨w.heap.size + 1 + 1 + 1, 0, none⟩) ∧ w1.frozen? ⟨w.heap.size + 1 + 1 + 1, 0, none⟩ = false) ∧ (w1.cell? ⟨w.heap.size + 1 + 1 + 1, 1, none⟩ = some (cellV w1 ⟨w.heap.size + 1 + 1 + 1, 1, none⟩) ∧ w1.frozen? ⟨w.heap.size + 1 + 1 + 1, 1, none⟩ = false) ∧ (w1.cell? ⟨w.heap.size + 1 + 1 + 1, 2, none⟩ = some (cellV w1 ⟨w.heap.size + 1 + 1 + 1, 2, none⟩) ∧ w1.frozen? ⟨w.heap.size + 1 + 1 + 1, 2, none⟩ = false) := by
      refine ⟨?_, ?_, ?_⟩ <;> (first | ((refine mine_below hb1 (mine_of (v := .int .i64 0) ?_ ?_) <;> simp [go_sem]); done) | ((refine mine_below hb1 (mine_of (v := .bool false) ?_ ?_) <;> simp [go_sem]); done))
    have zm8 : w.heap.size + 1 + 1 + 1 < w1.heap.size := World.block_lt_of_cell? _ _ m8a
    go_wp2_with fail
    refine (PQ _).mono ?_
    rintro e w2 ⟨rfl, hb2⟩
    obtain ⟨f11, f12, f13, f14, f15, f16, f17⟩ : w2.cell? ⟨w.heap.size, 0, none⟩ = some (.slice S l.length cap) ∧ w2.cell? ⟨w.heap.size, 1, none⟩ = some (.int .i64 len) ∧ w2.cell? ⟨w.heap.size + 1, 0, none⟩ = some (.int .i64 el) ∧ w2.cell? ⟨w.heap.size + 1, 1, none⟩ = some (.int .i64 e0) ∧ w2.cell? ⟨w.heap.size + 1, 2, none⟩ = some (.bool false) ∧ w2.cell? ⟨w.heap.size + 1 + 1, 0, none⟩ = some (.int .i64 px) ∧ w2.cell? ⟨w.heap.size + 1 + 1, 1, none⟩ = some (.int .i64 py) := by
      refine ⟨?_, ?_, ?_, ?_, ?_, ?_, ?_⟩ <;> (refine cell_below hb2 ?_; repeat (first | (with_reducible assumption) | ((with_reducible refine cell_set ?_ ?_ _); (· first | (simp; done) | (simp; omega) | omega)) | ((with_reducible refine cell_new ?_ ?_); (· (simp; done)); (· rfl)) | (with_reducible refine cell_alloc ?_ _) | (with_reducible refine cell_drew ?_) | (with_reducible refine cell_drewN ?_ _) | (with_reducible refine cell_below (by assumption) ?_)))
    have zf11 : w.heap.size < w2.heap.size := World.block_lt_of_cell? _ _ f11
    have zf13 : w.heap.size + 1 < w2.heap.size := World.block_lt_of_cell? _ _ f13
    have zf16 : w.heap.size + 1 + 1 < w2.heap.size := World.block_lt_of_cell? _ _ f16
    obtain ⟨⟨m18a, m18b⟩, ⟨m19a, m19b⟩, ⟨m20a, m20b⟩⟩ : (w2.cell? ⟨w.heap.size + 1 + 1 + 1, 0, none⟩ = some (cellV w2 ⟨w.heap.size + 1 + 1 + 1, 0, none⟩) ∧ w2.frozen? ⟨w.heap.size + 1 + 1 + 1, 0, none⟩ = false) ∧ (w2.cell? ⟨w.heap.size + 1 + 1 + 1, 1, none⟩ = some (cellV w2 ⟨w.heap.size + 1 + 1 + 1, 1, none⟩) ∧ w2.frozen? ⟨w.heap.size + 1 + 1 + 1, 1, none⟩ = false) ∧ (w2.cell? ⟨w.heap.size + 1 + 1 + 1, 2, none⟩ = some (cellV w2 ⟨w.heap.size + 1 + 1 + 1, 2, none⟩) ∧ w2.frozen? ⟨w.heap.size + 1 + 1 + 1, 2, none⟩ = false) := by
      refine ⟨?_, ?_, ?_⟩ <;> (refine mine_below hb2 ?_; repeat (first | (refine ⟨?_, ?_⟩ <;> (with_reducible assumption)) | (with_reducible refine mine_alloc ?_ _) | (with_reducible refine mine_set ?_ _ _) | (with_reducible refine mine_drew ?_) | (with_reducible refine mine_drewN ?_ _) | (with_reducible refine mine_below (by assumption) ?_)))
    have zm18 : w.heap.size + 1 + 1 + 1 < w2.heap.size := World.block_lt_of_cell? _ _ m18a
    clear f1 zf1 f2 f3 zf3 f4 f5 f6 zf6 f7 m8a m8b zm8 m9a m9b m10a m10b
    go_wp2_with fail
    all_goals
      exact bodyPost_ret (v := .tuple #[.agg #[.int .i64 el, .int .i64 e0, .bool false], .slice none 0 0]) (by simp [results, Tryz.results6, go_sem, *]) rfl ⟨rfl, by (repeat (with_reducible (first | assumption | exact Below.refl _ _ | refine Below.drew ?_ | refine below_drewN ?_ _ | refine below_set ?_ (by simp; try omega) _ | refine below_alloc ?_ (Nat.le_refl _) _ | refine below_sub (by assumption) ?_)))⟩
end Go.Proofs.YtdfkkknkiioghaaGreat

