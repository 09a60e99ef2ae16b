/-
  The walk of the law LineAheads.
-/
import Derived.Test.YtijdehdghgmccaaMAwakeL
import Derived.Test.YtijdehdghgmccaaMLaws
import Derived.Test.YtijdehdghgmccaaRows
import Derived.Test.YtijdehdghgmccaaMFrame
namespace Go.Proofs.Ytijdehdghgmccaa
open Go.RowKit
set_option linter.unusedVariables false
set_option linter.unusedSimpArgs false
set_option maxRecDepth 100000 in
set_option maxHeartbeats 4000000 in
theorem lineAheads_walk (ax ay bx b_y px py : Int) (hax : I64 ax) (hay : I64 ay) (hbx : I64 bx) (hb_y : I64 b_y) (hpx : I64 px) (hpy : I64 py) (w : World) :
    Calls Try.prog 19 #[.agg #[.int .i64 ax, .int .i64 ay], .agg #[.int .i64 bx, .int .i64 b_y], .agg #[.int .i64 px, .int .i64 py]] w fun e w' => e = .returned (.bool true) ∧ Below w.heap.size w w' := by
  have E3 := ahead_b ax ay bx b_y
  rcases hva : vldB ax ay with _ | _
  · have HT := hide (ahead_a0 (bx := bx) (b_y := b_y) (.inl hva))
    have HA := hide hva
    clear hva
    go_enter Try.func19, Try.ntmps19
    go_wp2_with fail
    go_region_held3 (fun w' => w'.cell? ⟨w.heap.size, 0, none⟩ = some (.int .i64 ax) ∧ w'.cell? ⟨w.heap.size, 1, none⟩ = some (.int .i64 ay) ∧ w'.cell? ⟨w.heap.size + 1, 0, none⟩ = some (.int .i64 bx) ∧ w'.cell? ⟨w.heap.size + 1, 1, none⟩ = some (.int .i64 b_y) ∧ w'.cell? ⟨w.heap.size + 1 + 1, 0, none⟩ = some (.int .i64 px) ∧ w'.cell? ⟨w.heap.size + 1 + 1, 1, none⟩ = some (.int .i64 py)) ((go_split_ands; refine ⟨?_, ?_, ?_, ?_, ?_, ?_⟩ <;> (repeat (first | (with_reducible assumption) | (with_reducible refine cell_drew ?_) | (with_reducible refine cell_drewN ?_ _) | (with_reducible refine cell_below (by assumption) ?_) | ((with_reducible refine cell_new ?_ ?_); (· (simp; done)); (· rfl)) | (with_reducible refine cell_alloc ?_ _) | ((with_reducible refine cell_set ?_ ?_ _); (· first | (simp; done) | (simp; omega) | omega))))))
      (first
        | (go_at_call 59; (with_reducible refine (ahead_any _ _ _ _ _ _ _).mono ?_); rintro e w' ⟨rfl, hb'⟩)
        | (go_at_call 60; (with_reducible refine (rahead_any _ _ _ _ _ _ _).mono ?_); rintro e w' ⟨rfl, hb'⟩)
        | (go_at_call 56; (with_reducible refine (awake11_any _).mono ?_); rintro e w' ⟨rfl, hb'⟩))
    rename_i hH
    obtain ⟨f1, f2, f3, f4, f5, f6⟩ := hH
    have zf1 : w.heap.size < w'.heap.size := World.block_lt_of_cell? _ _ f1
    have zf3 : w.heap.size + 1 < w'.heap.size := World.block_lt_of_cell? _ _ f3
    have zf5 : w.heap.size + 1 + 1 < w'.heap.size := World.block_lt_of_cell? _ _ f5
    go_wp2_with fail
    refine (pvalid_e _ _ _ HA.out _).mono ?_
    rintro e w1 ⟨rfl, hb1⟩
    have f7 := cell_below hb1 (b := w.heap.size) (o := 0) (v := .int .i64 ax) (by repeat (first | (with_reducible assumption) | (with_reducible refine cell_drew ?_) | (with_reducible refine cell_drewN ?_ _) | (with_reducible refine cell_below (by assumption) ?_) | ((with_reducible refine cell_new ?_ ?_); (· (simp; done)); (· rfl)) | (with_reducible refine cell_alloc ?_ _) | ((with_reducible refine cell_set ?_ ?_ _); (· first | (simp; done) | (simp; omega) | omega))))
    have zf7 : w.heap.size < w1.heap.size := World.block_lt_of_cell? _ _ f7
    have f8 := cell_below hb1 (b := w.heap.size) (o := 1) (v := .int .i64 ay) (by repeat (first | (with_reducible assumption) | (with_reducible refine cell_drew ?_) | (with_reducible refine cell_drewN ?_ _) | (with_reducible refine cell_below (by assumption) ?_) | ((with_reducible refine cell_new ?_ ?_); (· (simp; done)); (· rfl)) | (with_reducible refine cell_alloc ?_ _) | ((with_reducible refine cell_set ?_ ?_ _); (· first | (simp; done) | (simp; omega) | omega))))
    have f9 := cell_below hb1 (b := w.heap.size + 1) (o := 0) (v := .int .i64 bx) (by repeat (first | (with_reducible assumption) | (with_reducible refine cell_drew ?_) | (with_reducible refine cell_drewN ?_ _) | (with_reducible refine cell_below (by assumption) ?_) | ((with_reducible refine cell_new ?_ ?_); (· (simp; done)); (· rfl)) | (with_reducible refine cell_alloc ?_ _) | ((with_reducible refine cell_set ?_ ?_ _); (· first | (simp; done) | (simp; omega) | omega))))
    have zf9 : w.heap.size + 1 < w1.heap.size := World.block_lt_of_cell? _ _ f9
    have f10 := cell_below hb1 (b := w.heap.size + 1) (o := 1) (v := .int .i64 b_y) (by repeat (first | (with_reducible assumption) | (with_reducible refine cell_drew ?_) | (with_reducible refine cell_drewN ?_ _) | (with_reducible refine cell_below (by assumption) ?_) | ((with_reducible refine cell_new ?_ ?_); (· (simp; done)); (· rfl)) | (with_reducible refine cell_alloc ?_ _) | ((with_reducible refine cell_set ?_ ?_ _); (· first | (simp; done) | (simp; omega) | omega))))
    have f11 := cell_below hb1 (b := w.heap.size + 1 + 1) (o := 0) (v := .int .i64 px) (by repeat (first | (with_reducible assumption) | (with_reducible refine cell_drew ?_) | (with_reducible refine cell_drewN ?_ _) | (with_reducible refine cell_below (by assumption) ?_) | ((with_reducible refine cell_new ?_ ?_); (· (simp; done)); (· rfl)) | (with_reducible refine cell_alloc ?_ _) | ((with_reducible refine cell_set ?_ ?_ _); (· first | (simp; done) | (simp; omega) | omega))))
    have zf11 : w.heap.size + 1 + 1 < w1.heap.size := World.block_lt_of_cell? _ _ f11
    have f12 := cell_below hb1 (b := w.heap.size + 1 + 1) (o := 1) (v := .int .i64 py) (by repeat (first | (with_reducible assumption) | (with_reducible refine cell_drew ?_) | (with_reducible refine cell_drewN ?_ _) | (with_reducible refine cell_below (by assumption) ?_) | ((with_reducible refine cell_new ?_ ?_); (· (simp; done)); (· rfl)) | (with_reducible refine cell_alloc ?_ _) | ((with_reducible refine cell_set ?_ ?_ _); (· first | (simp; done) | (simp; omega) | omega))))
    clear f1 zf1 f2 f3 zf3 f4 f5 zf5 f6
    go_wp2_with fail
    refine (ahead_any ax ay bx b_y ax ay _).mono ?_
    rintro e w2 ⟨rfl, hb2⟩
    rw [HT.out]
    have f13 := cell_below hb2 (b := w.heap.size) (o := 0) (v := .int .i64 ax) (by repeat (first | (with_reducible assumption) | (with_reducible refine cell_drew ?_) | (with_reducible refine cell_drewN ?_ _) | (with_reducible refine cell_below (by assumption) ?_) | ((with_reducible refine cell_new ?_ ?_); (· (simp; done)); (· rfl)) | (with_reducible refine cell_alloc ?_ _) | ((with_reducible refine cell_set ?_ ?_ _); (· first | (simp; done) | (simp; omega) | omega))))
    have zf13 : w.heap.size < w2.heap.size := World.block_lt_of_cell? _ _ f13
    have f14 := cell_below hb2 (b := w.heap.size) (o := 1) (v := .int .i64 ay) (by repeat (first | (with_reducible assumption) | (with_reducible refine cell_drew ?_) | (with_reducible refine cell_drewN ?_ _) | (with_reducible refine cell_below (by assumption) ?_) | ((with_reducible refine cell_new ?_ ?_); (· (simp; done)); (· rfl)) | (with_reducible refine cell_alloc ?_ _) | ((with_reducible refine cell_set ?_ ?_ _); (· first | (simp; done) | (simp; omega) | omega))))
    have f15 := cell_below hb2 (b := w.heap.size + 1) (o := 0) (v := .int .i64 bx) (by repeat (first | (with_reducible assumption) | (with_reducible refine cell_drew ?_) | (with_reducible refine cell_drewN ?_ _) | (with_reducible refine cell_below (by assumption) ?_) | ((with_reducible refine cell_new ?_ ?_); (· (simp; done)); (· rfl)) | (with_reducible refine cell_alloc ?_ _) | ((with_reducible refine cell_set ?_ ?_ _); (· first | (simp; done) | (simp; omega) | omega))))
    have zf15 : w.heap.size + 1 < w2.heap.size := World.block_lt_of_cell? _ _ f15
    have f16 := cell_below hb2 (b := w.heap.size + 1) (o := 1) (v := .int .i64 b_y) (by repeat (first | (with_reducible assumption) | (with_reducible refine cell_drew ?_) | (with_reducible refine cell_drewN ?_ _) | (with_reducible refine cell_below (by assumption) ?_) | ((with_reducible refine cell_new ?_ ?_); (· (simp; done)); (· rfl)) | (with_reducible refine cell_alloc ?_ _) | ((with_reducible refine cell_set ?_ ?_ _); (· first | (simp; done) | (simp; omega) | omega))))
    have f17 := cell_below hb2 (b := w.heap.size + 1 + 1) (o := 0) (v := .int .i64 px) (by repeat (first | (with_reducible assumption) | (with_reducible refine cell_drew ?_) | (with_reducible refine cell_drewN ?_ _) | (with_reducible refine cell_below (by assumption) ?_) | ((with_reducible refine cell_new ?_ ?_); (· (simp; done)); (· rfl)) | (with_reducible refine cell_alloc ?_ _) | ((with_reducible refine cell_set ?_ ?_ _); (· first | (simp; done) | (simp; omega) | omega))))
    have zf17 : w.heap.size + 1 + 1 < w2.heap.size := World.block_lt_of_cell? _ _ f17
    have f18 := cell_below hb2 (b := w.heap.size + 1 + 1) (o := 1) (v := .int .i64 py) (by repeat (first | (with_reducible assumption) | (with_reducible refine cell_drew ?_) | (with_reducible refine cell_drewN ?_ _) | (with_reducible refine cell_below (by assumption) ?_) | ((with_reducible refine cell_new ?_ ?_); (· (simp; done)); (· rfl)) | (with_reducible refine cell_alloc ?_ _) | ((with_reducible refine cell_set ?_ ?_ _); (· first | (simp; done) | (simp; omega) | omega))))
    clear f7 zf7 f8 f9 zf9 f10 f11 zf11 f12
    go_wp2_with fail
    go_ret
    exact ⟨rfl, by (repeat (with_reducible (first | assumption | exact Below.refl _ _ | refine Below.drew ?_ | refine below_drewN ?_ _ | refine below_set ?_ (by simp; try omega) _ | refine below_alloc ?_ (Nat.le_refl _) _ | refine below_sub (by assumption) ?_)))⟩
  rcases hvb : vldB bx b_y with _ | _
  · have HT := hide (ahead_a0 (ax := ax) (ay := ay) (.inr (.inl hvb)))
    have HA := hide hva
    have HB := hide hvb
    clear hva hvb
    go_enter Try.func19, Try.ntmps19
    go_wp2_with fail
    go_region_held3 (fun w' => w'.cell? ⟨w.heap.size, 0, none⟩ = some (.int .i64 ax) ∧ w'.cell? ⟨w.heap.size, 1, none⟩ = some (.int .i64 ay) ∧ w'.cell? ⟨w.heap.size + 1, 0, none⟩ = some (.int .i64 bx) ∧ w'.cell? ⟨w.heap.size + 1, 1, none⟩ = some (.int .i64 b_y) ∧ w'.cell? ⟨w.heap.size + 1 + 1, 0, none⟩ = some (.int .i64 px) ∧ w'.cell? ⟨w.heap.size + 1 + 1, 1, none⟩ = some (.int .i64 py)) ((go_split_ands; refine ⟨?_, ?_, ?_, ?_, ?_, ?_⟩ <;> (repeat (first | (with_reducible assumption) | (with_reducible refine cell_drew ?_) | (with_reducible refine cell_drewN ?_ _) | (with_reducible refine cell_below (by assumption) ?_) | ((with_reducible refine cell_new ?_ ?_); (· (simp; done)); (· rfl)) | (with_reducible refine cell_alloc ?_ _) | ((with_reducible refine cell_set ?_ ?_ _); (· first | (simp; done) | (simp; omega) | omega))))))
      (first
        | (go_at_call 59; (with_reducible refine (ahead_any _ _ _ _ _ _ _).mono ?_); rintro e w' ⟨rfl, hb'⟩)
        | (go_at_call 60; (with_reducible refine (rahead_any _ _ _ _ _ _ _).mono ?_); rintro e w' ⟨rfl, hb'⟩)
        | (go_at_call 56; (with_reducible refine (awake11_any _).mono ?_); rintro e w' ⟨rfl, hb'⟩))
    rename_i hH
    obtain ⟨f1, f2, f3, f4, f5, f6⟩ := hH
    have zf1 : w.heap.size < w'.heap.size := World.block_lt_of_cell? _ _ f1
    have zf3 : w.heap.size + 1 < w'.heap.size := World.block_lt_of_cell? _ _ f3
    have zf5 : w.heap.size + 1 + 1 < w'.heap.size := World.block_lt_of_cell? _ _ f5
    go_wp2_with fail
    refine (pvalid_e _ _ _ HA.out _).mono ?_
    rintro e w1 ⟨rfl, hb1⟩
    have f7 := cell_below hb1 (b := w.heap.size) (o := 0) (v := .int .i64 ax) (by repeat (first | (with_reducible assumption) | (with_reducible refine cell_drew ?_) | (with_reducible refine cell_drewN ?_ _) | (with_reducible refine cell_below (by assumption) ?_) | ((with_reducible refine cell_new ?_ ?_); (· (simp; done)); (· rfl)) | (with_reducible refine cell_alloc ?_ _) | ((with_reducible refine cell_set ?_ ?_ _); (· first | (simp; done) | (simp; omega) | omega))))
    have zf7 : w.heap.size < w1.heap.size := World.block_lt_of_cell? _ _ f7
    have f8 := cell_below hb1 (b := w.heap.size) (o := 1) (v := .int .i64 ay) (by repeat (first | (with_reducible assumption) | (with_reducible refine cell_drew ?_) | (with_reducible refine cell_drewN ?_ _) | (with_reducible refine cell_below (by assumption) ?_) | ((with_reducible refine cell_new ?_ ?_); (· (simp; done)); (· rfl)) | (with_reducible refine cell_alloc ?_ _) | ((with_reducible refine cell_set ?_ ?_ _); (· first | (simp; done) | (simp; omega) | omega))))
    have f9 := cell_below hb1 (b := w.heap.size + 1) (o := 0) (v := .int .i64 bx) (by repeat (first | (with_reducible assumption) | (with_reducible refine cell_drew ?_) | (with_reducible refine cell_drewN ?_ _) | (with_reducible refine cell_below (by assumption) ?_) | ((with_reducible refine cell_new ?_ ?_); (· (simp; done)); (· rfl)) | (with_reducible refine cell_alloc ?_ _) | ((with_reducible refine cell_set ?_ ?_ _); (· first | (simp; done) | (simp; omega) | omega))))
    have zf9 : w.heap.size + 1 < w1.heap.size := World.block_lt_of_cell? _ _ f9
    have f10 := cell_below hb1 (b := w.heap.size + 1) (o := 1) (v := .int .i64 b_y) (by repeat (first | (with_reducible assumption) | (with_reducible refine cell_drew ?_) | (with_reducible refine cell_drewN ?_ _) | (with_reducible refine cell_below (by assumption) ?_) | ((with_reducible refine cell_new ?_ ?_); (· (simp; done)); (· rfl)) | (with_reducible refine cell_alloc ?_ _) | ((with_reducible refine cell_set ?_ ?_ _); (· first | (simp; done) | (simp; omega) | omega))))
    have f11 := cell_below hb1 (b := w.heap.size + 1 + 1) (o := 0) (v := .int .i64 px) (by repeat (first | (with_reducible assumption) | (with_reducible refine cell_drew ?_) | (with_reducible refine cell_drewN ?_ _) | (with_reducible refine cell_below (by assumption) ?_) | ((with_reducible refine cell_new ?_ ?_); (· (simp; done)); (· rfl)) | (with_reducible refine cell_alloc ?_ _) | ((with_reducible refine cell_set ?_ ?_ _); (· first | (simp; done) | (simp; omega) | omega))))
    have zf11 : w.heap.size + 1 + 1 < w1.heap.size := World.block_lt_of_cell? _ _ f11
    have f12 := cell_below hb1 (b := w.heap.size + 1 + 1) (o := 1) (v := .int .i64 py) (by repeat (first | (with_reducible assumption) | (with_reducible refine cell_drew ?_) | (with_reducible refine cell_drewN ?_ _) | (with_reducible refine cell_below (by assumption) ?_) | ((with_reducible refine cell_new ?_ ?_); (· (simp; done)); (· rfl)) | (with_reducible refine cell_alloc ?_ _) | ((with_reducible refine cell_set ?_ ?_ _); (· first | (simp; done) | (simp; omega) | omega))))
    clear f1 zf1 f2 f3 zf3 f4 f5 zf5 f6
    go_wp2_with fail
    refine (pvalid_e _ _ _ HB.out _).mono ?_
    rintro e w2 ⟨rfl, hb2⟩
    have f13 := cell_below hb2 (b := w.heap.size) (o := 0) (v := .int .i64 ax) (by repeat (first | (with_reducible assumption) | (with_reducible refine cell_drew ?_) | (with_reducible refine cell_drewN ?_ _) | (with_reducible refine cell_below (by assumption) ?_) | ((with_reducible refine cell_new ?_ ?_); (· (simp; done)); (· rfl)) | (with_reducible refine cell_alloc ?_ _) | ((with_reducible refine cell_set ?_ ?_ _); (· first | (simp; done) | (simp; omega) | omega))))
    have zf13 : w.heap.size < w2.heap.size := World.block_lt_of_cell? _ _ f13
    have f14 := cell_below hb2 (b := w.heap.size) (o := 1) (v := .int .i64 ay) (by repeat (first | (with_reducible assumption) | (with_reducible refine cell_drew ?_) | (with_reducible refine cell_drewN ?_ _) | (with_reducible refine cell_below (by assumption) ?_) | ((with_reducible refine cell_new ?_ ?_); (· (simp; done)); (· rfl)) | (with_reducible refine cell_alloc ?_ _) | ((with_reducible refine cell_set ?_ ?_ _); (· first | (simp; done) | (simp; omega) | omega))))
    have f15 := cell_below hb2 (b := w.heap.size + 1) (o := 0) (v := .int .i64 bx) (by repeat (first | (with_reducible assumption) | (with_reducible refine cell_drew ?_) | (with_reducible refine cell_drewN ?_ _) | (with_reducible refine cell_below (by assumption) ?_) | ((with_reducible refine cell_new ?_ ?_); (· (simp; done)); (· rfl)) | (with_reducible refine cell_alloc ?_ _) | ((with_reducible refine cell_set ?_ ?_ _); (· first | (simp; done) | (simp; omega) | omega))))
    have zf15 : w.heap.size + 1 < w2.heap.size := World.block_lt_of_cell? _ _ f15
    have f16 := cell_below hb2 (b := w.heap.size + 1) (o := 1) (v := .int .i64 b_y) (by repeat (first | (with_reducible assumption) | (with_reducible refine cell_drew ?_) | (with_reducible refine cell_drewN ?_ _) | (with_reducible refine cell_below (by assumption) ?_) | ((with_reducible refine cell_new ?_ ?_); (· (simp; done)); (· rfl)) | (with_reducible refine cell_alloc ?_ _) | ((with_reducible refine cell_set ?_ ?_ _); (· first | (simp; done) | (simp; omega) | omega))))
    have f17 := cell_below hb2 (b := w.heap.size + 1 + 1) (o := 0) (v := .int .i64 px) (by repeat (first | (with_reducible assumption) | (with_reducible refine cell_drew ?_) | (with_reducible refine cell_drewN ?_ _) | (with_reducible refine cell_below (by assumption) ?_) | ((with_reducible refine cell_new ?_ ?_); (· (simp; done)); (· rfl)) | (with_reducible refine cell_alloc ?_ _) | ((with_reducible refine cell_set ?_ ?_ _); (· first | (simp; done) | (simp; omega) | omega))))
    have zf17 : w.heap.size + 1 + 1 < w2.heap.size := World.block_lt_of_cell? _ _ f17
    have f18 := cell_below hb2 (b := w.heap.size + 1 + 1) (o := 1) (v := .int .i64 py) (by repeat (first | (with_reducible assumption) | (with_reducible refine cell_drew ?_) | (with_reducible refine cell_drewN ?_ _) | (with_reducible refine cell_below (by assumption) ?_) | ((with_reducible refine cell_new ?_ ?_); (· (simp; done)); (· rfl)) | (with_reducible refine cell_alloc ?_ _) | ((with_reducible refine cell_set ?_ ?_ _); (· first | (simp; done) | (simp; omega) | omega))))
    clear f7 zf7 f8 f9 zf9 f10 f11 zf11 f12
    go_wp2_with fail
    refine (ahead_any ax ay bx b_y ax ay _).mono ?_
    rintro e w3 ⟨rfl, hb3⟩
    rw [HT.out]
    have f19 := cell_below hb3 (b := w.heap.size) (o := 0) (v := .int .i64 ax) (by repeat (first | (with_reducible assumption) | (with_reducible refine cell_drew ?_) | (with_reducible refine cell_drewN ?_ _) | (with_reducible refine cell_below (by assumption) ?_) | ((with_reducible refine cell_new ?_ ?_); (· (simp; done)); (· rfl)) | (with_reducible refine cell_alloc ?_ _) | ((with_reducible refine cell_set ?_ ?_ _); (· first | (simp; done) | (simp; omega) | omega))))
    have zf19 : w.heap.size < w3.heap.size := World.block_lt_of_cell? _ _ f19
    have f20 := cell_below hb3 (b := w.heap.size) (o := 1) (v := .int .i64 ay) (by repeat (first | (with_reducible assumption) | (with_reducible refine cell_drew ?_) | (with_reducible refine cell_drewN ?_ _) | (with_reducible refine cell_below (by assumption) ?_) | ((with_reducible refine cell_new ?_ ?_); (· (simp; done)); (· rfl)) | (with_reducible refine cell_alloc ?_ _) | ((with_reducible refine cell_set ?_ ?_ _); (· first | (simp; done) | (simp; omega) | omega))))
    have f21 := cell_below hb3 (b := w.heap.size + 1) (o := 0) (v := .int .i64 bx) (by repeat (first | (with_reducible assumption) | (with_reducible refine cell_drew ?_) | (with_reducible refine cell_drewN ?_ _) | (with_reducible refine cell_below (by assumption) ?_) | ((with_reducible refine cell_new ?_ ?_); (· (simp; done)); (· rfl)) | (with_reducible refine cell_alloc ?_ _) | ((with_reducible refine cell_set ?_ ?_ _); (· first | (simp; done) | (simp; omega) | omega))))
    have zf21 : w.heap.size + 1 < w3.heap.size := World.block_lt_of_cell? _ _ f21
    have f22 := cell_below hb3 (b := w.heap.size + 1) (o := 1) (v := .int .i64 b_y) (by repeat (first | (with_reducible assumption) | (with_reducible refine cell_drew ?_) | (with_reducible refine cell_drewN ?_ _) | (with_reducible refine cell_below (by assumption) ?_) | ((with_reducible refine cell_new ?_ ?_); (· (simp; done)); (· rfl)) | (with_reducible refine cell_alloc ?_ _) | ((with_reducible refine cell_set ?_ ?_ _); (· first | (simp; done) | (simp; omega) | omega))))
    have f23 := cell_below hb3 (b := w.heap.size + 1 + 1) (o := 0) (v := .int .i64 px) (by repeat (first | (with_reducible assumption) | (with_reducible refine cell_drew ?_) | (with_reducible refine cell_drewN ?_ _) | (with_reducible refine cell_below (by assumption) ?_) | ((with_reducible refine cell_new ?_ ?_); (· (simp; done)); (· rfl)) | (with_reducible refine cell_alloc ?_ _) | ((with_reducible refine cell_set ?_ ?_ _); (· first | (simp; done) | (simp; omega) | omega))))
    have zf23 : w.heap.size + 1 + 1 < w3.heap.size := World.block_lt_of_cell? _ _ f23
    have f24 := cell_below hb3 (b := w.heap.size + 1 + 1) (o := 1) (v := .int .i64 py) (by repeat (first | (with_reducible assumption) | (with_reducible refine cell_drew ?_) | (with_reducible refine cell_drewN ?_ _) | (with_reducible refine cell_below (by assumption) ?_) | ((with_reducible refine cell_new ?_ ?_); (· (simp; done)); (· rfl)) | (with_reducible refine cell_alloc ?_ _) | ((with_reducible refine cell_set ?_ ?_ _); (· first | (simp; done) | (simp; omega) | omega))))
    clear f13 zf13 f14 f15 zf15 f16 f17 zf17 f18
    go_wp2_with fail
    go_ret
    exact ⟨rfl, by (repeat (with_reducible (first | assumption | exact Below.refl _ _ | refine Below.drew ?_ | refine below_drewN ?_ _ | refine below_set ?_ (by simp; try omega) _ | refine below_alloc ?_ (Nat.le_refl _) _ | refine below_sub (by assumption) ?_)))⟩
  by_cases he : ax = bx ∧ ay = b_y
  · have HT := hide (ahead_a0 (.inr (.inr he)))
    have HA := hide hva
    have HB := hide hvb
    clear hva hvb
    obtain ⟨rfl, rfl⟩ := he
    go_enter Try.func19, Try.ntmps19
    go_wp2_with fail
    go_region_held3 (fun w' => w'.cell? ⟨w.heap.size, 0, none⟩ = some (.int .i64 ax) ∧ w'.cell? ⟨w.heap.size, 1, none⟩ = some (.int .i64 ay) ∧ w'.cell? ⟨w.heap.size + 1, 0, none⟩ = some (.int .i64 ax) ∧ w'.cell? ⟨w.heap.size + 1, 1, none⟩ = some (.int .i64 ay) ∧ w'.cell? ⟨w.heap.size + 1 + 1, 0, none⟩ = some (.int .i64 px) ∧ w'.cell? ⟨w.heap.size + 1 + 1, 1, none⟩ = some (.int .i64 py)) ((go_split_ands; refine ⟨?_, ?_, ?_, ?_, ?_, ?_⟩ <;> (repeat (first | (with_reducible assumption) | (with_reducible refine cell_drew ?_) | (with_reducible refine cell_drewN ?_ _) | (with_reducible refine cell_below (by assumption) ?_) | ((with_reducible refine cell_new ?_ ?_); (· (simp; done)); (· rfl)) | (with_reducible refine cell_alloc ?_ _) | ((with_reducible refine cell_set ?_ ?_ _); (· first | (simp; done) | (simp; omega) | omega))))))
      (first
        | (go_at_call 59; (with_reducible refine (ahead_any _ _ _ _ _ _ _).mono ?_); rintro e w' ⟨rfl, hb'⟩)
        | (go_at_call 60; (with_reducible refine (rahead_any _ _ _ _ _ _ _).mono ?_); rintro e w' ⟨rfl, hb'⟩)
        | (go_at_call 56; (with_reducible refine (awake11_any _).mono ?_); rintro e w' ⟨rfl, hb'⟩))
    rename_i hH
    obtain ⟨f1, f2, f3, f4, f5, f6⟩ := hH
    have zf1 : w.heap.size < w'.heap.size := World.block_lt_of_cell? _ _ f1
    have zf3 : w.heap.size + 1 < w'.heap.size := World.block_lt_of_cell? _ _ f3
    have zf5 : w.heap.size + 1 + 1 < w'.heap.size := World.block_lt_of_cell? _ _ f5
    go_wp2_with fail
    refine (pvalid_e _ _ _ HA.out _).mono ?_
    rintro e w1 ⟨rfl, hb1⟩
    have f7 := cell_below hb1 (b := w.heap.size) (o := 0) (v := .int .i64 ax) (by repeat (first | (with_reducible assumption) | (with_reducible refine cell_drew ?_) | (with_reducible refine cell_drewN ?_ _) | (with_reducible refine cell_below (by assumption) ?_) | ((with_reducible refine cell_new ?_ ?_); (· (simp; done)); (· rfl)) | (with_reducible refine cell_alloc ?_ _) | ((with_reducible refine cell_set ?_ ?_ _); (· first | (simp; done) | (simp; omega) | omega))))
    have zf7 : w.heap.size < w1.heap.size := World.block_lt_of_cell? _ _ f7
    have f8 := cell_below hb1 (b := w.heap.size) (o := 1) (v := .int .i64 ay) (by repeat (first | (with_reducible assumption) | (with_reducible refine cell_drew ?_) | (with_reducible refine cell_drewN ?_ _) | (with_reducible refine cell_below (by assumption) ?_) | ((with_reducible refine cell_new ?_ ?_); (· (simp; done)); (· rfl)) | (with_reducible refine cell_alloc ?_ _) | ((with_reducible refine cell_set ?_ ?_ _); (· first | (simp; done) | (simp; omega) | omega))))
    have f9 := cell_below hb1 (b := w.heap.size + 1) (o := 0) (v := .int .i64 ax) (by repeat (first | (with_reducible assumption) | (with_reducible refine cell_drew ?_) | (with_reducible refine cell_drewN ?_ _) | (with_reducible refine cell_below (by assumption) ?_) | ((with_reducible refine cell_new ?_ ?_); (· (simp; done)); (· rfl)) | (with_reducible refine cell_alloc ?_ _) | ((with_reducible refine cell_set ?_ ?_ _); (· first | (simp; done) | (simp; omega) | omega))))
    have zf9 : w.heap.size + 1 < w1.heap.size := World.block_lt_of_cell? _ _ f9
    have f10 := cell_below hb1 (b := w.heap.size + 1) (o := 1) (v := .int .i64 ay) (by repeat (first | (with_reducible assumption) | (with_reducible refine cell_drew ?_) | (with_reducible refine cell_drewN ?_ _) | (with_reducible refine cell_below (by assumption) ?_) | ((with_reducible refine cell_new ?_ ?_); (· (simp; done)); (· rfl)) | (with_reducible refine cell_alloc ?_ _) | ((with_reducible refine cell_set ?_ ?_ _); (· first | (simp; done) | (simp; omega) | omega))))
    have f11 := cell_below hb1 (b := w.heap.size + 1 + 1) (o := 0) (v := .int .i64 px) (by repeat (first | (with_reducible assumption) | (with_reducible refine cell_drew ?_) | (with_reducible refine cell_drewN ?_ _) | (with_reducible refine cell_below (by assumption) ?_) | ((with_reducible refine cell_new ?_ ?_); (· (simp; done)); (· rfl)) | (with_reducible refine cell_alloc ?_ _) | ((with_reducible refine cell_set ?_ ?_ _); (· first | (simp; done) | (simp; omega) | omega))))
    have zf11 : w.heap.size + 1 + 1 < w1.heap.size := World.block_lt_of_cell? _ _ f11
    have f12 := cell_below hb1 (b := w.heap.size + 1 + 1) (o := 1) (v := .int .i64 py) (by repeat (first | (with_reducible assumption) | (with_reducible refine cell_drew ?_) | (with_reducible refine cell_drewN ?_ _) | (with_reducible refine cell_below (by assumption) ?_) | ((with_reducible refine cell_new ?_ ?_); (· (simp; done)); (· rfl)) | (with_reducible refine cell_alloc ?_ _) | ((with_reducible refine cell_set ?_ ?_ _); (· first | (simp; done) | (simp; omega) | omega))))
    clear f1 zf1 f2 f3 zf3 f4 f5 zf5 f6
    go_wp2_with fail
    refine (pvalid_e _ _ _ HB.out _).mono ?_
    rintro e w2 ⟨rfl, hb2⟩
    have f13 := cell_below hb2 (b := w.heap.size) (o := 0) (v := .int .i64 ax) (by repeat (first | (with_reducible assumption) | (with_reducible refine cell_drew ?_) | (with_reducible refine cell_drewN ?_ _) | (with_reducible refine cell_below (by assumption) ?_) | ((with_reducible refine cell_new ?_ ?_); (· (simp; done)); (· rfl)) | (with_reducible refine cell_alloc ?_ _) | ((with_reducible refine cell_set ?_ ?_ _); (· first | (simp; done) | (simp; omega) | omega))))
    have zf13 : w.heap.size < w2.heap.size := World.block_lt_of_cell? _ _ f13
    have f14 := cell_below hb2 (b := w.heap.size) (o := 1) (v := .int .i64 ay) (by repeat (first | (with_reducible assumption) | (with_reducible refine cell_drew ?_) | (with_reducible refine cell_drewN ?_ _) | (with_reducible refine cell_below (by assumption) ?_) | ((with_reducible refine cell_new ?_ ?_); (· (simp; done)); (· rfl)) | (with_reducible refine cell_alloc ?_ _) | ((with_reducible refine cell_set ?_ ?_ _); (· first | (simp; done) | (simp; omega) | omega))))
    have f15 := cell_below hb2 (b := w.heap.size + 1) (o := 0) (v := .int .i64 ax) (by repeat (first | (with_reducible assumption) | (with_reducible refine cell_drew ?_) | (with_reducible refine cell_drewN ?_ _) | (with_reducible refine cell_below (by assumption) ?_) | ((with_reducible refine cell_new ?_ ?_); (· (simp; done)); (· rfl)) | (with_reducible refine cell_alloc ?_ _) | ((with_reducible refine cell_set ?_ ?_ _); (· first | (simp; done) | (simp; omega) | omega))))
    have zf15 : w.heap.size + 1 < w2.heap.size := World.block_lt_of_cell? _ _ f15
    have f16 := cell_below hb2 (b := w.heap.size + 1) (o := 1) (v := .int .i64 ay) (by repeat (first | (with_reducible assumption) | (with_reducible refine cell_drew ?_) | (with_reducible refine cell_drewN ?_ _) | (with_reducible refine cell_below (by assumption) ?_) | ((with_reducible refine cell_new ?_ ?_); (· (simp; done)); (· rfl)) | (with_reducible refine cell_alloc ?_ _) | ((with_reducible refine cell_set ?_ ?_ _); (· first | (simp; done) | (simp; omega) | omega))))
    have f17 := cell_below hb2 (b := w.heap.size + 1 + 1) (o := 0) (v := .int .i64 px) (by repeat (first | (with_reducible assumption) | (with_reducible refine cell_drew ?_) | (with_reducible refine cell_drewN ?_ _) | (with_reducible refine cell_below (by assumption) ?_) | ((with_reducible refine cell_new ?_ ?_); (· (simp; done)); (· rfl)) | (with_reducible refine cell_alloc ?_ _) | ((with_reducible refine cell_set ?_ ?_ _); (· first | (simp; done) | (simp; omega) | omega))))
    have zf17 : w.heap.size + 1 + 1 < w2.heap.size := World.block_lt_of_cell? _ _ f17
    have f18 := cell_below hb2 (b := w.heap.size + 1 + 1) (o := 1) (v := .int .i64 py) (by repeat (first | (with_reducible assumption) | (with_reducible refine cell_drew ?_) | (with_reducible refine cell_drewN ?_ _) | (with_reducible refine cell_below (by assumption) ?_) | ((with_reducible refine cell_new ?_ ?_); (· (simp; done)); (· rfl)) | (with_reducible refine cell_alloc ?_ _) | ((with_reducible refine cell_set ?_ ?_ _); (· first | (simp; done) | (simp; omega) | omega))))
    clear f7 zf7 f8 f9 zf9 f10 f11 zf11 f12
    go_wp2_with fail
    refine (ahead_any ax ay ax ay ax ay _).mono ?_
    rintro e w3 ⟨rfl, hb3⟩
    rw [HT.out]
    have f19 := cell_below hb3 (b := w.heap.size) (o := 0) (v := .int .i64 ax) (by repeat (first | (with_reducible assumption) | (with_reducible refine cell_drew ?_) | (with_reducible refine cell_drewN ?_ _) | (with_reducible refine cell_below (by assumption) ?_) | ((with_reducible refine cell_new ?_ ?_); (· (simp; done)); (· rfl)) | (with_reducible refine cell_alloc ?_ _) | ((with_reducible refine cell_set ?_ ?_ _); (· first | (simp; done) | (simp; omega) | omega))))
    have zf19 : w.heap.size < w3.heap.size := World.block_lt_of_cell? _ _ f19
    have f20 := cell_below hb3 (b := w.heap.size) (o := 1) (v := .int .i64 ay) (by repeat (first | (with_reducible assumption) | (with_reducible refine cell_drew ?_) | (with_reducible refine cell_drewN ?_ _) | (with_reducible refine cell_below (by assumption) ?_) | ((with_reducible refine cell_new ?_ ?_); (· (simp; done)); (· rfl)) | (with_reducible refine cell_alloc ?_ _) | ((with_reducible refine cell_set ?_ ?_ _); (· first | (simp; done) | (simp; omega) | omega))))
    have f21 := cell_below hb3 (b := w.heap.size + 1) (o := 0) (v := .int .i64 ax) (by repeat (first | (with_reducible assumption) | (with_reducible refine cell_drew ?_) | (with_reducible refine cell_drewN ?_ _) | (with_reducible refine cell_below (by assumption) ?_) | ((with_reducible refine cell_new ?_ ?_); (· (simp; done)); (· rfl)) | (with_reducible refine cell_alloc ?_ _) | ((with_reducible refine cell_set ?_ ?_ _); (· first | (simp; done) | (simp; omega) | omega))))
    have zf21 : w.heap.size + 1 < w3.heap.size := World.block_lt_of_cell? _ _ f21
    have f22 := cell_below hb3 (b := w.heap.size + 1) (o := 1) (v := .int .i64 ay) (by repeat (first | (with_reducible assumption) | (with_reducible refine cell_drew ?_) | (with_reducible refine cell_drewN ?_ _) | (with_reducible refine cell_below (by assumption) ?_) | ((with_reducible refine cell_new ?_ ?_); (· (simp; done)); (· rfl)) | (with_reducible refine cell_alloc ?_ _) | ((with_reducible refine cell_set ?_ ?_ _); (· first | (simp; done) | (simp; omega) | omega))))
    have f23 := cell_below hb3 (b := w.heap.size + 1 + 1) (o := 0) (v := .int .i64 px) (by repeat (first | (with_reducible assumption) | (with_reducible refine cell_drew ?_) | (with_reducible refine cell_drewN ?_ _) | (with_reducible refine cell_below (by assumption) ?_) | ((with_reducible refine cell_new ?_ ?_); (· (simp; done)); (· rfl)) | (with_reducible refine cell_alloc ?_ _) | ((with_reducible refine cell_set ?_ ?_ _); (· first | (simp; done) | (simp; omega) | omega))))
    have zf23 : w.heap.size + 1 + 1 < w3.heap.size := World.block_lt_of_cell? _ _ f23
    have f24 := cell_below hb3 (b := w.heap.size + 1 + 1) (o := 1) (v := .int .i64 py) (by repeat (first | (with_reducible assumption) | (with_reducible refine cell_drew ?_) | (with_reducible refine cell_drewN ?_ _) | (with_reducible refine cell_below (by assumption) ?_) | ((with_reducible refine cell_new ?_ ?_); (· (simp; done)); (· rfl)) | (with_reducible refine cell_alloc ?_ _) | ((with_reducible refine cell_set ?_ ?_ _); (· first | (simp; done) | (simp; omega) | omega))))
    clear f13 zf13 f14 f15 zf15 f16 f17 zf17 f18
    go_wp2_with fail
    go_ret
    exact ⟨rfl, by (repeat (with_reducible (first | assumption | exact Below.refl _ _ | refine Below.drew ?_ | refine below_drewN ?_ _ | refine below_set ?_ (by simp; try omega) _ | refine below_alloc ?_ (Nat.le_refl _) _ | refine below_sub (by assumption) ?_)))⟩
  have HT := hide (ahead_a hva hvb he)
  have HA := hide hva
  have HB := hide hvb
  clear hva hvb
  have T : ((ax == bx) = true ∧ (ay == b_y) = false) ∨ (ax == bx) = false := by
    by_cases hx0 : ax = bx
    · left; simp [hx0]; intro hy0; exact he ⟨hx0, hy0⟩
    · right; simp [hx0]
  clear he
  rcases T with ⟨t1, t2⟩ | t1
  all_goals
    go_enter Try.func19, Try.ntmps19
    go_wp2_with fail
    go_region_held3 (fun w' => w'.cell? ⟨w.heap.size, 0, none⟩ = some (.int .i64 ax) ∧ w'.cell? ⟨w.heap.size, 1, none⟩ = some (.int .i64 ay) ∧ w'.cell? ⟨w.heap.size + 1, 0, none⟩ = some (.int .i64 bx) ∧ w'.cell? ⟨w.heap.size + 1, 1, none⟩ = some (.int .i64 b_y) ∧ w'.cell? ⟨w.heap.size + 1 + 1, 0, none⟩ = some (.int .i64 px) ∧ w'.cell? ⟨w.heap.size + 1 + 1, 1, none⟩ = some (.int .i64 py)) ((go_split_ands; refine ⟨?_, ?_, ?_, ?_, ?_, ?_⟩ <;> (repeat (first | (with_reducible assumption) | (with_reducible refine cell_drew ?_) | (with_reducible refine cell_drewN ?_ _) | (with_reducible refine cell_below (by assumption) ?_) | ((with_reducible refine cell_new ?_ ?_); (· (simp; done)); (· rfl)) | (with_reducible refine cell_alloc ?_ _) | ((with_reducible refine cell_set ?_ ?_ _); (· first | (simp; done) | (simp; omega) | omega))))))
      (first
        | (go_at_call 59; (with_reducible refine (ahead_any _ _ _ _ _ _ _).mono ?_); rintro e w' ⟨rfl, hb'⟩)
        | (go_at_call 60; (with_reducible refine (rahead_any _ _ _ _ _ _ _).mono ?_); rintro e w' ⟨rfl, hb'⟩)
        | (go_at_call 56; (with_reducible refine (awake11_any _).mono ?_); rintro e w' ⟨rfl, hb'⟩))
    rename_i hH
    obtain ⟨f1, f2, f3, f4, f5, f6⟩ := hH
    have zf1 : w.heap.size < w'.heap.size := World.block_lt_of_cell? _ _ f1
    have zf3 : w.heap.size + 1 < w'.heap.size := World.block_lt_of_cell? _ _ f3
    have zf5 : w.heap.size + 1 + 1 < w'.heap.size := World.block_lt_of_cell? _ _ f5
    go_wp2_with fail
    refine (pvalid_e _ _ _ HA.out _).mono ?_
    rintro e w1 ⟨rfl, hb1⟩
    have f7 := cell_below hb1 (b := w.heap.size) (o := 0) (v := .int .i64 ax) (by repeat (first | (with_reducible assumption) | (with_reducible refine cell_drew ?_) | (with_reducible refine cell_drewN ?_ _) | (with_reducible refine cell_below (by assumption) ?_) | ((with_reducible refine cell_new ?_ ?_); (· (simp; done)); (· rfl)) | (with_reducible refine cell_alloc ?_ _) | ((with_reducible refine cell_set ?_ ?_ _); (· first | (simp; done) | (simp; omega) | omega))))
    have zf7 : w.heap.size < w1.heap.size := World.block_lt_of_cell? _ _ f7
    have f8 := cell_below hb1 (b := w.heap.size) (o := 1) (v := .int .i64 ay) (by repeat (first | (with_reducible assumption) | (with_reducible refine cell_drew ?_) | (with_reducible refine cell_drewN ?_ _) | (with_reducible refine cell_below (by assumption) ?_) | ((with_reducible refine cell_new ?_ ?_); (· (simp; done)); (· rfl)) | (with_reducible refine cell_alloc ?_ _) | ((with_reducible refine cell_set ?_ ?_ _); (· first | (simp; done) | (simp; omega) | omega))))
    have f9 := cell_below hb1 (b := w.heap.size + 1) (o := 0) (v := .int .i64 bx) (by repeat (first | (with_reducible assumption) | (with_reducible refine cell_drew ?_) | (with_reducible refine cell_drewN ?_ _) | (with_reducible refine cell_below (by assumption) ?_) | ((with_reducible refine cell_new ?_ ?_); (· (simp; done)); (· rfl)) | (with_reducible refine cell_alloc ?_ _) | ((with_reducible refine cell_set ?_ ?_ _); (· first | (simp; done) | (simp; omega) | omega))))
    have zf9 : w.heap.size + 1 < w1.heap.size := World.block_lt_of_cell? _ _ f9
    have f10 := cell_below hb1 (b := w.heap.size + 1) (o := 1) (v := .int .i64 b_y) (by repeat (first | (with_reducible assumption) | (with_reducible refine cell_drew ?_) | (with_reducible refine cell_drewN ?_ _) | (with_reducible refine cell_below (by assumption) ?_) | ((with_reducible refine cell_new ?_ ?_); (· (simp; done)); (· rfl)) | (with_reducible refine cell_alloc ?_ _) | ((with_reducible refine cell_set ?_ ?_ _); (· first | (simp; done) | (simp; omega) | omega))))
    have f11 := cell_below hb1 (b := w.heap.size + 1 + 1) (o := 0) (v := .int .i64 px) (by repeat (first | (with_reducible assumption) | (with_reducible refine cell_drew ?_) | (with_reducible refine cell_drewN ?_ _) | (with_reducible refine cell_below (by assumption) ?_) | ((with_reducible refine cell_new ?_ ?_); (· (simp; done)); (· rfl)) | (with_reducible refine cell_alloc ?_ _) | ((with_reducible refine cell_set ?_ ?_ _); (· first | (simp; done) | (simp; omega) | omega))))
    have zf11 : w.heap.size + 1 + 1 < w1.heap.size := World.block_lt_of_cell? _ _ f11
    have f12 := cell_below hb1 (b := w.heap.size + 1 + 1) (o := 1) (v := .int .i64 py) (by repeat (first | (with_reducible assumption) | (with_reducible refine cell_drew ?_) | (with_reducible refine cell_drewN ?_ _) | (with_reducible refine cell_below (by assumption) ?_) | ((with_reducible refine cell_new ?_ ?_); (· (simp; done)); (· rfl)) | (with_reducible refine cell_alloc ?_ _) | ((with_reducible refine cell_set ?_ ?_ _); (· first | (simp; done) | (simp; omega) | omega))))
    clear f1 zf1 f2 f3 zf3 f4 f5 zf5 f6
    go_wp2_with fail
    refine (pvalid_e _ _ _ HB.out _).mono ?_
    rintro e w2 ⟨rfl, hb2⟩
    have f13 := cell_below hb2 (b := w.heap.size) (o := 0) (v := .int .i64 ax) (by repeat (first | (with_reducible assumption) | (with_reducible refine cell_drew ?_) | (with_reducible refine cell_drewN ?_ _) | (with_reducible refine cell_below (by assumption) ?_) | ((with_reducible refine cell_new ?_ ?_); (· (simp; done)); (· rfl)) | (with_reducible refine cell_alloc ?_ _) | ((with_reducible refine cell_set ?_ ?_ _); (· first | (simp; done) | (simp; omega) | omega))))
    have zf13 : w.heap.size < w2.heap.size := World.block_lt_of_cell? _ _ f13
    have f14 := cell_below hb2 (b := w.heap.size) (o := 1) (v := .int .i64 ay) (by repeat (first | (with_reducible assumption) | (with_reducible refine cell_drew ?_) | (with_reducible refine cell_drewN ?_ _) | (with_reducible refine cell_below (by assumption) ?_) | ((with_reducible refine cell_new ?_ ?_); (· (simp; done)); (· rfl)) | (with_reducible refine cell_alloc ?_ _) | ((with_reducible refine cell_set ?_ ?_ _); (· first | (simp; done) | (simp; omega) | omega))))
    have f15 := cell_below hb2 (b := w.heap.size + 1) (o := 0) (v := .int .i64 bx) (by repeat (first | (with_reducible assumption) | (with_reducible refine cell_drew ?_) | (with_reducible refine cell_drewN ?_ _) | (with_reducible refine cell_below (by assumption) ?_) | ((with_reducible refine cell_new ?_ ?_); (· (simp; done)); (· rfl)) | (with_reducible refine cell_alloc ?_ _) | ((with_reducible refine cell_set ?_ ?_ _); (· first | (simp; done) | (simp; omega) | omega))))
    have zf15 : w.heap.size + 1 < w2.heap.size := World.block_lt_of_cell? _ _ f15
    have f16 := cell_below hb2 (b := w.heap.size + 1) (o := 1) (v := .int .i64 b_y) (by repeat (first | (with_reducible assumption) | (with_reducible refine cell_drew ?_) | (with_reducible refine cell_drewN ?_ _) | (with_reducible refine cell_below (by assumption) ?_) | ((with_reducible refine cell_new ?_ ?_); (· (simp; done)); (· rfl)) | (with_reducible refine cell_alloc ?_ _) | ((with_reducible refine cell_set ?_ ?_ _); (· first | (simp; done) | (simp; omega) | omega))))
    have f17 := cell_below hb2 (b := w.heap.size + 1 + 1) (o := 0) (v := .int .i64 px) (by repeat (first | (with_reducible assumption) | (with_reducible refine cell_drew ?_) | (with_reducible refine cell_drewN ?_ _) | (with_reducible refine cell_below (by assumption) ?_) | ((with_reducible refine cell_new ?_ ?_); (· (simp; done)); (· rfl)) | (with_reducible refine cell_alloc ?_ _) | ((with_reducible refine cell_set ?_ ?_ _); (· first | (simp; done) | (simp; omega) | omega))))
    have zf17 : w.heap.size + 1 + 1 < w2.heap.size := World.block_lt_of_cell? _ _ f17
    have f18 := cell_below hb2 (b := w.heap.size + 1 + 1) (o := 1) (v := .int .i64 py) (by repeat (first | (with_reducible assumption) | (with_reducible refine cell_drew ?_) | (with_reducible refine cell_drewN ?_ _) | (with_reducible refine cell_below (by assumption) ?_) | ((with_reducible refine cell_new ?_ ?_); (· (simp; done)); (· rfl)) | (with_reducible refine cell_alloc ?_ _) | ((with_reducible refine cell_set ?_ ?_ _); (· first | (simp; done) | (simp; omega) | omega))))
    clear f7 zf7 f8 f9 zf9 f10 f11 zf11 f12
    go_wp2_with fail
    refine (ahead_any ax ay bx b_y ax ay _).mono ?_
    rintro e w3 ⟨rfl, hb3⟩
    rw [HT.out]
    have f19 := cell_below hb3 (b := w.heap.size) (o := 0) (v := .int .i64 ax) (by repeat (first | (with_reducible assumption) | (with_reducible refine cell_drew ?_) | (with_reducible refine cell_drewN ?_ _) | (with_reducible refine cell_below (by assumption) ?_) | ((with_reducible refine cell_new ?_ ?_); (· (simp; done)); (· rfl)) | (with_reducible refine cell_alloc ?_ _) | ((with_reducible refine cell_set ?_ ?_ _); (· first | (simp; done) | (simp; omega) | omega))))
    have zf19 : w.heap.size < w3.heap.size := World.block_lt_of_cell? _ _ f19
    have f20 := cell_below hb3 (b := w.heap.size) (o := 1) (v := .int .i64 ay) (by repeat (first | (with_reducible assumption) | (with_reducible refine cell_drew ?_) | (with_reducible refine cell_drewN ?_ _) | (with_reducible refine cell_below (by assumption) ?_) | ((with_reducible refine cell_new ?_ ?_); (· (simp; done)); (· rfl)) | (with_reducible refine cell_alloc ?_ _) | ((with_reducible refine cell_set ?_ ?_ _); (· first | (simp; done) | (simp; omega) | omega))))
    have f21 := cell_below hb3 (b := w.heap.size + 1) (o := 0) (v := .int .i64 bx) (by repeat (first | (with_reducible assumption) | (with_reducible refine cell_drew ?_) | (with_reducible refine cell_drewN ?_ _) | (with_reducible refine cell_below (by assumption) ?_) | ((with_reducible refine cell_new ?_ ?_); (· (simp; done)); (· rfl)) | (with_reducible refine cell_alloc ?_ _) | ((with_reducible refine cell_set ?_ ?_ _); (· first | (simp; done) | (simp; omega) | omega))))
    have zf21 : w.heap.size + 1 < w3.heap.size := World.block_lt_of_cell? _ _ f21
    have f22 := cell_below hb3 (b := w.heap.size + 1) (o := 1) (v := .int .i64 b_y) (by repeat (first | (with_reducible assumption) | (with_reducible refine cell_drew ?_) | (with_reducible refine cell_drewN ?_ _) | (with_reducible refine cell_below (by assumption) ?_) | ((with_reducible refine cell_new ?_ ?_); (· (simp; done)); (· rfl)) | (with_reducible refine cell_alloc ?_ _) | ((with_reducible refine cell_set ?_ ?_ _); (· first | (simp; done) | (simp; omega) | omega))))
    have f23 := cell_below hb3 (b := w.heap.size + 1 + 1) (o := 0) (v := .int .i64 px) (by repeat (first | (with_reducible assumption) | (with_reducible refine cell_drew ?_) | (with_reducible refine cell_drewN ?_ _) | (with_reducible refine cell_below (by assumption) ?_) | ((with_reducible refine cell_new ?_ ?_); (· (simp; done)); (· rfl)) | (with_reducible refine cell_alloc ?_ _) | ((with_reducible refine cell_set ?_ ?_ _); (· first | (simp; done) | (simp; omega) | omega))))
    have zf23 : w.heap.size + 1 + 1 < w3.heap.size := World.block_lt_of_cell? _ _ f23
    have f24 := cell_below hb3 (b := w.heap.size + 1 + 1) (o := 1) (v := .int .i64 py) (by repeat (first | (with_reducible assumption) | (with_reducible refine cell_drew ?_) | (with_reducible refine cell_drewN ?_ _) | (with_reducible refine cell_below (by assumption) ?_) | ((with_reducible refine cell_new ?_ ?_); (· (simp; done)); (· rfl)) | (with_reducible refine cell_alloc ?_ _) | ((with_reducible refine cell_set ?_ ?_ _); (· first | (simp; done) | (simp; omega) | omega))))
    clear f13 zf13 f14 f15 zf15 f16 f17 zf17 f18
    go_wp2_with fail
    go_ret
    exact ⟨rfl, by (repeat (with_reducible (first | assumption | exact Below.refl _ _ | refine Below.drew ?_ | refine below_drewN ?_ _ | refine below_set ?_ (by simp; try omega) _ | refine below_alloc ?_ (Nat.le_refl _) _ | refine below_sub (by assumption) ?_)))⟩
end Go.Proofs.Ytijdehdghgmccaa

/-
  LineAheads: the row's step: the given statement 'LineAheadsSaid' out of the walk.
-/
namespace Go.Proofs.Ytijdehdghgmccaa.lineAheads
open Go.ChangeShapes Go.WideShapes Go.ChangeAt Go.RowKit
set_option linter.unusedVariables false

theorem own : ownKnob Try.prog.godebug = none := by kernel_rfl
theorem laidOut : laidOutB Try.prog = true := pf_laid
theorem typed : (Try.f19.params.toList.all fun t => Try.prog.readableRec t && decide (t < Try.prog.types.size)) = true := by kernel_rfl
theorem typed' : ∀ t ∈ Try.f19.params.toList, Try.prog.readableRec t = true ∧ t < Try.prog.types.size := by
  intro t ht
  have h := List.all_eq_true.1 typed t ht
  simpa using h
theorem ct30 : Try.prog.cellTypes Try.prog.depth 30 = some (List.replicate 2 2) := by kernel_rfl
theorem cn30 : Try.prog.cellsOf 30 = (List.replicate 2 2).length := by kernel_rfl
set_option maxRecDepth 100000 in
theorem lifted (os : Os) (started : os.Started) (H : Type) (enc : TypeId × Value → H) :
    ReturnsInHanded {} Try.checked os 19 .any (Rows.lineAheadsSpec.pre6 enc Try.prog Try.f19 Rows.lineAheadsRow.domain false) (Rows.lineAheadsSpec.post enc Try.prog Try.f19 false true false false) := by
  refine returnsInHanded_of_change (C := Try.checked) own started (by kernel_rfl) Try.func19
    (ChangeSpec.witness6 (enc := enc) (C := Try.checked) false ⟨#[], #[.agg #[.int .i64 0, .int .i64 0], .agg #[.int .i64 0, .int .i64 0], .agg #[.int .i64 0, .int .i64 0]], []⟩ 8 (by kernel_rfl) (by kernel_rfl) (by kernel_rfl) (by kernel_rfl)) ?_
  intro W base args ds gs before hval0 hW hcnd _
  have hval : ∀ (j : Nat) t v, Try.f19.params[j]? = some t → args[j]? = some v → Value.okWide Try.prog W .any base t v := hval0
  have hW' := hW
  obtain ⟨p, q, hA0, hV, rfl, hfz, hnd⟩ := hW
  have hlen := trodAll_length _ _ _ _ hA0
  rw [Try.params19] at hval hlen
  obtain ⟨v0, v1, v2, rfl⟩ := arr3 hlen.1
  obtain ⟨d0, d1, d2, rfl⟩ := list3 hlen.2
  obtain ⟨la, rfl, ea, hla⟩ := ok_ints (Or.inl ⟨_, Try.underlying30⟩) ct30 cn30 (fun u hu => by rw [List.eq_of_mem_replicate hu]; exact Try.underlying2) (hval 0 30 v0 rfl rfl)
  obtain ⟨a0, a1, rfl⟩ := list2 (ea.trans (by simp))
  have ha0 : I64 a0 := hla _ (by simp)
  have ha1 : I64 a1 := hla _ (by simp)
  obtain ⟨lb, rfl, eb, hlb⟩ := ok_ints (Or.inl ⟨_, Try.underlying30⟩) ct30 cn30 (fun u hu => by rw [List.eq_of_mem_replicate hu]; exact Try.underlying2) (hval 1 30 v1 rfl rfl)
  obtain ⟨b0, b1, rfl⟩ := list2 (eb.trans (by simp))
  have hb0 : I64 b0 := hlb _ (by simp)
  have hb1 : I64 b1 := hlb _ (by simp)
  obtain ⟨lp, rfl, ep, hlp⟩ := ok_ints (Or.inl ⟨_, Try.underlying30⟩) ct30 cn30 (fun u hu => by rw [List.eq_of_mem_replicate hu]; exact Try.underlying2) (hval 2 30 v2 rfl rfl)
  obtain ⟨p0, p1, rfl⟩ := list2 (ep.trans (by simp))
  have hp0 : I64 p0 := hlp _ (by simp)
  have hp1 : I64 p1 := hlp _ (by simp)
  refine (lineAheads_walk a0 a1 b0 b1 p0 p1 ha0 ha1 hb0 hb1 hp0 hp1 W).mono fun e W' ⟨he, hb⟩ => ?_
  subst he
  exact ⟨_, rfl, law_post (f := Try.f19) (s := Rows.lineAheadsSpec) (tb := 4) laidOut typed' rfl (by kernel_rfl) Try.underlying4 hW' ⟨rfl, rfl, rfl⟩ hb⟩

theorem k0 : (Rows.lineAheadsRow.wf (OpenSpec.ofChange Rows.lineAheadsSpec)) = true := by kernel_rfl
theorem k3 : (Try.f19.params.all (Try.prog.readableRec ·)) = true := by kernel_rfl
theorem k4 : (namedTie Try.prog Rows.lineAheadsRow.named Rows.lineAheadsSpec.vars) = true := by kernel_rfl
theorem k5 : (Rows.lineAheadsRow.stops == []) = true := by kernel_rfl
theorem k7 : (Rows.lineAheadsRow.knobs == []) = true := by kernel_rfl
theorem k9 : (Rows.lineAheadsRow.inPlace == Try.prog.inPlace 19) = true := by kernel_rfl
theorem k10 : (Rows.lineAheadsRow.unfollowed == Try.prog.unfollowed 19) = true := by kernel_rfl
theorem k11 : (Rows.lineAheadsRow.recurses == Try.prog.recurses 19) = true := by kernel_rfl
theorem k12 : (Rows.lineAheadsRow.named == Try.prog.varsNamed 19) = true := by kernel_rfl
theorem k13 : (Rows.lineAheadsRow.maps == (Try.f19.params.toList ++ Rows.lineAheadsSpec.plain.varTypes Try.prog).any (Try.prog.mapsRec ·)) = true := by kernel_rfl
theorem k14 : (Rows.lineAheadsRow.ifaces == (Try.f19.params.toList ++ Rows.lineAheadsSpec.plain.varTypes Try.prog).any (Try.prog.ifacesRec ·)) = true := by kernel_rfl
theorem k15 : (Rows.lineAheadsRow.mapsOut == Try.prog.mapsAmong Try.f19.resultTypes.toList) = true := by kernel_rfl
theorem k16 : (Rows.lineAheadsRow.loops == (Try.f19.params.toList ++ Rows.lineAheadsSpec.plain.varTypes Try.prog).any (Try.prog.loopsFrom ·)) = true := by kernel_rfl
theorem k17 : (Rows.lineAheadsRow.wideKeys == (Try.f19.params.toList ++ Rows.lineAheadsSpec.plain.varTypes Try.prog ++ Try.f19.resultTypes.toList).any (Try.prog.wideKeysFrom ·)) = true := by kernel_rfl
theorem k18 : (Rows.lineAheadsSpec.vars.all (Try.prog.varReadable ·)) = true := by kernel_rfl
theorem k19 : (Try.f19.resultTypes.all (fun t => Try.prog.readableRec t && decide (t < Try.prog.types.size))) = true := by kernel_rfl
theorem k20 : (Rows.lineAheadsRow.ifacesOut == Try.f19.resultTypes.toList.any (Try.prog.ifacesRec ·)) = true := by kernel_rfl
theorem k21 : (Rows.lineAheadsRow.loopsOut == Try.f19.resultTypes.toList.any (Try.prog.loopsFrom ·)) = true := by kernel_rfl
theorem k22 : (Rows.lineAheadsRow.plainKeys == Try.prog.plainKeys) = true := by kernel_rfl
theorem k23 : (Rows.lineAheadsRow.shortTexts.isNone) = true := by kernel_rfl
theorem k26 : (Rows.lineAheadsRow.lifted == Try.prog.liftsFinal) = true := by rw [pf_lifts]; rfl
theorem k27 : (Try.prog.make == some Rows.lineAheadsRow.make) = true := by rw [pf_make]; rfl
theorem k28 : (Rows.lineAheadsRow.kinds == (if Rows.lineAheadsRow.domain.isEmpty then [] else Try.f19.params.toList.map fun t => match Try.prog.underlying t with | some (.int k) => some k | _ => none)) = true := by kernel_rfl
theorem k29 : (Rows.lineAheadsRow.pinned == Rows.lineAheadsRow.pinnedBy) = true := by kernel_rfl
theorem k30 : (Rows.lineAheadsRow.veiled == (Try.f19.params.toList ++ Rows.lineAheadsSpec.plain.varTypes Try.prog ++ Try.f19.resultTypes.toList).any (Try.prog.veiledRec ·)) = true := by kernel_rfl
theorem k31 : (Rows.lineAheadsRow.veiledFits Try.prog Try.f19.params.toList (Try.f19.params.toList ++ Rows.lineAheadsSpec.plain.varTypes Try.prog ++ Try.f19.resultTypes.toList)) = true := by kernel_rfl
set_option maxRecDepth 100000 in
theorem closed : joinedFacts Try.prog 19 Try.f19 Rows.lineAheadsSpec Rows.lineAheadsRow = true := (band (band (band (band (band (band (band (band (band (band (band (band (band (band (band (band (band (band (band (band (band (band (band (band (band (band (band (band (band (band (band k0 pf_laid) pf_maps) k3) k4) k5) pf_stops) k7) pf_knobs) k9) k10) k11) k12) k13) k14) k15) k16) k17) k18) k19) k20) k21) k22) k23) pf_heard) pf_enter) k26) k27) k28) k29) k30) k31)
theorem byName : Try.prog.funcNamed Rows.lineAheadsRow.func = some 19 := by kernel_rfl
theorem inst : Try.f19.isInstance Try.prog Rows.lineAheadsRow.origin Rows.lineAheadsRow.targs := of_decide_eq_true (by kernel_rfl)
theorem over : Rows.lineAheadsRow.holds Try.pinned (OpenSpec.ofChange Rows.lineAheadsSpec) :=
  OpenClaim.holds_of_wide 19 Try.f19 rfl rfl rfl rfl rfl rfl rfl ⟨rfl, rfl, rfl, rfl, rfl⟩ rfl rfl rfl rfl rfl byName Try.func19 closed
    inst (by unfold Func.isWrapper; rw [if_neg (of_decide_eq_false (by kernel_rfl))]; exact ⟨rfl, rfl⟩)
    (fun os started H enc _ => lifted os started H enc)

/-- The given statement. -/
theorem proved : Rows.LineAheadsSaid := over
end Go.Proofs.Ytijdehdghgmccaa.lineAheads

