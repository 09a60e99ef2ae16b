/-
  The walk of the law LineCourses.
-/
import Derived.Test.YtijdehdghgmccaaMAwakeL
import Derived.Test.YtijdehdghgmccaaMLaws
import Derived.Test.YtijdehdghgmccaaRows
import Derived.Test.YtijdehdghgmccaaMFrame
namespace Go.Proofs.Ytijdehdghgmccaa
open Go.RowKit
set_option linter.unusedVariables false
set_option linter.unusedSimpArgs false
set_option maxRecDepth 100000 in
set_option maxHeartbeats 4000000 in
theorem lineCourses_walk (ax ay bx b_y : Int) (hax : I64 ax) (hay : I64 ay) (hbx : I64 bx) (hb_y : I64 b_y) (w : World) :
    Calls Try.prog 26 #[.agg #[.int .i64 ax, .int .i64 ay], .agg #[.int .i64 bx, .int .i64 b_y]] w fun e w' => e = .returned (.bool true) ∧ Below w.heap.size w w' := by
  have K1 := fun W => course_any ax ay bx b_y W
  have K2 := fun W => rcourse_any ax ay bx b_y W
  have K3 := fun W => course_any bx b_y ax ay W
  have D1 := fun W => dist_any ax ay bx b_y W
  have D2 := fun W => rdist_any ax ay bx b_y W
  have D3 := fun W => dist_any bx b_y ax ay W
  rw [dist_comm] at D3
  obtain ⟨l1, l2, l3⟩ := courses ax ay bx b_y
  have cb := courseF_bd ax ay bx b_y
  obtain ⟨c1, h1⟩ : ∃ c, c = courseF ax ay bx b_y := ⟨_, rfl⟩
  obtain ⟨c2, h2⟩ : ∃ c, c = courseF bx b_y ax ay := ⟨_, rfl⟩
  rw [← h1] at K1 K2 l1 l2 l3 cb
  rw [← h2] at K3 l1 l2 l3
  clear h1 h2
  generalize distF ax ay bx b_y = D at *
  obtain ⟨x, e⟩ := c1
  obtain ⟨y, f⟩ := c2
  have l1' : f = e := l1
  subst l1'
  by_cases hf : f = 0
  · subst hf
    have l3' : y = turnF x 64800000 := l3 rfl
    have cb' : 0 ≤ x ∧ x < 129600000 := cb
    have OP := fun W => opposite_any x (by unfold I64; omega) W
    rw [← l3'] at OP
    clear l1 l2 l3 l3' cb cb'
    go_enter Try.func26, Try.ntmps26
    go_wp2_with fail
    refine (awake11_any _).mono ?_
    rintro e w1 ⟨rfl, hb1⟩
    have f1 := cell_below hb1 (b := w.heap.size) (o := 0) (v := .int .i64 ax) (by repeat (first | (with_reducible assumption) | (with_reducible refine cell_drew ?_) | (with_reducible refine cell_drewN ?_ _) | (with_reducible refine cell_below (by assumption) ?_) | ((with_reducible refine cell_new ?_ ?_); (· (simp; done)); (· rfl)) | (with_reducible refine cell_alloc ?_ _) | ((with_reducible refine cell_set ?_ ?_ _); (· first | (simp; done) | (simp; omega) | omega))))
    have zf1 : w.heap.size < w1.heap.size := World.block_lt_of_cell? _ _ f1
    have f2 := cell_below hb1 (b := w.heap.size) (o := 1) (v := .int .i64 ay) (by repeat (first | (with_reducible assumption) | (with_reducible refine cell_drew ?_) | (with_reducible refine cell_drewN ?_ _) | (with_reducible refine cell_below (by assumption) ?_) | ((with_reducible refine cell_new ?_ ?_); (· (simp; done)); (· rfl)) | (with_reducible refine cell_alloc ?_ _) | ((with_reducible refine cell_set ?_ ?_ _); (· first | (simp; done) | (simp; omega) | omega))))
    have f3 := cell_below hb1 (b := w.heap.size + 1) (o := 0) (v := .int .i64 bx) (by repeat (first | (with_reducible assumption) | (with_reducible refine cell_drew ?_) | (with_reducible refine cell_drewN ?_ _) | (with_reducible refine cell_below (by assumption) ?_) | ((with_reducible refine cell_new ?_ ?_); (· (simp; done)); (· rfl)) | (with_reducible refine cell_alloc ?_ _) | ((with_reducible refine cell_set ?_ ?_ _); (· first | (simp; done) | (simp; omega) | omega))))
    have zf3 : w.heap.size + 1 < w1.heap.size := World.block_lt_of_cell? _ _ f3
    have f4 := cell_below hb1 (b := w.heap.size + 1) (o := 1) (v := .int .i64 b_y) (by repeat (first | (with_reducible assumption) | (with_reducible refine cell_drew ?_) | (with_reducible refine cell_drewN ?_ _) | (with_reducible refine cell_below (by assumption) ?_) | ((with_reducible refine cell_new ?_ ?_); (· (simp; done)); (· rfl)) | (with_reducible refine cell_alloc ?_ _) | ((with_reducible refine cell_set ?_ ?_ _); (· first | (simp; done) | (simp; omega) | omega))))
    go_wp2_with fail
    refine (K1 _).mono ?_
    rintro e w2 ⟨rfl, hb2⟩
    have f5 := cell_below hb2 (b := w.heap.size) (o := 0) (v := .int .i64 ax) (by repeat (first | (with_reducible assumption) | (with_reducible refine cell_drew ?_) | (with_reducible refine cell_drewN ?_ _) | (with_reducible refine cell_below (by assumption) ?_) | ((with_reducible refine cell_new ?_ ?_); (· (simp; done)); (· rfl)) | (with_reducible refine cell_alloc ?_ _) | ((with_reducible refine cell_set ?_ ?_ _); (· first | (simp; done) | (simp; omega) | omega))))
    have zf5 : w.heap.size < w2.heap.size := World.block_lt_of_cell? _ _ f5
    have f6 := cell_below hb2 (b := w.heap.size) (o := 1) (v := .int .i64 ay) (by repeat (first | (with_reducible assumption) | (with_reducible refine cell_drew ?_) | (with_reducible refine cell_drewN ?_ _) | (with_reducible refine cell_below (by assumption) ?_) | ((with_reducible refine cell_new ?_ ?_); (· (simp; done)); (· rfl)) | (with_reducible refine cell_alloc ?_ _) | ((with_reducible refine cell_set ?_ ?_ _); (· first | (simp; done) | (simp; omega) | omega))))
    have f7 := cell_below hb2 (b := w.heap.size + 1) (o := 0) (v := .int .i64 bx) (by repeat (first | (with_reducible assumption) | (with_reducible refine cell_drew ?_) | (with_reducible refine cell_drewN ?_ _) | (with_reducible refine cell_below (by assumption) ?_) | ((with_reducible refine cell_new ?_ ?_); (· (simp; done)); (· rfl)) | (with_reducible refine cell_alloc ?_ _) | ((with_reducible refine cell_set ?_ ?_ _); (· first | (simp; done) | (simp; omega) | omega))))
    have zf7 : w.heap.size + 1 < w2.heap.size := World.block_lt_of_cell? _ _ f7
    have f8 := cell_below hb2 (b := w.heap.size + 1) (o := 1) (v := .int .i64 b_y) (by repeat (first | (with_reducible assumption) | (with_reducible refine cell_drew ?_) | (with_reducible refine cell_drewN ?_ _) | (with_reducible refine cell_below (by assumption) ?_) | ((with_reducible refine cell_new ?_ ?_); (· (simp; done)); (· rfl)) | (with_reducible refine cell_alloc ?_ _) | ((with_reducible refine cell_set ?_ ?_ _); (· first | (simp; done) | (simp; omega) | omega))))
    clear f1 zf1 f2 f3 zf3 f4
    go_wp2_with fail
    refine (K2 _).mono ?_
    rintro e w3 ⟨rfl, hb3⟩
    have f9 := cell_below hb3 (b := w.heap.size) (o := 0) (v := .int .i64 ax) (by repeat (first | (with_reducible assumption) | (with_reducible refine cell_drew ?_) | (with_reducible refine cell_drewN ?_ _) | (with_reducible refine cell_below (by assumption) ?_) | ((with_reducible refine cell_new ?_ ?_); (· (simp; done)); (· rfl)) | (with_reducible refine cell_alloc ?_ _) | ((with_reducible refine cell_set ?_ ?_ _); (· first | (simp; done) | (simp; omega) | omega))))
    have zf9 : w.heap.size < w3.heap.size := World.block_lt_of_cell? _ _ f9
    have f10 := cell_below hb3 (b := w.heap.size) (o := 1) (v := .int .i64 ay) (by repeat (first | (with_reducible assumption) | (with_reducible refine cell_drew ?_) | (with_reducible refine cell_drewN ?_ _) | (with_reducible refine cell_below (by assumption) ?_) | ((with_reducible refine cell_new ?_ ?_); (· (simp; done)); (· rfl)) | (with_reducible refine cell_alloc ?_ _) | ((with_reducible refine cell_set ?_ ?_ _); (· first | (simp; done) | (simp; omega) | omega))))
    have f11 := cell_below hb3 (b := w.heap.size + 1) (o := 0) (v := .int .i64 bx) (by repeat (first | (with_reducible assumption) | (with_reducible refine cell_drew ?_) | (with_reducible refine cell_drewN ?_ _) | (with_reducible refine cell_below (by assumption) ?_) | ((with_reducible refine cell_new ?_ ?_); (· (simp; done)); (· rfl)) | (with_reducible refine cell_alloc ?_ _) | ((with_reducible refine cell_set ?_ ?_ _); (· first | (simp; done) | (simp; omega) | omega))))
    have zf11 : w.heap.size + 1 < w3.heap.size := World.block_lt_of_cell? _ _ f11
    have f12 := cell_below hb3 (b := w.heap.size + 1) (o := 1) (v := .int .i64 b_y) (by repeat (first | (with_reducible assumption) | (with_reducible refine cell_drew ?_) | (with_reducible refine cell_drewN ?_ _) | (with_reducible refine cell_below (by assumption) ?_) | ((with_reducible refine cell_new ?_ ?_); (· (simp; done)); (· rfl)) | (with_reducible refine cell_alloc ?_ _) | ((with_reducible refine cell_set ?_ ?_ _); (· first | (simp; done) | (simp; omega) | omega))))
    clear f5 zf5 f6 f7 zf7 f8
    go_wp2_with fail
    refine (K3 _).mono ?_
    rintro e w4 ⟨rfl, hb4⟩
    have f13 := cell_below hb4 (b := w.heap.size) (o := 0) (v := .int .i64 ax) (by repeat (first | (with_reducible assumption) | (with_reducible refine cell_drew ?_) | (with_reducible refine cell_drewN ?_ _) | (with_reducible refine cell_below (by assumption) ?_) | ((with_reducible refine cell_new ?_ ?_); (· (simp; done)); (· rfl)) | (with_reducible refine cell_alloc ?_ _) | ((with_reducible refine cell_set ?_ ?_ _); (· first | (simp; done) | (simp; omega) | omega))))
    have zf13 : w.heap.size < w4.heap.size := World.block_lt_of_cell? _ _ f13
    have f14 := cell_below hb4 (b := w.heap.size) (o := 1) (v := .int .i64 ay) (by repeat (first | (with_reducible assumption) | (with_reducible refine cell_drew ?_) | (with_reducible refine cell_drewN ?_ _) | (with_reducible refine cell_below (by assumption) ?_) | ((with_reducible refine cell_new ?_ ?_); (· (simp; done)); (· rfl)) | (with_reducible refine cell_alloc ?_ _) | ((with_reducible refine cell_set ?_ ?_ _); (· first | (simp; done) | (simp; omega) | omega))))
    have f15 := cell_below hb4 (b := w.heap.size + 1) (o := 0) (v := .int .i64 bx) (by repeat (first | (with_reducible assumption) | (with_reducible refine cell_drew ?_) | (with_reducible refine cell_drewN ?_ _) | (with_reducible refine cell_below (by assumption) ?_) | ((with_reducible refine cell_new ?_ ?_); (· (simp; done)); (· rfl)) | (with_reducible refine cell_alloc ?_ _) | ((with_reducible refine cell_set ?_ ?_ _); (· first | (simp; done) | (simp; omega) | omega))))
    have zf15 : w.heap.size + 1 < w4.heap.size := World.block_lt_of_cell? _ _ f15
    have f16 := cell_below hb4 (b := w.heap.size + 1) (o := 1) (v := .int .i64 b_y) (by repeat (first | (with_reducible assumption) | (with_reducible refine cell_drew ?_) | (with_reducible refine cell_drewN ?_ _) | (with_reducible refine cell_below (by assumption) ?_) | ((with_reducible refine cell_new ?_ ?_); (· (simp; done)); (· rfl)) | (with_reducible refine cell_alloc ?_ _) | ((with_reducible refine cell_set ?_ ?_ _); (· first | (simp; done) | (simp; omega) | omega))))
    clear f9 zf9 f10 f11 zf11 f12
    go_wp2_with fail
    go_region_held3 (fun w' => w'.cell? ⟨w.heap.size, 0, none⟩ = some (.int .i64 ax) ∧ w'.cell? ⟨w.heap.size, 1, none⟩ = some (.int .i64 ay) ∧ w'.cell? ⟨w.heap.size + 1, 0, none⟩ = some (.int .i64 bx) ∧ w'.cell? ⟨w.heap.size + 1, 1, none⟩ = some (.int .i64 b_y)) ((go_split_ands; refine ⟨?_, ?_, ?_, ?_⟩ <;> (repeat (first | (with_reducible assumption) | (with_reducible refine cell_drew ?_) | (with_reducible refine cell_drewN ?_ _) | (with_reducible refine cell_below (by assumption) ?_) | ((with_reducible refine cell_new ?_ ?_); (· (simp; done)); (· rfl)) | (with_reducible refine cell_alloc ?_ _) | ((with_reducible refine cell_set ?_ ?_ _); (· first | (simp; done) | (simp; omega) | omega))))))
      (first
        | (go_at_call 62; (first | (with_reducible refine (D1 _).mono ?_) | (with_reducible refine (D3 _).mono ?_)); rintro e w' ⟨rfl, hb'⟩)
        | (go_at_call 75; (with_reducible refine (D2 _).mono ?_); rintro e w' ⟨rfl, hb'⟩))
    rename_i hH
    obtain ⟨f17, f18, f19, f20⟩ := hH
    have zf17 : w.heap.size < w'.heap.size := World.block_lt_of_cell? _ _ f17
    have zf19 : w.heap.size + 1 < w'.heap.size := World.block_lt_of_cell? _ _ f19
    clear f13 zf13 f14 f15 zf15 f16
    go_wp2_with (go_at_call 76; refine (OP _).mono ?_; rintro e w' ⟨rfl, rfl⟩)
    go_ret
    exact ⟨rfl, by (repeat (with_reducible (first | assumption | exact Below.refl _ _ | refine Below.drew ?_ | refine below_drewN ?_ _ | refine below_set ?_ (by simp; try omega) _ | refine below_alloc ?_ (Nat.le_refl _) _ | refine below_sub (by assumption) ?_)))⟩
  · obtain ⟨rfl, rfl⟩ : x = 0 ∧ y = 0 := l2 hf
    have T : (f != 0) = true := by rw [bne_iff_ne]; exact hf
    have T2 : (f == 0) = false := by simpa using hf
    clear l1 l2 l3 cb hf
    go_enter Try.func26, Try.ntmps26
    go_wp2_with fail
    refine (awake11_any _).mono ?_
    rintro e w1 ⟨rfl, hb1⟩
    have f1 := cell_below hb1 (b := w.heap.size) (o := 0) (v := .int .i64 ax) (by repeat (first | (with_reducible assumption) | (with_reducible refine cell_drew ?_) | (with_reducible refine cell_drewN ?_ _) | (with_reducible refine cell_below (by assumption) ?_) | ((with_reducible refine cell_new ?_ ?_); (· (simp; done)); (· rfl)) | (with_reducible refine cell_alloc ?_ _) | ((with_reducible refine cell_set ?_ ?_ _); (· first | (simp; done) | (simp; omega) | omega))))
    have zf1 : w.heap.size < w1.heap.size := World.block_lt_of_cell? _ _ f1
    have f2 := cell_below hb1 (b := w.heap.size) (o := 1) (v := .int .i64 ay) (by repeat (first | (with_reducible assumption) | (with_reducible refine cell_drew ?_) | (with_reducible refine cell_drewN ?_ _) | (with_reducible refine cell_below (by assumption) ?_) | ((with_reducible refine cell_new ?_ ?_); (· (simp; done)); (· rfl)) | (with_reducible refine cell_alloc ?_ _) | ((with_reducible refine cell_set ?_ ?_ _); (· first | (simp; done) | (simp; omega) | omega))))
    have f3 := cell_below hb1 (b := w.heap.size + 1) (o := 0) (v := .int .i64 bx) (by repeat (first | (with_reducible assumption) | (with_reducible refine cell_drew ?_) | (with_reducible refine cell_drewN ?_ _) | (with_reducible refine cell_below (by assumption) ?_) | ((with_reducible refine cell_new ?_ ?_); (· (simp; done)); (· rfl)) | (with_reducible refine cell_alloc ?_ _) | ((with_reducible refine cell_set ?_ ?_ _); (· first | (simp; done) | (simp; omega) | omega))))
    have zf3 : w.heap.size + 1 < w1.heap.size := World.block_lt_of_cell? _ _ f3
    have f4 := cell_below hb1 (b := w.heap.size + 1) (o := 1) (v := .int .i64 b_y) (by repeat (first | (with_reducible assumption) | (with_reducible refine cell_drew ?_) | (with_reducible refine cell_drewN ?_ _) | (with_reducible refine cell_below (by assumption) ?_) | ((with_reducible refine cell_new ?_ ?_); (· (simp; done)); (· rfl)) | (with_reducible refine cell_alloc ?_ _) | ((with_reducible refine cell_set ?_ ?_ _); (· first | (simp; done) | (simp; omega) | omega))))
    go_wp2_with fail
    refine (K1 _).mono ?_
    rintro e w2 ⟨rfl, hb2⟩
    have f5 := cell_below hb2 (b := w.heap.size) (o := 0) (v := .int .i64 ax) (by repeat (first | (with_reducible assumption) | (with_reducible refine cell_drew ?_) | (with_reducible refine cell_drewN ?_ _) | (with_reducible refine cell_below (by assumption) ?_) | ((with_reducible refine cell_new ?_ ?_); (· (simp; done)); (· rfl)) | (with_reducible refine cell_alloc ?_ _) | ((with_reducible refine cell_set ?_ ?_ _); (· first | (simp; done) | (simp; omega) | omega))))
    have zf5 : w.heap.size < w2.heap.size := World.block_lt_of_cell? _ _ f5
    have f6 := cell_below hb2 (b := w.heap.size) (o := 1) (v := .int .i64 ay) (by repeat (first | (with_reducible assumption) | (with_reducible refine cell_drew ?_) | (with_reducible refine cell_drewN ?_ _) | (with_reducible refine cell_below (by assumption) ?_) | ((with_reducible refine cell_new ?_ ?_); (· (simp; done)); (· rfl)) | (with_reducible refine cell_alloc ?_ _) | ((with_reducible refine cell_set ?_ ?_ _); (· first | (simp; done) | (simp; omega) | omega))))
    have f7 := cell_below hb2 (b := w.heap.size + 1) (o := 0) (v := .int .i64 bx) (by repeat (first | (with_reducible assumption) | (with_reducible refine cell_drew ?_) | (with_reducible refine cell_drewN ?_ _) | (with_reducible refine cell_below (by assumption) ?_) | ((with_reducible refine cell_new ?_ ?_); (· (simp; done)); (· rfl)) | (with_reducible refine cell_alloc ?_ _) | ((with_reducible refine cell_set ?_ ?_ _); (· first | (simp; done) | (simp; omega) | omega))))
    have zf7 : w.heap.size + 1 < w2.heap.size := World.block_lt_of_cell? _ _ f7
    have f8 := cell_below hb2 (b := w.heap.size + 1) (o := 1) (v := .int .i64 b_y) (by repeat (first | (with_reducible assumption) | (with_reducible refine cell_drew ?_) | (with_reducible refine cell_drewN ?_ _) | (with_reducible refine cell_below (by assumption) ?_) | ((with_reducible refine cell_new ?_ ?_); (· (simp; done)); (· rfl)) | (with_reducible refine cell_alloc ?_ _) | ((with_reducible refine cell_set ?_ ?_ _); (· first | (simp; done) | (simp; omega) | omega))))
    clear f1 zf1 f2 f3 zf3 f4
    go_wp2_with fail
    refine (K2 _).mono ?_
    rintro e w3 ⟨rfl, hb3⟩
    have f9 := cell_below hb3 (b := w.heap.size) (o := 0) (v := .int .i64 ax) (by repeat (first | (with_reducible assumption) | (with_reducible refine cell_drew ?_) | (with_reducible refine cell_drewN ?_ _) | (with_reducible refine cell_below (by assumption) ?_) | ((with_reducible refine cell_new ?_ ?_); (· (simp; done)); (· rfl)) | (with_reducible refine cell_alloc ?_ _) | ((with_reducible refine cell_set ?_ ?_ _); (· first | (simp; done) | (simp; omega) | omega))))
    have zf9 : w.heap.size < w3.heap.size := World.block_lt_of_cell? _ _ f9
    have f10 := cell_below hb3 (b := w.heap.size) (o := 1) (v := .int .i64 ay) (by repeat (first | (with_reducible assumption) | (with_reducible refine cell_drew ?_) | (with_reducible refine cell_drewN ?_ _) | (with_reducible refine cell_below (by assumption) ?_) | ((with_reducible refine cell_new ?_ ?_); (· (simp; done)); (· rfl)) | (with_reducible refine cell_alloc ?_ _) | ((with_reducible refine cell_set ?_ ?_ _); (· first | (simp; done) | (simp; omega) | omega))))
    have f11 := cell_below hb3 (b := w.heap.size + 1) (o := 0) (v := .int .i64 bx) (by repeat (first | (with_reducible assumption) | (with_reducible refine cell_drew ?_) | (with_reducible refine cell_drewN ?_ _) | (with_reducible refine cell_below (by assumption) ?_) | ((with_reducible refine cell_new ?_ ?_); (· (simp; done)); (· rfl)) | (with_reducible refine cell_alloc ?_ _) | ((with_reducible refine cell_set ?_ ?_ _); (· first | (simp; done) | (simp; omega) | omega))))
    have zf11 : w.heap.size + 1 < w3.heap.size := World.block_lt_of_cell? _ _ f11
    have f12 := cell_below hb3 (b := w.heap.size + 1) (o := 1) (v := .int .i64 b_y) (by repeat (first | (with_reducible assumption) | (with_reducible refine cell_drew ?_) | (with_reducible refine cell_drewN ?_ _) | (with_reducible refine cell_below (by assumption) ?_) | ((with_reducible refine cell_new ?_ ?_); (· (simp; done)); (· rfl)) | (with_reducible refine cell_alloc ?_ _) | ((with_reducible refine cell_set ?_ ?_ _); (· first | (simp; done) | (simp; omega) | omega))))
    clear f5 zf5 f6 f7 zf7 f8
    go_wp2_with fail
    refine (K3 _).mono ?_
    rintro e w4 ⟨rfl, hb4⟩
    have f13 := cell_below hb4 (b := w.heap.size) (o := 0) (v := .int .i64 ax) (by repeat (first | (with_reducible assumption) | (with_reducible refine cell_drew ?_) | (with_reducible refine cell_drewN ?_ _) | (with_reducible refine cell_below (by assumption) ?_) | ((with_reducible refine cell_new ?_ ?_); (· (simp; done)); (· rfl)) | (with_reducible refine cell_alloc ?_ _) | ((with_reducible refine cell_set ?_ ?_ _); (· first | (simp; done) | (simp; omega) | omega))))
    have zf13 : w.heap.size < w4.heap.size := World.block_lt_of_cell? _ _ f13
    have f14 := cell_below hb4 (b := w.heap.size) (o := 1) (v := .int .i64 ay) (by repeat (first | (with_reducible assumption) | (with_reducible refine cell_drew ?_) | (with_reducible refine cell_drewN ?_ _) | (with_reducible refine cell_below (by assumption) ?_) | ((with_reducible refine cell_new ?_ ?_); (· (simp; done)); (· rfl)) | (with_reducible refine cell_alloc ?_ _) | ((with_reducible refine cell_set ?_ ?_ _); (· first | (simp; done) | (simp; omega) | omega))))
    have f15 := cell_below hb4 (b := w.heap.size + 1) (o := 0) (v := .int .i64 bx) (by repeat (first | (with_reducible assumption) | (with_reducible refine cell_drew ?_) | (with_reducible refine cell_drewN ?_ _) | (with_reducible refine cell_below (by assumption) ?_) | ((with_reducible refine cell_new ?_ ?_); (· (simp; done)); (· rfl)) | (with_reducible refine cell_alloc ?_ _) | ((with_reducible refine cell_set ?_ ?_ _); (· first | (simp; done) | (simp; omega) | omega))))
    have zf15 : w.heap.size + 1 < w4.heap.size := World.block_lt_of_cell? _ _ f15
    have f16 := cell_below hb4 (b := w.heap.size + 1) (o := 1) (v := .int .i64 b_y) (by repeat (first | (with_reducible assumption) | (with_reducible refine cell_drew ?_) | (with_reducible refine cell_drewN ?_ _) | (with_reducible refine cell_below (by assumption) ?_) | ((with_reducible refine cell_new ?_ ?_); (· (simp; done)); (· rfl)) | (with_reducible refine cell_alloc ?_ _) | ((with_reducible refine cell_set ?_ ?_ _); (· first | (simp; done) | (simp; omega) | omega))))
    clear f9 zf9 f10 f11 zf11 f12
    go_wp2_with fail
    go_region_held3 (fun w' => w'.cell? ⟨w.heap.size, 0, none⟩ = some (.int .i64 ax) ∧ w'.cell? ⟨w.heap.size, 1, none⟩ = some (.int .i64 ay) ∧ w'.cell? ⟨w.heap.size + 1, 0, none⟩ = some (.int .i64 bx) ∧ w'.cell? ⟨w.heap.size + 1, 1, none⟩ = some (.int .i64 b_y)) ((go_split_ands; refine ⟨?_, ?_, ?_, ?_⟩ <;> (repeat (first | (with_reducible assumption) | (with_reducible refine cell_drew ?_) | (with_reducible refine cell_drewN ?_ _) | (with_reducible refine cell_below (by assumption) ?_) | ((with_reducible refine cell_new ?_ ?_); (· (simp; done)); (· rfl)) | (with_reducible refine cell_alloc ?_ _) | ((with_reducible refine cell_set ?_ ?_ _); (· first | (simp; done) | (simp; omega) | omega))))))
      (first
        | (go_at_call 62; (first | (with_reducible refine (D1 _).mono ?_) | (with_reducible refine (D3 _).mono ?_)); rintro e w' ⟨rfl, hb'⟩)
        | (go_at_call 75; (with_reducible refine (D2 _).mono ?_); rintro e w' ⟨rfl, hb'⟩))
    rename_i hH
    obtain ⟨f17, f18, f19, f20⟩ := hH
    have zf17 : w.heap.size < w'.heap.size := World.block_lt_of_cell? _ _ f17
    have zf19 : w.heap.size + 1 < w'.heap.size := World.block_lt_of_cell? _ _ f19
    clear f13 zf13 f14 f15 zf15 f16
    go_wp2_with fail
    go_ret
    exact ⟨rfl, by (repeat (with_reducible (first | assumption | exact Below.refl _ _ | refine Below.drew ?_ | refine below_drewN ?_ _ | refine below_set ?_ (by simp; try omega) _ | refine below_alloc ?_ (Nat.le_refl _) _ | refine below_sub (by assumption) ?_)))⟩
end Go.Proofs.Ytijdehdghgmccaa

/-
  LineCourses: the row's step: the given statement 'LineCoursesSaid' out of the walk.
-/
namespace Go.Proofs.Ytijdehdghgmccaa.lineCourses
open Go.ChangeShapes Go.WideShapes Go.ChangeAt Go.RowKit
set_option linter.unusedVariables false

theorem own : ownKnob Try.prog.godebug = none := by kernel_rfl
theorem laidOut : laidOutB Try.prog = true := pf_laid
theorem typed : (Try.f26.params.toList.all fun t => Try.prog.readableRec t && decide (t < Try.prog.types.size)) = true := by kernel_rfl
theorem typed' : ∀ t ∈ Try.f26.params.toList, Try.prog.readableRec t = true ∧ t < Try.prog.types.size := by
  intro t ht
  have h := List.all_eq_true.1 typed t ht
  simpa using h
theorem ct30 : Try.prog.cellTypes Try.prog.depth 30 = some (List.replicate 2 2) := by kernel_rfl
theorem cn30 : Try.prog.cellsOf 30 = (List.replicate 2 2).length := by kernel_rfl
set_option maxRecDepth 100000 in
theorem lifted (os : Os) (started : os.Started) (H : Type) (enc : TypeId × Value → H) :
    ReturnsInHanded {} Try.checked os 26 .any (Rows.lineCoursesSpec.pre6 enc Try.prog Try.f26 Rows.lineCoursesRow.domain false) (Rows.lineCoursesSpec.post enc Try.prog Try.f26 false true false false) := by
  refine returnsInHanded_of_change (C := Try.checked) own started (by kernel_rfl) Try.func26
    (ChangeSpec.witness6 (enc := enc) (C := Try.checked) false ⟨#[], #[.agg #[.int .i64 0, .int .i64 0], .agg #[.int .i64 0, .int .i64 0]], []⟩ 8 (by kernel_rfl) (by kernel_rfl) (by kernel_rfl) (by kernel_rfl)) ?_
  intro W base args ds gs before hval0 hW hcnd _
  have hval : ∀ (j : Nat) t v, Try.f26.params[j]? = some t → args[j]? = some v → Value.okWide Try.prog W .any base t v := hval0
  have hW' := hW
  obtain ⟨p, q, hA0, hV, rfl, hfz, hnd⟩ := hW
  have hlen := trodAll_length _ _ _ _ hA0
  rw [Try.params26] at hval hlen
  obtain ⟨v0, v1, rfl⟩ := arr2 hlen.1
  obtain ⟨d0, d1, rfl⟩ := list2 hlen.2
  obtain ⟨la, rfl, ea, hla⟩ := ok_ints (Or.inl ⟨_, Try.underlying30⟩) ct30 cn30 (fun u hu => by rw [List.eq_of_mem_replicate hu]; exact Try.underlying2) (hval 0 30 v0 rfl rfl)
  obtain ⟨a0, a1, rfl⟩ := list2 (ea.trans (by simp))
  have ha0 : I64 a0 := hla _ (by simp)
  have ha1 : I64 a1 := hla _ (by simp)
  obtain ⟨lb, rfl, eb, hlb⟩ := ok_ints (Or.inl ⟨_, Try.underlying30⟩) ct30 cn30 (fun u hu => by rw [List.eq_of_mem_replicate hu]; exact Try.underlying2) (hval 1 30 v1 rfl rfl)
  obtain ⟨b0, b1, rfl⟩ := list2 (eb.trans (by simp))
  have hb0 : I64 b0 := hlb _ (by simp)
  have hb1 : I64 b1 := hlb _ (by simp)
  refine (lineCourses_walk a0 a1 b0 b1 ha0 ha1 hb0 hb1 W).mono fun e W' ⟨he, hb⟩ => ?_
  subst he
  exact ⟨_, rfl, law_post (f := Try.f26) (s := Rows.lineCoursesSpec) (tb := 4) laidOut typed' rfl (by kernel_rfl) Try.underlying4 hW' ⟨rfl, rfl, rfl⟩ hb⟩

theorem k0 : (Rows.lineCoursesRow.wf (OpenSpec.ofChange Rows.lineCoursesSpec)) = true := by kernel_rfl
theorem k3 : (Try.f26.params.all (Try.prog.readableRec ·)) = true := by kernel_rfl
theorem k4 : (namedTie Try.prog Rows.lineCoursesRow.named Rows.lineCoursesSpec.vars) = true := by kernel_rfl
theorem k5 : (Rows.lineCoursesRow.stops == []) = true := by kernel_rfl
theorem k7 : (Rows.lineCoursesRow.knobs == []) = true := by kernel_rfl
theorem k9 : (Rows.lineCoursesRow.inPlace == Try.prog.inPlace 26) = true := by kernel_rfl
theorem k10 : (Rows.lineCoursesRow.unfollowed == Try.prog.unfollowed 26) = true := by kernel_rfl
theorem k11 : (Rows.lineCoursesRow.recurses == Try.prog.recurses 26) = true := by kernel_rfl
theorem k12 : (Rows.lineCoursesRow.named == Try.prog.varsNamed 26) = true := by kernel_rfl
theorem k13 : (Rows.lineCoursesRow.maps == (Try.f26.params.toList ++ Rows.lineCoursesSpec.plain.varTypes Try.prog).any (Try.prog.mapsRec ·)) = true := by kernel_rfl
theorem k14 : (Rows.lineCoursesRow.ifaces == (Try.f26.params.toList ++ Rows.lineCoursesSpec.plain.varTypes Try.prog).any (Try.prog.ifacesRec ·)) = true := by kernel_rfl
theorem k15 : (Rows.lineCoursesRow.mapsOut == Try.prog.mapsAmong Try.f26.resultTypes.toList) = true := by kernel_rfl
theorem k16 : (Rows.lineCoursesRow.loops == (Try.f26.params.toList ++ Rows.lineCoursesSpec.plain.varTypes Try.prog).any (Try.prog.loopsFrom ·)) = true := by kernel_rfl
theorem k17 : (Rows.lineCoursesRow.wideKeys == (Try.f26.params.toList ++ Rows.lineCoursesSpec.plain.varTypes Try.prog ++ Try.f26.resultTypes.toList).any (Try.prog.wideKeysFrom ·)) = true := by kernel_rfl
theorem k18 : (Rows.lineCoursesSpec.vars.all (Try.prog.varReadable ·)) = true := by kernel_rfl
theorem k19 : (Try.f26.resultTypes.all (fun t => Try.prog.readableRec t && decide (t < Try.prog.types.size))) = true := by kernel_rfl
theorem k20 : (Rows.lineCoursesRow.ifacesOut == Try.f26.resultTypes.toList.any (Try.prog.ifacesRec ·)) = true := by kernel_rfl
theorem k21 : (Rows.lineCoursesRow.loopsOut == Try.f26.resultTypes.toList.any (Try.prog.loopsFrom ·)) = true := by kernel_rfl
theorem k22 : (Rows.lineCoursesRow.plainKeys == Try.prog.plainKeys) = true := by kernel_rfl
theorem k23 : (Rows.lineCoursesRow.shortTexts.isNone) = true := by kernel_rfl
theorem k26 : (Rows.lineCoursesRow.lifted == Try.prog.liftsFinal) = true := by rw [pf_lifts]; rfl
theorem k27 : (Try.prog.make == some Rows.lineCoursesRow.make) = true := by rw [pf_make]; rfl
theorem k28 : (Rows.lineCoursesRow.kinds == (if Rows.lineCoursesRow.domain.isEmpty then [] else Try.f26.params.toList.map fun t => match Try.prog.underlying t with | some (.int k) => some k | _ => none)) = true := by kernel_rfl
theorem k29 : (Rows.lineCoursesRow.pinned == Rows.lineCoursesRow.pinnedBy) = true := by kernel_rfl
theorem k30 : (Rows.lineCoursesRow.veiled == (Try.f26.params.toList ++ Rows.lineCoursesSpec.plain.varTypes Try.prog ++ Try.f26.resultTypes.toList).any (Try.prog.veiledRec ·)) = true := by kernel_rfl
theorem k31 : (Rows.lineCoursesRow.veiledFits Try.prog Try.f26.params.toList (Try.f26.params.toList ++ Rows.lineCoursesSpec.plain.varTypes Try.prog ++ Try.f26.resultTypes.toList)) = true := by kernel_rfl
set_option maxRecDepth 100000 in
theorem closed : joinedFacts Try.prog 26 Try.f26 Rows.lineCoursesSpec Rows.lineCoursesRow = true := (band (band (band (band (band (band (band (band (band (band (band (band (band (band (band (band (band (band (band (band (band (band (band (band (band (band (band (band (band (band (band k0 pf_laid) pf_maps) k3) k4) k5) pf_stops) k7) pf_knobs) k9) k10) k11) k12) k13) k14) k15) k16) k17) k18) k19) k20) k21) k22) k23) pf_heard) pf_enter) k26) k27) k28) k29) k30) k31)
theorem byName : Try.prog.funcNamed Rows.lineCoursesRow.func = some 26 := by kernel_rfl
theorem inst : Try.f26.isInstance Try.prog Rows.lineCoursesRow.origin Rows.lineCoursesRow.targs := of_decide_eq_true (by kernel_rfl)
theorem over : Rows.lineCoursesRow.holds Try.pinned (OpenSpec.ofChange Rows.lineCoursesSpec) :=
  OpenClaim.holds_of_wide 26 Try.f26 rfl rfl rfl rfl rfl rfl rfl ⟨rfl, rfl, rfl, rfl, rfl⟩ rfl rfl rfl rfl rfl byName Try.func26 closed
    inst (by unfold Func.isWrapper; rw [if_neg (of_decide_eq_false (by kernel_rfl))]; exact ⟨rfl, rfl⟩)
    (fun os started H enc _ => lifted os started H enc)

/-- The given statement. -/
theorem proved : Rows.LineCoursesSaid := over
end Go.Proofs.Ytijdehdghgmccaa.lineCourses

