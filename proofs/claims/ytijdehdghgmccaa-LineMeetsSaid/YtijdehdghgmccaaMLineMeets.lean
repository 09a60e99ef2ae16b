/-
  The walk of the law LineMeets.
-/
import Derived.Test.YtijdehdghgmccaaMAwakeL
import Derived.Test.YtijdehdghgmccaaMLaws
import Derived.Test.YtijdehdghgmccaaRows
import Derived.Test.YtijdehdghgmccaaMFrame
namespace Go.Proofs.Ytijdehdghgmccaa
open Go.RowKit
set_option linter.unusedVariables false
set_option linter.unusedSimpArgs false
set_option maxRecDepth 100000 in
set_option maxHeartbeats 4000000 in
theorem lineMeets_walk (ax ay bx b_y cx cy dx dy : Int) (hax : I64 ax) (hay : I64 ay) (hbx : I64 bx) (hb_y : I64 b_y) (hcx : I64 cx) (hcy : I64 cy) (hdx : I64 dx) (hdy : I64 dy) (w : World) :
    Calls Try.prog 23 #[.agg #[.int .i64 ax, .int .i64 ay, .int .i64 bx, .int .i64 b_y, .int .i64 cx, .int .i64 cy, .int .i64 dx, .int .i64 dy]] w fun e w' => e = .returned (.bool true) ∧ Below w.heap.size w w' := by
  obtain ⟨R, hR⟩ : ∃ R, R = meetF ax ay bx b_y cx cy dx dy := ⟨_, rfl⟩
  obtain ⟨X, Y, E⟩ := R
  by_cases hE : E = 0
  · subst hE
    obtain ⟨⟨al, hO⟩, bl, hP⟩ := meets hR.symm
    have HR := hide hR
    have HO := hide hO.symm
    have HP := hide hP.symm
    clear hR hO hP
    go_enter Try.func23, Try.ntmps23
    go_wp2_with fail
    refine (awake11_any _).mono ?_
    rintro e w1 ⟨rfl, hb1⟩
    have f1 := cell_below hb1 (b := w.heap.size) (o := 0) (v := .int .i64 ax) (by repeat (first | (with_reducible assumption) | (with_reducible refine cell_drew ?_) | (with_reducible refine cell_drewN ?_ _) | (with_reducible refine cell_below (by assumption) ?_) | ((with_reducible refine cell_new ?_ ?_); (· (simp; done)); (· rfl)) | (with_reducible refine cell_alloc ?_ _) | ((with_reducible refine cell_set ?_ ?_ _); (· first | (simp; done) | (simp; omega) | omega))))
    have zf1 : w.heap.size < w1.heap.size := World.block_lt_of_cell? _ _ f1
    have f2 := cell_below hb1 (b := w.heap.size) (o := 1) (v := .int .i64 ay) (by repeat (first | (with_reducible assumption) | (with_reducible refine cell_drew ?_) | (with_reducible refine cell_drewN ?_ _) | (with_reducible refine cell_below (by assumption) ?_) | ((with_reducible refine cell_new ?_ ?_); (· (simp; done)); (· rfl)) | (with_reducible refine cell_alloc ?_ _) | ((with_reducible refine cell_set ?_ ?_ _); (· first | (simp; done) | (simp; omega) | omega))))
    have f3 := cell_below hb1 (b := w.heap.size) (o := 2) (v := .int .i64 bx) (by repeat (first | (with_reducible assumption) | (with_reducible refine cell_drew ?_) | (with_reducible refine cell_drewN ?_ _) | (with_reducible refine cell_below (by assumption) ?_) | ((with_reducible refine cell_new ?_ ?_); (· (simp; done)); (· rfl)) | (with_reducible refine cell_alloc ?_ _) | ((with_reducible refine cell_set ?_ ?_ _); (· first | (simp; done) | (simp; omega) | omega))))
    have f4 := cell_below hb1 (b := w.heap.size) (o := 3) (v := .int .i64 b_y) (by repeat (first | (with_reducible assumption) | (with_reducible refine cell_drew ?_) | (with_reducible refine cell_drewN ?_ _) | (with_reducible refine cell_below (by assumption) ?_) | ((with_reducible refine cell_new ?_ ?_); (· (simp; done)); (· rfl)) | (with_reducible refine cell_alloc ?_ _) | ((with_reducible refine cell_set ?_ ?_ _); (· first | (simp; done) | (simp; omega) | omega))))
    have f5 := cell_below hb1 (b := w.heap.size) (o := 4) (v := .int .i64 cx) (by repeat (first | (with_reducible assumption) | (with_reducible refine cell_drew ?_) | (with_reducible refine cell_drewN ?_ _) | (with_reducible refine cell_below (by assumption) ?_) | ((with_reducible refine cell_new ?_ ?_); (· (simp; done)); (· rfl)) | (with_reducible refine cell_alloc ?_ _) | ((with_reducible refine cell_set ?_ ?_ _); (· first | (simp; done) | (simp; omega) | omega))))
    have f6 := cell_below hb1 (b := w.heap.size) (o := 5) (v := .int .i64 cy) (by repeat (first | (with_reducible assumption) | (with_reducible refine cell_drew ?_) | (with_reducible refine cell_drewN ?_ _) | (with_reducible refine cell_below (by assumption) ?_) | ((with_reducible refine cell_new ?_ ?_); (· (simp; done)); (· rfl)) | (with_reducible refine cell_alloc ?_ _) | ((with_reducible refine cell_set ?_ ?_ _); (· first | (simp; done) | (simp; omega) | omega))))
    have f7 := cell_below hb1 (b := w.heap.size) (o := 6) (v := .int .i64 dx) (by repeat (first | (with_reducible assumption) | (with_reducible refine cell_drew ?_) | (with_reducible refine cell_drewN ?_ _) | (with_reducible refine cell_below (by assumption) ?_) | ((with_reducible refine cell_new ?_ ?_); (· (simp; done)); (· rfl)) | (with_reducible refine cell_alloc ?_ _) | ((with_reducible refine cell_set ?_ ?_ _); (· first | (simp; done) | (simp; omega) | omega))))
    have f8 := cell_below hb1 (b := w.heap.size) (o := 7) (v := .int .i64 dy) (by repeat (first | (with_reducible assumption) | (with_reducible refine cell_drew ?_) | (with_reducible refine cell_drewN ?_ _) | (with_reducible refine cell_below (by assumption) ?_) | ((with_reducible refine cell_new ?_ ?_); (· (simp; done)); (· rfl)) | (with_reducible refine cell_alloc ?_ _) | ((with_reducible refine cell_set ?_ ?_ _); (· first | (simp; done) | (simp; omega) | omega))))
    go_wp2_with fail
    refine (meet_any ax ay bx b_y cx cy dx dy _ (X, Y, 0) HR.out).mono ?_
    rintro e w2 ⟨rfl, hb2⟩
    have f9 := cell_below hb2 (b := w.heap.size) (o := 0) (v := .int .i64 ax) (by repeat (first | (with_reducible assumption) | (with_reducible refine cell_drew ?_) | (with_reducible refine cell_drewN ?_ _) | (with_reducible refine cell_below (by assumption) ?_) | ((with_reducible refine cell_new ?_ ?_); (· (simp; done)); (· rfl)) | (with_reducible refine cell_alloc ?_ _) | ((with_reducible refine cell_set ?_ ?_ _); (· first | (simp; done) | (simp; omega) | omega))))
    have zf9 : w.heap.size < w2.heap.size := World.block_lt_of_cell? _ _ f9
    have f10 := cell_below hb2 (b := w.heap.size) (o := 1) (v := .int .i64 ay) (by repeat (first | (with_reducible assumption) | (with_reducible refine cell_drew ?_) | (with_reducible refine cell_drewN ?_ _) | (with_reducible refine cell_below (by assumption) ?_) | ((with_reducible refine cell_new ?_ ?_); (· (simp; done)); (· rfl)) | (with_reducible refine cell_alloc ?_ _) | ((with_reducible refine cell_set ?_ ?_ _); (· first | (simp; done) | (simp; omega) | omega))))
    have f11 := cell_below hb2 (b := w.heap.size) (o := 2) (v := .int .i64 bx) (by repeat (first | (with_reducible assumption) | (with_reducible refine cell_drew ?_) | (with_reducible refine cell_drewN ?_ _) | (with_reducible refine cell_below (by assumption) ?_) | ((with_reducible refine cell_new ?_ ?_); (· (simp; done)); (· rfl)) | (with_reducible refine cell_alloc ?_ _) | ((with_reducible refine cell_set ?_ ?_ _); (· first | (simp; done) | (simp; omega) | omega))))
    have f12 := cell_below hb2 (b := w.heap.size) (o := 3) (v := .int .i64 b_y) (by repeat (first | (with_reducible assumption) | (with_reducible refine cell_drew ?_) | (with_reducible refine cell_drewN ?_ _) | (with_reducible refine cell_below (by assumption) ?_) | ((with_reducible refine cell_new ?_ ?_); (· (simp; done)); (· rfl)) | (with_reducible refine cell_alloc ?_ _) | ((with_reducible refine cell_set ?_ ?_ _); (· first | (simp; done) | (simp; omega) | omega))))
    have f13 := cell_below hb2 (b := w.heap.size) (o := 4) (v := .int .i64 cx) (by repeat (first | (with_reducible assumption) | (with_reducible refine cell_drew ?_) | (with_reducible refine cell_drewN ?_ _) | (with_reducible refine cell_below (by assumption) ?_) | ((with_reducible refine cell_new ?_ ?_); (· (simp; done)); (· rfl)) | (with_reducible refine cell_alloc ?_ _) | ((with_reducible refine cell_set ?_ ?_ _); (· first | (simp; done) | (simp; omega) | omega))))
    have f14 := cell_below hb2 (b := w.heap.size) (o := 5) (v := .int .i64 cy) (by repeat (first | (with_reducible assumption) | (with_reducible refine cell_drew ?_) | (with_reducible refine cell_drewN ?_ _) | (with_reducible refine cell_below (by assumption) ?_) | ((with_reducible refine cell_new ?_ ?_); (· (simp; done)); (· rfl)) | (with_reducible refine cell_alloc ?_ _) | ((with_reducible refine cell_set ?_ ?_ _); (· first | (simp; done) | (simp; omega) | omega))))
    have f15 := cell_below hb2 (b := w.heap.size) (o := 6) (v := .int .i64 dx) (by repeat (first | (with_reducible assumption) | (with_reducible refine cell_drew ?_) | (with_reducible refine cell_drewN ?_ _) | (with_reducible refine cell_below (by assumption) ?_) | ((with_reducible refine cell_new ?_ ?_); (· (simp; done)); (· rfl)) | (with_reducible refine cell_alloc ?_ _) | ((with_reducible refine cell_set ?_ ?_ _); (· first | (simp; done) | (simp; omega) | omega))))
    have f16 := cell_below hb2 (b := w.heap.size) (o := 7) (v := .int .i64 dy) (by repeat (first | (with_reducible assumption) | (with_reducible refine cell_drew ?_) | (with_reducible refine cell_drewN ?_ _) | (with_reducible refine cell_below (by assumption) ?_) | ((with_reducible refine cell_new ?_ ?_); (· (simp; done)); (· rfl)) | (with_reducible refine cell_alloc ?_ _) | ((with_reducible refine cell_set ?_ ?_ _); (· first | (simp; done) | (simp; omega) | omega))))
    clear f1 zf1 f2 f3 f4 f5 f6 f7 f8
    go_wp2_with fail
    refine (rmeet_any ax ay bx b_y cx cy dx dy _ (X, Y, 0) HR.out).mono ?_
    rintro e w3 ⟨rfl, hb3⟩
    have f17 := cell_below hb3 (b := w.heap.size) (o := 0) (v := .int .i64 ax) (by repeat (first | (with_reducible assumption) | (with_reducible refine cell_drew ?_) | (with_reducible refine cell_drewN ?_ _) | (with_reducible refine cell_below (by assumption) ?_) | ((with_reducible refine cell_new ?_ ?_); (· (simp; done)); (· rfl)) | (with_reducible refine cell_alloc ?_ _) | ((with_reducible refine cell_set ?_ ?_ _); (· first | (simp; done) | (simp; omega) | omega))))
    have zf17 : w.heap.size < w3.heap.size := World.block_lt_of_cell? _ _ f17
    have f18 := cell_below hb3 (b := w.heap.size) (o := 1) (v := .int .i64 ay) (by repeat (first | (with_reducible assumption) | (with_reducible refine cell_drew ?_) | (with_reducible refine cell_drewN ?_ _) | (with_reducible refine cell_below (by assumption) ?_) | ((with_reducible refine cell_new ?_ ?_); (· (simp; done)); (· rfl)) | (with_reducible refine cell_alloc ?_ _) | ((with_reducible refine cell_set ?_ ?_ _); (· first | (simp; done) | (simp; omega) | omega))))
    have f19 := cell_below hb3 (b := w.heap.size) (o := 2) (v := .int .i64 bx) (by repeat (first | (with_reducible assumption) | (with_reducible refine cell_drew ?_) | (with_reducible refine cell_drewN ?_ _) | (with_reducible refine cell_below (by assumption) ?_) | ((with_reducible refine cell_new ?_ ?_); (· (simp; done)); (· rfl)) | (with_reducible refine cell_alloc ?_ _) | ((with_reducible refine cell_set ?_ ?_ _); (· first | (simp; done) | (simp; omega) | omega))))
    have f20 := cell_below hb3 (b := w.heap.size) (o := 3) (v := .int .i64 b_y) (by repeat (first | (with_reducible assumption) | (with_reducible refine cell_drew ?_) | (with_reducible refine cell_drewN ?_ _) | (with_reducible refine cell_below (by assumption) ?_) | ((with_reducible refine cell_new ?_ ?_); (· (simp; done)); (· rfl)) | (with_reducible refine cell_alloc ?_ _) | ((with_reducible refine cell_set ?_ ?_ _); (· first | (simp; done) | (simp; omega) | omega))))
    have f21 := cell_below hb3 (b := w.heap.size) (o := 4) (v := .int .i64 cx) (by repeat (first | (with_reducible assumption) | (with_reducible refine cell_drew ?_) | (with_reducible refine cell_drewN ?_ _) | (with_reducible refine cell_below (by assumption) ?_) | ((with_reducible refine cell_new ?_ ?_); (· (simp; done)); (· rfl)) | (with_reducible refine cell_alloc ?_ _) | ((with_reducible refine cell_set ?_ ?_ _); (· first | (simp; done) | (simp; omega) | omega))))
    have f22 := cell_below hb3 (b := w.heap.size) (o := 5) (v := .int .i64 cy) (by repeat (first | (with_reducible assumption) | (with_reducible refine cell_drew ?_) | (with_reducible refine cell_drewN ?_ _) | (with_reducible refine cell_below (by assumption) ?_) | ((with_reducible refine cell_new ?_ ?_); (· (simp; done)); (· rfl)) | (with_reducible refine cell_alloc ?_ _) | ((with_reducible refine cell_set ?_ ?_ _); (· first | (simp; done) | (simp; omega) | omega))))
    have f23 := cell_below hb3 (b := w.heap.size) (o := 6) (v := .int .i64 dx) (by repeat (first | (with_reducible assumption) | (with_reducible refine cell_drew ?_) | (with_reducible refine cell_drewN ?_ _) | (with_reducible refine cell_below (by assumption) ?_) | ((with_reducible refine cell_new ?_ ?_); (· (simp; done)); (· rfl)) | (with_reducible refine cell_alloc ?_ _) | ((with_reducible refine cell_set ?_ ?_ _); (· first | (simp; done) | (simp; omega) | omega))))
    have f24 := cell_below hb3 (b := w.heap.size) (o := 7) (v := .int .i64 dy) (by repeat (first | (with_reducible assumption) | (with_reducible refine cell_drew ?_) | (with_reducible refine cell_drewN ?_ _) | (with_reducible refine cell_below (by assumption) ?_) | ((with_reducible refine cell_new ?_ ?_); (· (simp; done)); (· rfl)) | (with_reducible refine cell_alloc ?_ _) | ((with_reducible refine cell_set ?_ ?_ _); (· first | (simp; done) | (simp; omega) | omega))))
    have f25 := cell_below hb3 (b := w2.heap.size) (o := 0) (v := .int .i64 X) (by repeat (first | (with_reducible assumption) | (with_reducible refine cell_drew ?_) | (with_reducible refine cell_drewN ?_ _) | (with_reducible refine cell_below (by assumption) ?_) | ((with_reducible refine cell_new ?_ ?_); (· (simp; done)); (· rfl)) | (with_reducible refine cell_alloc ?_ _) | ((with_reducible refine cell_set ?_ ?_ _); (· first | (simp; done) | (simp; omega) | omega))))
    have zf25 : w2.heap.size < w3.heap.size := World.block_lt_of_cell? _ _ f25
    have f26 := cell_below hb3 (b := w2.heap.size) (o := 1) (v := .int .i64 Y) (by repeat (first | (with_reducible assumption) | (with_reducible refine cell_drew ?_) | (with_reducible refine cell_drewN ?_ _) | (with_reducible refine cell_below (by assumption) ?_) | ((with_reducible refine cell_new ?_ ?_); (· (simp; done)); (· rfl)) | (with_reducible refine cell_alloc ?_ _) | ((with_reducible refine cell_set ?_ ?_ _); (· first | (simp; done) | (simp; omega) | omega))))
    clear f9 zf9 f10 f11 f12 f13 f14 f15 f16
    go_wp2_with fail
    refine (off_any ax ay bx b_y X Y _ (0, al, 0) HO.out).mono ?_
    rintro e w4 ⟨rfl, hb4⟩
    have f27 := cell_below hb4 (b := w.heap.size) (o := 0) (v := .int .i64 ax) (by repeat (first | (with_reducible assumption) | (with_reducible refine cell_drew ?_) | (with_reducible refine cell_drewN ?_ _) | (with_reducible refine cell_below (by assumption) ?_) | ((with_reducible refine cell_new ?_ ?_); (· (simp; done)); (· rfl)) | (with_reducible refine cell_alloc ?_ _) | ((with_reducible refine cell_set ?_ ?_ _); (· first | (simp; done) | (simp; omega) | omega))))
    have zf27 : w.heap.size < w4.heap.size := World.block_lt_of_cell? _ _ f27
    have f28 := cell_below hb4 (b := w.heap.size) (o := 1) (v := .int .i64 ay) (by repeat (first | (with_reducible assumption) | (with_reducible refine cell_drew ?_) | (with_reducible refine cell_drewN ?_ _) | (with_reducible refine cell_below (by assumption) ?_) | ((with_reducible refine cell_new ?_ ?_); (· (simp; done)); (· rfl)) | (with_reducible refine cell_alloc ?_ _) | ((with_reducible refine cell_set ?_ ?_ _); (· first | (simp; done) | (simp; omega) | omega))))
    have f29 := cell_below hb4 (b := w.heap.size) (o := 2) (v := .int .i64 bx) (by repeat (first | (with_reducible assumption) | (with_reducible refine cell_drew ?_) | (with_reducible refine cell_drewN ?_ _) | (with_reducible refine cell_below (by assumption) ?_) | ((with_reducible refine cell_new ?_ ?_); (· (simp; done)); (· rfl)) | (with_reducible refine cell_alloc ?_ _) | ((with_reducible refine cell_set ?_ ?_ _); (· first | (simp; done) | (simp; omega) | omega))))
    have f30 := cell_below hb4 (b := w.heap.size) (o := 3) (v := .int .i64 b_y) (by repeat (first | (with_reducible assumption) | (with_reducible refine cell_drew ?_) | (with_reducible refine cell_drewN ?_ _) | (with_reducible refine cell_below (by assumption) ?_) | ((with_reducible refine cell_new ?_ ?_); (· (simp; done)); (· rfl)) | (with_reducible refine cell_alloc ?_ _) | ((with_reducible refine cell_set ?_ ?_ _); (· first | (simp; done) | (simp; omega) | omega))))
    have f31 := cell_below hb4 (b := w.heap.size) (o := 4) (v := .int .i64 cx) (by repeat (first | (with_reducible assumption) | (with_reducible refine cell_drew ?_) | (with_reducible refine cell_drewN ?_ _) | (with_reducible refine cell_below (by assumption) ?_) | ((with_reducible refine cell_new ?_ ?_); (· (simp; done)); (· rfl)) | (with_reducible refine cell_alloc ?_ _) | ((with_reducible refine cell_set ?_ ?_ _); (· first | (simp; done) | (simp; omega) | omega))))
    have f32 := cell_below hb4 (b := w.heap.size) (o := 5) (v := .int .i64 cy) (by repeat (first | (with_reducible assumption) | (with_reducible refine cell_drew ?_) | (with_reducible refine cell_drewN ?_ _) | (with_reducible refine cell_below (by assumption) ?_) | ((with_reducible refine cell_new ?_ ?_); (· (simp; done)); (· rfl)) | (with_reducible refine cell_alloc ?_ _) | ((with_reducible refine cell_set ?_ ?_ _); (· first | (simp; done) | (simp; omega) | omega))))
    have f33 := cell_below hb4 (b := w.heap.size) (o := 6) (v := .int .i64 dx) (by repeat (first | (with_reducible assumption) | (with_reducible refine cell_drew ?_) | (with_reducible refine cell_drewN ?_ _) | (with_reducible refine cell_below (by assumption) ?_) | ((with_reducible refine cell_new ?_ ?_); (· (simp; done)); (· rfl)) | (with_reducible refine cell_alloc ?_ _) | ((with_reducible refine cell_set ?_ ?_ _); (· first | (simp; done) | (simp; omega) | omega))))
    have f34 := cell_below hb4 (b := w.heap.size) (o := 7) (v := .int .i64 dy) (by repeat (first | (with_reducible assumption) | (with_reducible refine cell_drew ?_) | (with_reducible refine cell_drewN ?_ _) | (with_reducible refine cell_below (by assumption) ?_) | ((with_reducible refine cell_new ?_ ?_); (· (simp; done)); (· rfl)) | (with_reducible refine cell_alloc ?_ _) | ((with_reducible refine cell_set ?_ ?_ _); (· first | (simp; done) | (simp; omega) | omega))))
    have f35 := cell_below hb4 (b := w2.heap.size) (o := 0) (v := .int .i64 X) (by repeat (first | (with_reducible assumption) | (with_reducible refine cell_drew ?_) | (with_reducible refine cell_drewN ?_ _) | (with_reducible refine cell_below (by assumption) ?_) | ((with_reducible refine cell_new ?_ ?_); (· (simp; done)); (· rfl)) | (with_reducible refine cell_alloc ?_ _) | ((with_reducible refine cell_set ?_ ?_ _); (· first | (simp; done) | (simp; omega) | omega))))
    have zf35 : w2.heap.size < w4.heap.size := World.block_lt_of_cell? _ _ f35
    have f36 := cell_below hb4 (b := w2.heap.size) (o := 1) (v := .int .i64 Y) (by repeat (first | (with_reducible assumption) | (with_reducible refine cell_drew ?_) | (with_reducible refine cell_drewN ?_ _) | (with_reducible refine cell_below (by assumption) ?_) | ((with_reducible refine cell_new ?_ ?_); (· (simp; done)); (· rfl)) | (with_reducible refine cell_alloc ?_ _) | ((with_reducible refine cell_set ?_ ?_ _); (· first | (simp; done) | (simp; omega) | omega))))
    have f37 := cell_below hb4 (b := w3.heap.size) (o := 0) (v := .int .i64 X) (by repeat (first | (with_reducible assumption) | (with_reducible refine cell_drew ?_) | (with_reducible refine cell_drewN ?_ _) | (with_reducible refine cell_below (by assumption) ?_) | ((with_reducible refine cell_new ?_ ?_); (· (simp; done)); (· rfl)) | (with_reducible refine cell_alloc ?_ _) | ((with_reducible refine cell_set ?_ ?_ _); (· first | (simp; done) | (simp; omega) | omega))))
    have zf37 : w3.heap.size < w4.heap.size := World.block_lt_of_cell? _ _ f37
    have f38 := cell_below hb4 (b := w3.heap.size) (o := 1) (v := .int .i64 Y) (by repeat (first | (with_reducible assumption) | (with_reducible refine cell_drew ?_) | (with_reducible refine cell_drewN ?_ _) | (with_reducible refine cell_below (by assumption) ?_) | ((with_reducible refine cell_new ?_ ?_); (· (simp; done)); (· rfl)) | (with_reducible refine cell_alloc ?_ _) | ((with_reducible refine cell_set ?_ ?_ _); (· first | (simp; done) | (simp; omega) | omega))))
    clear f17 zf17 f18 f19 f20 f21 f22 f23 f24 f25 zf25 f26
    go_wp2_with fail
    refine (off_any cx cy dx dy X Y _ (0, bl, 0) HP.out).mono ?_
    rintro e w5 ⟨rfl, hb5⟩
    have f39 := cell_below hb5 (b := w.heap.size) (o := 0) (v := .int .i64 ax) (by repeat (first | (with_reducible assumption) | (with_reducible refine cell_drew ?_) | (with_reducible refine cell_drewN ?_ _) | (with_reducible refine cell_below (by assumption) ?_) | ((with_reducible refine cell_new ?_ ?_); (· (simp; done)); (· rfl)) | (with_reducible refine cell_alloc ?_ _) | ((with_reducible refine cell_set ?_ ?_ _); (· first | (simp; done) | (simp; omega) | omega))))
    have zf39 : w.heap.size < w5.heap.size := World.block_lt_of_cell? _ _ f39
    have f40 := cell_below hb5 (b := w.heap.size) (o := 1) (v := .int .i64 ay) (by repeat (first | (with_reducible assumption) | (with_reducible refine cell_drew ?_) | (with_reducible refine cell_drewN ?_ _) | (with_reducible refine cell_below (by assumption) ?_) | ((with_reducible refine cell_new ?_ ?_); (· (simp; done)); (· rfl)) | (with_reducible refine cell_alloc ?_ _) | ((with_reducible refine cell_set ?_ ?_ _); (· first | (simp; done) | (simp; omega) | omega))))
    have f41 := cell_below hb5 (b := w.heap.size) (o := 2) (v := .int .i64 bx) (by repeat (first | (with_reducible assumption) | (with_reducible refine cell_drew ?_) | (with_reducible refine cell_drewN ?_ _) | (with_reducible refine cell_below (by assumption) ?_) | ((with_reducible refine cell_new ?_ ?_); (· (simp; done)); (· rfl)) | (with_reducible refine cell_alloc ?_ _) | ((with_reducible refine cell_set ?_ ?_ _); (· first | (simp; done) | (simp; omega) | omega))))
    have f42 := cell_below hb5 (b := w.heap.size) (o := 3) (v := .int .i64 b_y) (by repeat (first | (with_reducible assumption) | (with_reducible refine cell_drew ?_) | (with_reducible refine cell_drewN ?_ _) | (with_reducible refine cell_below (by assumption) ?_) | ((with_reducible refine cell_new ?_ ?_); (· (simp; done)); (· rfl)) | (with_reducible refine cell_alloc ?_ _) | ((with_reducible refine cell_set ?_ ?_ _); (· first | (simp; done) | (simp; omega) | omega))))
    have f43 := cell_below hb5 (b := w.heap.size) (o := 4) (v := .int .i64 cx) (by repeat (first | (with_reducible assumption) | (with_reducible refine cell_drew ?_) | (with_reducible refine cell_drewN ?_ _) | (with_reducible refine cell_below (by assumption) ?_) | ((with_reducible refine cell_new ?_ ?_); (· (simp; done)); (· rfl)) | (with_reducible refine cell_alloc ?_ _) | ((with_reducible refine cell_set ?_ ?_ _); (· first | (simp; done) | (simp; omega) | omega))))
    have f44 := cell_below hb5 (b := w.heap.size) (o := 5) (v := .int .i64 cy) (by repeat (first | (with_reducible assumption) | (with_reducible refine cell_drew ?_) | (with_reducible refine cell_drewN ?_ _) | (with_reducible refine cell_below (by assumption) ?_) | ((with_reducible refine cell_new ?_ ?_); (· (simp; done)); (· rfl)) | (with_reducible refine cell_alloc ?_ _) | ((with_reducible refine cell_set ?_ ?_ _); (· first | (simp; done) | (simp; omega) | omega))))
    have f45 := cell_below hb5 (b := w.heap.size) (o := 6) (v := .int .i64 dx) (by repeat (first | (with_reducible assumption) | (with_reducible refine cell_drew ?_) | (with_reducible refine cell_drewN ?_ _) | (with_reducible refine cell_below (by assumption) ?_) | ((with_reducible refine cell_new ?_ ?_); (· (simp; done)); (· rfl)) | (with_reducible refine cell_alloc ?_ _) | ((with_reducible refine cell_set ?_ ?_ _); (· first | (simp; done) | (simp; omega) | omega))))
    have f46 := cell_below hb5 (b := w.heap.size) (o := 7) (v := .int .i64 dy) (by repeat (first | (with_reducible assumption) | (with_reducible refine cell_drew ?_) | (with_reducible refine cell_drewN ?_ _) | (with_reducible refine cell_below (by assumption) ?_) | ((with_reducible refine cell_new ?_ ?_); (· (simp; done)); (· rfl)) | (with_reducible refine cell_alloc ?_ _) | ((with_reducible refine cell_set ?_ ?_ _); (· first | (simp; done) | (simp; omega) | omega))))
    have f47 := cell_below hb5 (b := w2.heap.size) (o := 0) (v := .int .i64 X) (by repeat (first | (with_reducible assumption) | (with_reducible refine cell_drew ?_) | (with_reducible refine cell_drewN ?_ _) | (with_reducible refine cell_below (by assumption) ?_) | ((with_reducible refine cell_new ?_ ?_); (· (simp; done)); (· rfl)) | (with_reducible refine cell_alloc ?_ _) | ((with_reducible refine cell_set ?_ ?_ _); (· first | (simp; done) | (simp; omega) | omega))))
    have zf47 : w2.heap.size < w5.heap.size := World.block_lt_of_cell? _ _ f47
    have f48 := cell_below hb5 (b := w2.heap.size) (o := 1) (v := .int .i64 Y) (by repeat (first | (with_reducible assumption) | (with_reducible refine cell_drew ?_) | (with_reducible refine cell_drewN ?_ _) | (with_reducible refine cell_below (by assumption) ?_) | ((with_reducible refine cell_new ?_ ?_); (· (simp; done)); (· rfl)) | (with_reducible refine cell_alloc ?_ _) | ((with_reducible refine cell_set ?_ ?_ _); (· first | (simp; done) | (simp; omega) | omega))))
    have f49 := cell_below hb5 (b := w3.heap.size) (o := 0) (v := .int .i64 X) (by repeat (first | (with_reducible assumption) | (with_reducible refine cell_drew ?_) | (with_reducible refine cell_drewN ?_ _) | (with_reducible refine cell_below (by assumption) ?_) | ((with_reducible refine cell_new ?_ ?_); (· (simp; done)); (· rfl)) | (with_reducible refine cell_alloc ?_ _) | ((with_reducible refine cell_set ?_ ?_ _); (· first | (simp; done) | (simp; omega) | omega))))
    have zf49 : w3.heap.size < w5.heap.size := World.block_lt_of_cell? _ _ f49
    have f50 := cell_below hb5 (b := w3.heap.size) (o := 1) (v := .int .i64 Y) (by repeat (first | (with_reducible assumption) | (with_reducible refine cell_drew ?_) | (with_reducible refine cell_drewN ?_ _) | (with_reducible refine cell_below (by assumption) ?_) | ((with_reducible refine cell_new ?_ ?_); (· (simp; done)); (· rfl)) | (with_reducible refine cell_alloc ?_ _) | ((with_reducible refine cell_set ?_ ?_ _); (· first | (simp; done) | (simp; omega) | omega))))
    clear f27 zf27 f28 f29 f30 f31 f32 f33 f34 f35 zf35 f36 f37 zf37 f38
    go_wp2_with fail
    go_ret
    exact ⟨rfl, by (repeat (with_reducible (first | assumption | exact Below.refl _ _ | refine Below.drew ?_ | refine below_drewN ?_ _ | refine below_set ?_ (by simp; try omega) _ | refine below_alloc ?_ (Nat.le_refl _) _ | refine below_sub (by assumption) ?_)))⟩
  · have T : (E != 0) = true := by rw [bne_iff_ne]; exact hE
    have HR := hide hR
    clear hR hE
    go_enter Try.func23, Try.ntmps23
    go_wp2_with fail
    refine (awake11_any _).mono ?_
    rintro e w1 ⟨rfl, hb1⟩
    have f1 := cell_below hb1 (b := w.heap.size) (o := 0) (v := .int .i64 ax) (by repeat (first | (with_reducible assumption) | (with_reducible refine cell_drew ?_) | (with_reducible refine cell_drewN ?_ _) | (with_reducible refine cell_below (by assumption) ?_) | ((with_reducible refine cell_new ?_ ?_); (· (simp; done)); (· rfl)) | (with_reducible refine cell_alloc ?_ _) | ((with_reducible refine cell_set ?_ ?_ _); (· first | (simp; done) | (simp; omega) | omega))))
    have zf1 : w.heap.size < w1.heap.size := World.block_lt_of_cell? _ _ f1
    have f2 := cell_below hb1 (b := w.heap.size) (o := 1) (v := .int .i64 ay) (by repeat (first | (with_reducible assumption) | (with_reducible refine cell_drew ?_) | (with_reducible refine cell_drewN ?_ _) | (with_reducible refine cell_below (by assumption) ?_) | ((with_reducible refine cell_new ?_ ?_); (· (simp; done)); (· rfl)) | (with_reducible refine cell_alloc ?_ _) | ((with_reducible refine cell_set ?_ ?_ _); (· first | (simp; done) | (simp; omega) | omega))))
    have f3 := cell_below hb1 (b := w.heap.size) (o := 2) (v := .int .i64 bx) (by repeat (first | (with_reducible assumption) | (with_reducible refine cell_drew ?_) | (with_reducible refine cell_drewN ?_ _) | (with_reducible refine cell_below (by assumption) ?_) | ((with_reducible refine cell_new ?_ ?_); (· (simp; done)); (· rfl)) | (with_reducible refine cell_alloc ?_ _) | ((with_reducible refine cell_set ?_ ?_ _); (· first | (simp; done) | (simp; omega) | omega))))
    have f4 := cell_below hb1 (b := w.heap.size) (o := 3) (v := .int .i64 b_y) (by repeat (first | (with_reducible assumption) | (with_reducible refine cell_drew ?_) | (with_reducible refine cell_drewN ?_ _) | (with_reducible refine cell_below (by assumption) ?_) | ((with_reducible refine cell_new ?_ ?_); (· (simp; done)); (· rfl)) | (with_reducible refine cell_alloc ?_ _) | ((with_reducible refine cell_set ?_ ?_ _); (· first | (simp; done) | (simp; omega) | omega))))
    have f5 := cell_below hb1 (b := w.heap.size) (o := 4) (v := .int .i64 cx) (by repeat (first | (with_reducible assumption) | (with_reducible refine cell_drew ?_) | (with_reducible refine cell_drewN ?_ _) | (with_reducible refine cell_below (by assumption) ?_) | ((with_reducible refine cell_new ?_ ?_); (· (simp; done)); (· rfl)) | (with_reducible refine cell_alloc ?_ _) | ((with_reducible refine cell_set ?_ ?_ _); (· first | (simp; done) | (simp; omega) | omega))))
    have f6 := cell_below hb1 (b := w.heap.size) (o := 5) (v := .int .i64 cy) (by repeat (first | (with_reducible assumption) | (with_reducible refine cell_drew ?_) | (with_reducible refine cell_drewN ?_ _) | (with_reducible refine cell_below (by assumption) ?_) | ((with_reducible refine cell_new ?_ ?_); (· (simp; done)); (· rfl)) | (with_reducible refine cell_alloc ?_ _) | ((with_reducible refine cell_set ?_ ?_ _); (· first | (simp; done) | (simp; omega) | omega))))
    have f7 := cell_below hb1 (b := w.heap.size) (o := 6) (v := .int .i64 dx) (by repeat (first | (with_reducible assumption) | (with_reducible refine cell_drew ?_) | (with_reducible refine cell_drewN ?_ _) | (with_reducible refine cell_below (by assumption) ?_) | ((with_reducible refine cell_new ?_ ?_); (· (simp; done)); (· rfl)) | (with_reducible refine cell_alloc ?_ _) | ((with_reducible refine cell_set ?_ ?_ _); (· first | (simp; done) | (simp; omega) | omega))))
    have f8 := cell_below hb1 (b := w.heap.size) (o := 7) (v := .int .i64 dy) (by repeat (first | (with_reducible assumption) | (with_reducible refine cell_drew ?_) | (with_reducible refine cell_drewN ?_ _) | (with_reducible refine cell_below (by assumption) ?_) | ((with_reducible refine cell_new ?_ ?_); (· (simp; done)); (· rfl)) | (with_reducible refine cell_alloc ?_ _) | ((with_reducible refine cell_set ?_ ?_ _); (· first | (simp; done) | (simp; omega) | omega))))
    go_wp2_with fail
    refine (meet_any ax ay bx b_y cx cy dx dy _ (X, Y, E) HR.out).mono ?_
    rintro e w2 ⟨rfl, hb2⟩
    have f9 := cell_below hb2 (b := w.heap.size) (o := 0) (v := .int .i64 ax) (by repeat (first | (with_reducible assumption) | (with_reducible refine cell_drew ?_) | (with_reducible refine cell_drewN ?_ _) | (with_reducible refine cell_below (by assumption) ?_) | ((with_reducible refine cell_new ?_ ?_); (· (simp; done)); (· rfl)) | (with_reducible refine cell_alloc ?_ _) | ((with_reducible refine cell_set ?_ ?_ _); (· first | (simp; done) | (simp; omega) | omega))))
    have zf9 : w.heap.size < w2.heap.size := World.block_lt_of_cell? _ _ f9
    have f10 := cell_below hb2 (b := w.heap.size) (o := 1) (v := .int .i64 ay) (by repeat (first | (with_reducible assumption) | (with_reducible refine cell_drew ?_) | (with_reducible refine cell_drewN ?_ _) | (with_reducible refine cell_below (by assumption) ?_) | ((with_reducible refine cell_new ?_ ?_); (· (simp; done)); (· rfl)) | (with_reducible refine cell_alloc ?_ _) | ((with_reducible refine cell_set ?_ ?_ _); (· first | (simp; done) | (simp; omega) | omega))))
    have f11 := cell_below hb2 (b := w.heap.size) (o := 2) (v := .int .i64 bx) (by repeat (first | (with_reducible assumption) | (with_reducible refine cell_drew ?_) | (with_reducible refine cell_drewN ?_ _) | (with_reducible refine cell_below (by assumption) ?_) | ((with_reducible refine cell_new ?_ ?_); (· (simp; done)); (· rfl)) | (with_reducible refine cell_alloc ?_ _) | ((with_reducible refine cell_set ?_ ?_ _); (· first | (simp; done) | (simp; omega) | omega))))
    have f12 := cell_below hb2 (b := w.heap.size) (o := 3) (v := .int .i64 b_y) (by repeat (first | (with_reducible assumption) | (with_reducible refine cell_drew ?_) | (with_reducible refine cell_drewN ?_ _) | (with_reducible refine cell_below (by assumption) ?_) | ((with_reducible refine cell_new ?_ ?_); (· (simp; done)); (· rfl)) | (with_reducible refine cell_alloc ?_ _) | ((with_reducible refine cell_set ?_ ?_ _); (· first | (simp; done) | (simp; omega) | omega))))
    have f13 := cell_below hb2 (b := w.heap.size) (o := 4) (v := .int .i64 cx) (by repeat (first | (with_reducible assumption) | (with_reducible refine cell_drew ?_) | (with_reducible refine cell_drewN ?_ _) | (with_reducible refine cell_below (by assumption) ?_) | ((with_reducible refine cell_new ?_ ?_); (· (simp; done)); (· rfl)) | (with_reducible refine cell_alloc ?_ _) | ((with_reducible refine cell_set ?_ ?_ _); (· first | (simp; done) | (simp; omega) | omega))))
    have f14 := cell_below hb2 (b := w.heap.size) (o := 5) (v := .int .i64 cy) (by repeat (first | (with_reducible assumption) | (with_reducible refine cell_drew ?_) | (with_reducible refine cell_drewN ?_ _) | (with_reducible refine cell_below (by assumption) ?_) | ((with_reducible refine cell_new ?_ ?_); (· (simp; done)); (· rfl)) | (with_reducible refine cell_alloc ?_ _) | ((with_reducible refine cell_set ?_ ?_ _); (· first | (simp; done) | (simp; omega) | omega))))
    have f15 := cell_below hb2 (b := w.heap.size) (o := 6) (v := .int .i64 dx) (by repeat (first | (with_reducible assumption) | (with_reducible refine cell_drew ?_) | (with_reducible refine cell_drewN ?_ _) | (with_reducible refine cell_below (by assumption) ?_) | ((with_reducible refine cell_new ?_ ?_); (· (simp; done)); (· rfl)) | (with_reducible refine cell_alloc ?_ _) | ((with_reducible refine cell_set ?_ ?_ _); (· first | (simp; done) | (simp; omega) | omega))))
    have f16 := cell_below hb2 (b := w.heap.size) (o := 7) (v := .int .i64 dy) (by repeat (first | (with_reducible assumption) | (with_reducible refine cell_drew ?_) | (with_reducible refine cell_drewN ?_ _) | (with_reducible refine cell_below (by assumption) ?_) | ((with_reducible refine cell_new ?_ ?_); (· (simp; done)); (· rfl)) | (with_reducible refine cell_alloc ?_ _) | ((with_reducible refine cell_set ?_ ?_ _); (· first | (simp; done) | (simp; omega) | omega))))
    clear f1 zf1 f2 f3 f4 f5 f6 f7 f8
    go_wp2_with fail
    refine (rmeet_any ax ay bx b_y cx cy dx dy _ (X, Y, E) HR.out).mono ?_
    rintro e w3 ⟨rfl, hb3⟩
    have f17 := cell_below hb3 (b := w.heap.size) (o := 0) (v := .int .i64 ax) (by repeat (first | (with_reducible assumption) | (with_reducible refine cell_drew ?_) | (with_reducible refine cell_drewN ?_ _) | (with_reducible refine cell_below (by assumption) ?_) | ((with_reducible refine cell_new ?_ ?_); (· (simp; done)); (· rfl)) | (with_reducible refine cell_alloc ?_ _) | ((with_reducible refine cell_set ?_ ?_ _); (· first | (simp; done) | (simp; omega) | omega))))
    have zf17 : w.heap.size < w3.heap.size := World.block_lt_of_cell? _ _ f17
    have f18 := cell_below hb3 (b := w.heap.size) (o := 1) (v := .int .i64 ay) (by repeat (first | (with_reducible assumption) | (with_reducible refine cell_drew ?_) | (with_reducible refine cell_drewN ?_ _) | (with_reducible refine cell_below (by assumption) ?_) | ((with_reducible refine cell_new ?_ ?_); (· (simp; done)); (· rfl)) | (with_reducible refine cell_alloc ?_ _) | ((with_reducible refine cell_set ?_ ?_ _); (· first | (simp; done) | (simp; omega) | omega))))
    have f19 := cell_below hb3 (b := w.heap.size) (o := 2) (v := .int .i64 bx) (by repeat (first | (with_reducible assumption) | (with_reducible refine cell_drew ?_) | (with_reducible refine cell_drewN ?_ _) | (with_reducible refine cell_below (by assumption) ?_) | ((with_reducible refine cell_new ?_ ?_); (· (simp; done)); (· rfl)) | (with_reducible refine cell_alloc ?_ _) | ((with_reducible refine cell_set ?_ ?_ _); (· first | (simp; done) | (simp; omega) | omega))))
    have f20 := cell_below hb3 (b := w.heap.size) (o := 3) (v := .int .i64 b_y) (by repeat (first | (with_reducible assumption) | (with_reducible refine cell_drew ?_) | (with_reducible refine cell_drewN ?_ _) | (with_reducible refine cell_below (by assumption) ?_) | ((with_reducible refine cell_new ?_ ?_); (· (simp; done)); (· rfl)) | (with_reducible refine cell_alloc ?_ _) | ((with_reducible refine cell_set ?_ ?_ _); (· first | (simp; done) | (simp; omega) | omega))))
    have f21 := cell_below hb3 (b := w.heap.size) (o := 4) (v := .int .i64 cx) (by repeat (first | (with_reducible assumption) | (with_reducible refine cell_drew ?_) | (with_reducible refine cell_drewN ?_ _) | (with_reducible refine cell_below (by assumption) ?_) | ((with_reducible refine cell_new ?_ ?_); (· (simp; done)); (· rfl)) | (with_reducible refine cell_alloc ?_ _) | ((with_reducible refine cell_set ?_ ?_ _); (· first | (simp; done) | (simp; omega) | omega))))
    have f22 := cell_below hb3 (b := w.heap.size) (o := 5) (v := .int .i64 cy) (by repeat (first | (with_reducible assumption) | (with_reducible refine cell_drew ?_) | (with_reducible refine cell_drewN ?_ _) | (with_reducible refine cell_below (by assumption) ?_) | ((with_reducible refine cell_new ?_ ?_); (· (simp; done)); (· rfl)) | (with_reducible refine cell_alloc ?_ _) | ((with_reducible refine cell_set ?_ ?_ _); (· first | (simp; done) | (simp; omega) | omega))))
    have f23 := cell_below hb3 (b := w.heap.size) (o := 6) (v := .int .i64 dx) (by repeat (first | (with_reducible assumption) | (with_reducible refine cell_drew ?_) | (with_reducible refine cell_drewN ?_ _) | (with_reducible refine cell_below (by assumption) ?_) | ((with_reducible refine cell_new ?_ ?_); (· (simp; done)); (· rfl)) | (with_reducible refine cell_alloc ?_ _) | ((with_reducible refine cell_set ?_ ?_ _); (· first | (simp; done) | (simp; omega) | omega))))
    have f24 := cell_below hb3 (b := w.heap.size) (o := 7) (v := .int .i64 dy) (by repeat (first | (with_reducible assumption) | (with_reducible refine cell_drew ?_) | (with_reducible refine cell_drewN ?_ _) | (with_reducible refine cell_below (by assumption) ?_) | ((with_reducible refine cell_new ?_ ?_); (· (simp; done)); (· rfl)) | (with_reducible refine cell_alloc ?_ _) | ((with_reducible refine cell_set ?_ ?_ _); (· first | (simp; done) | (simp; omega) | omega))))
    have f25 := cell_below hb3 (b := w2.heap.size) (o := 0) (v := .int .i64 X) (by repeat (first | (with_reducible assumption) | (with_reducible refine cell_drew ?_) | (with_reducible refine cell_drewN ?_ _) | (with_reducible refine cell_below (by assumption) ?_) | ((with_reducible refine cell_new ?_ ?_); (· (simp; done)); (· rfl)) | (with_reducible refine cell_alloc ?_ _) | ((with_reducible refine cell_set ?_ ?_ _); (· first | (simp; done) | (simp; omega) | omega))))
    have zf25 : w2.heap.size < w3.heap.size := World.block_lt_of_cell? _ _ f25
    have f26 := cell_below hb3 (b := w2.heap.size) (o := 1) (v := .int .i64 Y) (by repeat (first | (with_reducible assumption) | (with_reducible refine cell_drew ?_) | (with_reducible refine cell_drewN ?_ _) | (with_reducible refine cell_below (by assumption) ?_) | ((with_reducible refine cell_new ?_ ?_); (· (simp; done)); (· rfl)) | (with_reducible refine cell_alloc ?_ _) | ((with_reducible refine cell_set ?_ ?_ _); (· first | (simp; done) | (simp; omega) | omega))))
    clear f9 zf9 f10 f11 f12 f13 f14 f15 f16
    go_wp2_with fail
    go_ret
    exact ⟨rfl, by (repeat (with_reducible (first | assumption | exact Below.refl _ _ | refine Below.drew ?_ | refine below_drewN ?_ _ | refine below_set ?_ (by simp; try omega) _ | refine below_alloc ?_ (Nat.le_refl _) _ | refine below_sub (by assumption) ?_)))⟩
end Go.Proofs.Ytijdehdghgmccaa

/-
  LineMeets: the row's step: the given statement 'LineMeetsSaid' out of the walk.
-/
namespace Go.Proofs.Ytijdehdghgmccaa.lineMeets
open Go.ChangeShapes Go.WideShapes Go.ChangeAt Go.RowKit
set_option linter.unusedVariables false

theorem own : ownKnob Try.prog.godebug = none := by kernel_rfl
theorem laidOut : laidOutB Try.prog = true := pf_laid
theorem typed : (Try.f23.params.toList.all fun t => Try.prog.readableRec t && decide (t < Try.prog.types.size)) = true := by kernel_rfl
theorem typed' : ∀ t ∈ Try.f23.params.toList, Try.prog.readableRec t = true ∧ t < Try.prog.types.size := by
  intro t ht
  have h := List.all_eq_true.1 typed t ht
  simpa using h
theorem ct65 : Try.prog.cellTypes Try.prog.depth 65 = some (List.replicate 8 2) := by kernel_rfl
theorem cn65 : Try.prog.cellsOf 65 = (List.replicate 8 2).length := by kernel_rfl
set_option maxRecDepth 100000 in
theorem lifted (os : Os) (started : os.Started) (H : Type) (enc : TypeId × Value → H) :
    ReturnsInHanded {} Try.checked os 23 .any (Rows.lineMeetsSpec.pre6 enc Try.prog Try.f23 Rows.lineMeetsRow.domain false) (Rows.lineMeetsSpec.post enc Try.prog Try.f23 false true false false) := by
  refine returnsInHanded_of_change (C := Try.checked) own started (by kernel_rfl) Try.func23
    (ChangeSpec.witness6 (enc := enc) (C := Try.checked) false ⟨#[], #[.agg #[.int .i64 0, .int .i64 0, .int .i64 0, .int .i64 0, .int .i64 0, .int .i64 0, .int .i64 0, .int .i64 0]], []⟩ 8 (by kernel_rfl) (by kernel_rfl) (by kernel_rfl) (by kernel_rfl)) ?_
  intro W base args ds gs before hval0 hW hcnd _
  have hval : ∀ (j : Nat) t v, Try.f23.params[j]? = some t → args[j]? = some v → Value.okWide Try.prog W .any base t v := hval0
  have hW' := hW
  obtain ⟨p, q, hA0, hV, rfl, hfz, hnd⟩ := hW
  have hlen := trodAll_length _ _ _ _ hA0
  rw [Try.params23] at hval hlen
  obtain ⟨v0, rfl⟩ := arr1 hlen.1
  obtain ⟨d0, rfl⟩ := list1 hlen.2
  obtain ⟨ll, rfl, el, hll⟩ := ok_ints (Or.inl ⟨_, Try.underlying65⟩) ct65 cn65 (fun u hu => by rw [List.eq_of_mem_replicate hu]; exact Try.underlying2) (hval 0 65 v0 rfl rfl)
  obtain ⟨l0, l1, l2, l3, l4, l5, l6, l7, rfl⟩ := list8 (el.trans (by simp))
  have hl0 : I64 l0 := hll _ (by simp)
  have hl1 : I64 l1 := hll _ (by simp)
  have hl2 : I64 l2 := hll _ (by simp)
  have hl3 : I64 l3 := hll _ (by simp)
  have hl4 : I64 l4 := hll _ (by simp)
  have hl5 : I64 l5 := hll _ (by simp)
  have hl6 : I64 l6 := hll _ (by simp)
  have hl7 : I64 l7 := hll _ (by simp)
  refine (lineMeets_walk l0 l1 l2 l3 l4 l5 l6 l7 hl0 hl1 hl2 hl3 hl4 hl5 hl6 hl7 W).mono fun e W' ⟨he, hb⟩ => ?_
  subst he
  exact ⟨_, rfl, law_post (f := Try.f23) (s := Rows.lineMeetsSpec) (tb := 4) laidOut typed' rfl (by kernel_rfl) Try.underlying4 hW' ⟨rfl, rfl, rfl⟩ hb⟩

theorem k0 : (Rows.lineMeetsRow.wf (OpenSpec.ofChange Rows.lineMeetsSpec)) = true := by kernel_rfl
theorem k3 : (Try.f23.params.all (Try.prog.readableRec ·)) = true := by kernel_rfl
theorem k4 : (namedTie Try.prog Rows.lineMeetsRow.named Rows.lineMeetsSpec.vars) = true := by kernel_rfl
theorem k5 : (Rows.lineMeetsRow.stops == []) = true := by kernel_rfl
theorem k7 : (Rows.lineMeetsRow.knobs == []) = true := by kernel_rfl
theorem k9 : (Rows.lineMeetsRow.inPlace == Try.prog.inPlace 23) = true := by kernel_rfl
theorem k10 : (Rows.lineMeetsRow.unfollowed == Try.prog.unfollowed 23) = true := by kernel_rfl
theorem k11 : (Rows.lineMeetsRow.recurses == Try.prog.recurses 23) = true := by kernel_rfl
theorem k12 : (Rows.lineMeetsRow.named == Try.prog.varsNamed 23) = true := by kernel_rfl
theorem k13 : (Rows.lineMeetsRow.maps == (Try.f23.params.toList ++ Rows.lineMeetsSpec.plain.varTypes Try.prog).any (Try.prog.mapsRec ·)) = true := by kernel_rfl
theorem k14 : (Rows.lineMeetsRow.ifaces == (Try.f23.params.toList ++ Rows.lineMeetsSpec.plain.varTypes Try.prog).any (Try.prog.ifacesRec ·)) = true := by kernel_rfl
theorem k15 : (Rows.lineMeetsRow.mapsOut == Try.prog.mapsAmong Try.f23.resultTypes.toList) = true := by kernel_rfl
theorem k16 : (Rows.lineMeetsRow.loops == (Try.f23.params.toList ++ Rows.lineMeetsSpec.plain.varTypes Try.prog).any (Try.prog.loopsFrom ·)) = true := by kernel_rfl
theorem k17 : (Rows.lineMeetsRow.wideKeys == (Try.f23.params.toList ++ Rows.lineMeetsSpec.plain.varTypes Try.prog ++ Try.f23.resultTypes.toList).any (Try.prog.wideKeysFrom ·)) = true := by kernel_rfl
theorem k18 : (Rows.lineMeetsSpec.vars.all (Try.prog.varReadable ·)) = true := by kernel_rfl
theorem k19 : (Try.f23.resultTypes.all (fun t => Try.prog.readableRec t && decide (t < Try.prog.types.size))) = true := by kernel_rfl
theorem k20 : (Rows.lineMeetsRow.ifacesOut == Try.f23.resultTypes.toList.any (Try.prog.ifacesRec ·)) = true := by kernel_rfl
theorem k21 : (Rows.lineMeetsRow.loopsOut == Try.f23.resultTypes.toList.any (Try.prog.loopsFrom ·)) = true := by kernel_rfl
theorem k22 : (Rows.lineMeetsRow.plainKeys == Try.prog.plainKeys) = true := by kernel_rfl
theorem k23 : (Rows.lineMeetsRow.shortTexts.isNone) = true := by kernel_rfl
theorem k26 : (Rows.lineMeetsRow.lifted == Try.prog.liftsFinal) = true := by rw [pf_lifts]; rfl
theorem k27 : (Try.prog.make == some Rows.lineMeetsRow.make) = true := by rw [pf_make]; rfl
theorem k28 : (Rows.lineMeetsRow.kinds == (if Rows.lineMeetsRow.domain.isEmpty then [] else Try.f23.params.toList.map fun t => match Try.prog.underlying t with | some (.int k) => some k | _ => none)) = true := by kernel_rfl
theorem k29 : (Rows.lineMeetsRow.pinned == Rows.lineMeetsRow.pinnedBy) = true := by kernel_rfl
theorem k30 : (Rows.lineMeetsRow.veiled == (Try.f23.params.toList ++ Rows.lineMeetsSpec.plain.varTypes Try.prog ++ Try.f23.resultTypes.toList).any (Try.prog.veiledRec ·)) = true := by kernel_rfl
theorem k31 : (Rows.lineMeetsRow.veiledFits Try.prog Try.f23.params.toList (Try.f23.params.toList ++ Rows.lineMeetsSpec.plain.varTypes Try.prog ++ Try.f23.resultTypes.toList)) = true := by kernel_rfl
set_option maxRecDepth 100000 in
theorem closed : joinedFacts Try.prog 23 Try.f23 Rows.lineMeetsSpec Rows.lineMeetsRow = true := (band (band (band (band (band (band (band (band (band (band (band (band (band (band (band (band (band (band (band (band (band (band (band (band (band (band (band (band (band (band (band k0 pf_laid) pf_maps) k3) k4) k5) pf_stops) k7) pf_knobs) k9) k10) k11) k12) k13) k14) k15) k16) k17) k18) k19) k20) k21) k22) k23) pf_heard) pf_enter) k26) k27) k28) k29) k30) k31)
theorem byName : Try.prog.funcNamed Rows.lineMeetsRow.func = some 23 := by kernel_rfl
theorem inst : Try.f23.isInstance Try.prog Rows.lineMeetsRow.origin Rows.lineMeetsRow.targs := of_decide_eq_true (by kernel_rfl)
theorem over : Rows.lineMeetsRow.holds Try.pinned (OpenSpec.ofChange Rows.lineMeetsSpec) :=
  OpenClaim.holds_of_wide 23 Try.f23 rfl rfl rfl rfl rfl rfl rfl ⟨rfl, rfl, rfl, rfl, rfl⟩ rfl rfl rfl rfl rfl byName Try.func23 closed
    inst (by unfold Func.isWrapper; rw [if_neg (of_decide_eq_false (by kernel_rfl))]; exact ⟨rfl, rfl⟩)
    (fun os started H enc _ => lifted os started H enc)

/-- The given statement. -/
theorem proved : Rows.LineMeetsSaid := over
end Go.Proofs.Ytijdehdghgmccaa.lineMeets

