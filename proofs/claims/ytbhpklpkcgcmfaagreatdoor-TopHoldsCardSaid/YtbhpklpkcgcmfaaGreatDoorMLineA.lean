/-
  The walks of Side and Ahead, of the program and of the reference.
-/
import Derived.Test.YtbhpklpkcgcmfaaGreatDoorMTrig
import Derived.Test.YtbhpklpkcgcmfaaGreatDoorMGeo
set_option maxRecDepth 100000
set_option maxHeartbeats 16000000
namespace Go.Proofs.YtbhpklpkcgcmfaaGreatDoor
open Go.RowKit
set_option linter.unusedVariables false
set_option linter.unusedSimpArgs false
theorem ahead_any (ax ay bx b_y px py : Int) (w : World) :
 Calls Tryz.prog 98 #[.agg #[.int .i64 ax, .int .i64 ay], .agg #[.int .i64 bx, .int .i64 b_y], .agg #[.int .i64 px, .int .i64 py]] w fun e w' => e = .returned (.int .i64 (aheadF ax ay bx b_y px py)) ∧ Below w.heap.size w w' := by
 unfold aheadF
 rcases hv : (vldB ax ay && vldB bx b_y && vldB px py) with _ | _
 all_goals
  have HV := hide hv
  clear hv
 · rw [if_neg (by simp)]
   go_enter Tryz.func98, Tryz.ntmps98
   go_wp2_with fail
   refine (valid3_any ax ay bx b_y px py _ _ _ (new_at _ _ _ (by simp))).mono ?_
   rintro e w1 ⟨rfl, hb⟩
   rw [HV.out]
   go_wp2_with fail
   go_ret
   exact ⟨rfl, by (repeat (with_reducible (first | assumption | exact Below.refl _ _ | refine Below.drew ?_ | refine below_drewN ?_ _ | refine below_alloc ?_ (Nat.le_refl _) _ | refine below_sub (by assumption) ?_)))⟩
 · rw [if_pos rfl]
   have hv' : (vldB ax ay = true ∧ vldB bx b_y = true) ∧ vldB px py = true := by simpa using HV.out
   have b1 := vldB_bd hv'.1.1
   have b2 := vldB_bd hv'.1.2
   have b3 := vldB_bd hv'.2
   clear hv'
   go_enter Tryz.func98, Tryz.ntmps98
   go_wp2_with fail
   refine (valid3_any ax ay bx b_y px py _ _ _ (new_at _ _ _ (by simp))).mono ?_
   rintro e w1 ⟨rfl, hb⟩
   rw [HV.out]
   have k0_0 := cell_below hb (b := w.heap.size) (o := 0) (v := .int .i64 ax) (by simp [go_sem])
   have k0_1 := cell_below hb (b := w.heap.size) (o := 1) (v := .int .i64 ay) (by simp [go_sem])
   have k1_0 := cell_below hb (b := w.heap.size + 1) (o := 0) (v := .int .i64 bx) (by simp [go_sem])
   have k1_1 := cell_below hb (b := w.heap.size + 1) (o := 1) (v := .int .i64 b_y) (by simp [go_sem])
   have k2_0 := cell_below hb (b := w.heap.size + 1 + 1) (o := 0) (v := .int .i64 px) (by simp [go_sem])
   have k2_1 := cell_below hb (b := w.heap.size + 1 + 1) (o := 1) (v := .int .i64 py) (by simp [go_sem])
   go_wp2_with fail
   go_region_held3 (fun w' => w'.cell? ⟨w.heap.size, 0, none⟩ = some (.int .i64 ax) ∧ w'.cell? ⟨w.heap.size, 1, none⟩ = some (.int .i64 ay) ∧ w'.cell? ⟨w.heap.size + 1, 0, none⟩ = some (.int .i64 bx) ∧ w'.cell? ⟨w.heap.size + 1, 1, none⟩ = some (.int .i64 b_y) ∧ w'.cell? ⟨w.heap.size + 1 + 1, 0, none⟩ = some (.int .i64 px) ∧ w'.cell? ⟨w.heap.size + 1 + 1, 1, none⟩ = some (.int .i64 py)) ((go_split_ands; refine ⟨?_, ?_, ?_, ?_, ?_, ?_⟩ <;> (repeat (first | (with_reducible assumption) | (with_reducible refine cell_drew ?_) | (with_reducible refine cell_drewN ?_ _) | (with_reducible refine cell_below (by assumption) ?_) | ((with_reducible refine cell_new ?_ ?_); (· (simp; done)); (· rfl)) | (with_reducible refine cell_alloc ?_ _)))))
   (first | (go_at_call 41; (with_reducible refine (vector_b _ _ _ _ (by omega) (by omega) (by omega) (by omega) _).mono ?_); rintro e w' ⟨rfl, hb'⟩) | (go_at_call 43; (with_reducible refine (dot_b _ _ _ _ (by omega) (by omega) (by omega) (by omega) (by omega) (by omega) (by omega) (by omega) _).mono ?_); rintro e w' ⟨rfl, hb'⟩) | (go_at_call 170; (with_reducible refine (compare_any _ _ _).mono ?_); rintro e w' ⟨rfl, rfl⟩))
   go_wp2_with fail
   go_ret
   exact ⟨rfl, by (repeat (with_reducible (first | assumption | exact Below.refl _ _ | refine Below.drew ?_ | refine below_drewN ?_ _ | refine below_alloc ?_ (Nat.le_refl _) _ | refine below_sub (by assumption) ?_)))⟩
end Go.Proofs.YtbhpklpkcgcmfaaGreatDoor
/-
  The walks of the reference: valid, sign, Side and Ahead.
-/
namespace Go.Proofs.YtbhpklpkcgcmfaaGreatDoor
open Go.RowKit
set_option linter.unusedVariables false
set_option linter.unusedSimpArgs false
theorem pvalid_c (x y : Int) (v : Bool) (h : vldB x y = v) (w : World) : Calls Tryz.prog 46 #[.agg #[.int .i64 x, .int .i64 y]] w fun e w' => e = .returned (.bool v) ∧ w' = w.alloc (.cells #[.int .i64 x, .int .i64 y] 26) := by
 rw [← h]; exact pvalid_any x y w
end Go.Proofs.YtbhpklpkcgcmfaaGreatDoor
/-
  The walks of Course and Dist, of the program and of the reference.
-/
namespace Go.Proofs.YtbhpklpkcgcmfaaGreatDoor
open Go.RowKit
set_option linter.unusedVariables false
set_option linter.unusedSimpArgs false
theorem dist2_in {ax ay bx b_y : Int} (h1 : vldB ax ay = true) (h2 : vldB bx b_y = true) : I64 (dist2 ax ay bx b_y) := by
 have a := dist2_nonneg ax ay bx b_y
 have b := dist2_bd h1 h2
 unfold I64
 omega
theorem course_any (ax ay bx b_y : Int) (w : World) :
 Calls Tryz.prog 28 #[.agg #[.int .i64 ax, .int .i64 ay], .agg #[.int .i64 bx, .int .i64 b_y]] w fun e w' => e = .returned (.tuple #[.int .i64 (courseF ax ay bx b_y).1, .int .i64 (courseF ax ay bx b_y).2]) ∧ Below w.heap.size w w' := by
 rcases hv : (vldB ax ay && vldB bx b_y) with _ | _
 · have HR : Hid (courseF ax ay bx b_y = (0, 1)) := hide (by unfold courseF; rw [hv]; rfl)
   have HV : Hid ((vldB ax ay && vldB bx b_y) = false) := hide (by first | exact hv | (rw [hv]; rfl))
   clear hv
   generalize courseF ax ay bx b_y = R at *
   obtain rfl : R = (0, 1) := HR.out
   go_enter Tryz.func28, Tryz.ntmps28
   go_wp2_with fail
   refine (valid2_any ax ay bx b_y _ _ _ (new_at _ _ _ (by simp))).mono ?_
   rintro e w1 ⟨rfl, hb⟩
   rw [HV.out]
   go_wp2_with fail
   go_ret2
   exact ⟨rfl, by (repeat (with_reducible (first | assumption | exact Below.refl _ _ | refine Below.drew ?_ | refine below_drewN ?_ _ | refine below_alloc ?_ (Nat.le_refl _) _ | refine below_sub (by assumption) ?_)))⟩
 have hv' : vldB ax ay = true ∧ vldB bx b_y = true := by simpa using hv
 have b1 := vldB_bd hv'.1
 have b2 := vldB_bd hv'.2
 have HV : Hid ((vldB ax ay && vldB bx b_y) = true) := hide (by rw [hv'.1, hv'.2]; rfl)
 by_cases he : ax = bx ∧ ay = b_y
 · have HR : Hid (courseF ax ay bx b_y = (0, 10)) := hide (by unfold courseF; rw [hv, if_neg (by simp), if_pos he])
   clear hv hv'
   obtain ⟨rfl, rfl⟩ := he
   generalize courseF ax ay ax ay = R at *
   obtain rfl : R = (0, 10) := HR.out
   go_enter Tryz.func28, Tryz.ntmps28
   go_wp2_with fail
   refine (valid2_any ax ay ax ay _ _ _ (new_at _ _ _ (by simp))).mono ?_
   rintro e w1 ⟨rfl, hb⟩
   rw [HV.out]
   have k0_0 := cell_below hb (b := w.heap.size) (o := 0) (v := .int .i64 ax) (by simp [go_sem])
   have k0_1 := cell_below hb (b := w.heap.size) (o := 1) (v := .int .i64 ay) (by simp [go_sem])
   have k1_0 := cell_below hb (b := w.heap.size + 1) (o := 0) (v := .int .i64 ax) (by simp [go_sem])
   have k1_1 := cell_below hb (b := w.heap.size + 1) (o := 1) (v := .int .i64 ay) (by simp [go_sem])
   go_wp2_with fail
   go_ret2
   exact ⟨rfl, by (repeat (with_reducible (first | assumption | exact Below.refl _ _ | refine Below.drew ?_ | refine below_drewN ?_ _ | refine below_alloc ?_ (Nat.le_refl _) _ | refine below_sub (by assumption) ?_)))⟩
 have HR : Hid (courseF ax ay bx b_y = (atan2F (bx - ax) (b_y - ay), 0)) := hide (by unfold courseF; rw [hv, if_neg (by simp), if_neg he])
 have HNE : Hid (¬ (b_y - ay = 0 ∧ bx - ax = 0)) := hide (by omega)
 have T : ((ax == bx) = true ∧ (ay == b_y) = false) ∨ (ax == bx) = false := by
  by_cases hx0 : ax = bx
  · left; simp [hx0]; intro hy0; exact he ⟨hx0, hy0⟩
  · right; simp [hx0]
 clear hv hv' he
 generalize courseF ax ay bx b_y = R at *
 obtain rfl : R = (atan2F (bx - ax) (b_y - ay), 0) := HR.out
 rcases T with ⟨t1, t2⟩ | t1
 all_goals
  go_enter Tryz.func28, Tryz.ntmps28
  go_wp2_with fail
  refine (valid2_any ax ay bx b_y _ _ _ (new_at _ _ _ (by simp))).mono ?_
  rintro e w1 ⟨rfl, hb⟩
  rw [HV.out]
  have k0_0 := cell_below hb (b := w.heap.size) (o := 0) (v := .int .i64 ax) (by simp [go_sem])
  have k0_1 := cell_below hb (b := w.heap.size) (o := 1) (v := .int .i64 ay) (by simp [go_sem])
  have k1_0 := cell_below hb (b := w.heap.size + 1) (o := 0) (v := .int .i64 bx) (by simp [go_sem])
  have k1_1 := cell_below hb (b := w.heap.size + 1) (o := 1) (v := .int .i64 b_y) (by simp [go_sem])
  go_wp2_with (first | (go_at_call 66; (with_reducible refine (atan2_any _ _ (by omega) (by omega) (by omega) (by omega) HNE.out _).mono ?_); rintro e w' ⟨rfl, hb'⟩) | (go_at_call 41; (with_reducible refine (vector_b _ _ _ _ (by omega) (by omega) (by omega) (by omega) _).mono ?_); rintro e w' ⟨rfl, hb'⟩))
  go_ret2
  exact ⟨rfl, by (repeat (with_reducible (first | assumption | exact Below.refl _ _ | refine Below.drew ?_ | refine below_drewN ?_ _ | refine below_alloc ?_ (Nat.le_refl _) _ | refine below_sub (by assumption) ?_)))⟩
theorem dist_any (ax ay bx b_y : Int) (w : World) :
 Calls Tryz.prog 18 #[.agg #[.int .i64 ax, .int .i64 ay], .agg #[.int .i64 bx, .int .i64 b_y]] w fun e w' => e = .returned (.int .i64 (distF ax ay bx b_y)) ∧ Below w.heap.size w w' := by
 rcases hv : (vldB ax ay && vldB bx b_y) with _ | _
 · have HR : Hid (distF ax ay bx b_y = 0) := hide (by unfold distF; rw [hv]; rfl)
   have HV : Hid ((vldB ax ay && vldB bx b_y) = false) := hide (by first | exact hv | (rw [hv]; rfl))
   clear hv
   generalize distF ax ay bx b_y = R at *
   obtain rfl : R = 0 := HR.out
   go_enter Tryz.func18, Tryz.ntmps18
   go_wp2_with fail
   refine (valid2_any ax ay bx b_y _ _ _ (new_at _ _ _ (by simp))).mono ?_
   rintro e w1 ⟨rfl, hb⟩
   rw [HV.out]
   go_wp2_with fail
   go_ret
   exact ⟨rfl, by (repeat (with_reducible (first | assumption | exact Below.refl _ _ | refine Below.drew ?_ | refine below_drewN ?_ _ | refine below_alloc ?_ (Nat.le_refl _) _ | refine below_sub (by assumption) ?_)))⟩
 · have hv' : vldB ax ay = true ∧ vldB bx b_y = true := by simpa using hv
   have b1 := vldB_bd hv'.1
   have b2 := vldB_bd hv'.2
   have HV : Hid ((vldB ax ay && vldB bx b_y) = true) := hide (by rw [hv'.1, hv'.2]; rfl)
   have HI : Hid (I64 ((bx - ax) * (bx - ax) + (b_y - ay) * (b_y - ay))) := hide (dist2_in hv'.1 hv'.2)
   have HR : Hid (distF ax ay bx b_y = isq ((bx - ax) * (bx - ax) + (b_y - ay) * (b_y - ay)).toNat) := hide (by unfold distF dist2; rw [hv]; rfl)
   clear hv hv'
   generalize distF ax ay bx b_y = R at *
   obtain rfl : R = _ := HR.out
   go_enter Tryz.func18, Tryz.ntmps18
   go_wp2_with fail
   refine (valid2_any ax ay bx b_y _ _ _ (new_at _ _ _ (by simp))).mono ?_
   rintro e w1 ⟨rfl, hb⟩
   rw [HV.out]
   have k0_0 := cell_below hb (b := w.heap.size) (o := 0) (v := .int .i64 ax) (by simp [go_sem])
   have k0_1 := cell_below hb (b := w.heap.size) (o := 1) (v := .int .i64 ay) (by simp [go_sem])
   have k1_0 := cell_below hb (b := w.heap.size + 1) (o := 0) (v := .int .i64 bx) (by simp [go_sem])
   have k1_1 := cell_below hb (b := w.heap.size + 1) (o := 1) (v := .int .i64 b_y) (by simp [go_sem])
   go_wp2_with (first | (go_at_call 42; (with_reducible refine (sqrt_any _ HI.out _).mono ?_); rintro e w' ⟨rfl, n, rfl⟩) | (go_at_call 41; (with_reducible refine (vector_b _ _ _ _ (by omega) (by omega) (by omega) (by omega) _).mono ?_); rintro e w' ⟨rfl, hb'⟩) | (go_at_call 43; (with_reducible refine (dot_b _ _ _ _ (by omega) (by omega) (by omega) (by omega) (by omega) (by omega) (by omega) (by omega) _).mono ?_); rintro e w' ⟨rfl, hb'⟩))
   go_ret
   exact ⟨rfl, by (repeat (with_reducible (first | assumption | exact Below.refl _ _ | refine Below.drew ?_ | refine below_drewN ?_ _ | refine below_alloc ?_ (Nat.le_refl _) _ | refine below_sub (by assumption) ?_)))⟩
end Go.Proofs.YtbhpklpkcgcmfaaGreatDoor
