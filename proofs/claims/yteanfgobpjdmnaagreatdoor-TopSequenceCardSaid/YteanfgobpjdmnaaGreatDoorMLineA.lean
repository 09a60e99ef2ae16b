/-
  The walks of Side and Ahead, of the program and of the reference.
-/
import Derived.Test.YteanfgobpjdmnaaGreatDoorMRoot
import Derived.Test.YteanfgobpjdmnaaGreatDoorMGeo
set_option maxRecDepth 100000
set_option maxHeartbeats 16000000
namespace Go.Proofs.YteanfgobpjdmnaaGreatDoor
open Go.RowKit
set_option linter.unusedVariables false
set_option linter.unusedSimpArgs false
theorem bo (ax ay bx b_y px py : Int) (w : World) :
 Calls Tryz.prog 41 #[.agg #[.int .i64 ax, .int .i64 ay], .agg #[.int .i64 bx, .int .i64 b_y], .agg #[.int .i64 px, .int .i64 py]] w fun e w' => e = .returned (.int .i64 (BH ax ay bx b_y px py)) ∧ Below w.heap.size w w' := by
 unfold BH
 rcases hv : (qf ax ay && qf bx b_y && qf px py) with _ | _
 all_goals
  have HV := hide hv
  clear hv
 · rw [if_neg (by simp)]
   go_enter Tryz.func41, Tryz.ntmps41
   go_wp2_with fail
   refine (vE ax ay bx b_y px py _ _ _ (kv _ _ _ (by simp))).mono ?_
   rintro e w1 ⟨rfl, hb⟩
   rw [HV.out]
   go_wp2_with fail
   go_ret
   exact ⟨rfl, by (repeat (with_reducible (first | assumption | exact Below.refl _ _ | refine Below.drew ?_ | refine below_drewN ?_ _ | refine qe ?_ (Nat.le_refl _) _ | refine qi (by assumption) ?_)))⟩
 · rw [if_pos rfl]
   have hv' : (qf ax ay = true ∧ qf bx b_y = true) ∧ qf px py = true := by simpa using HV.out
   have b1 := jo hv'.1.1
   have b2 := jo hv'.1.2
   have b3 := jo hv'.2
   clear hv'
   go_enter Tryz.func41, Tryz.ntmps41
   go_wp2_with fail
   refine (vE ax ay bx b_y px py _ _ _ (kv _ _ _ (by simp))).mono ?_
   rintro e w1 ⟨rfl, hb⟩
   rw [HV.out]
   have k0_0 := qa hb (b := w.heap.size) (o := 0) (v := .int .i64 ax) (by simp [go_sem])
   have k0_1 := qa hb (b := w.heap.size) (o := 1) (v := .int .i64 ay) (by simp [go_sem])
   have k1_0 := qa hb (b := w.heap.size + 1) (o := 0) (v := .int .i64 bx) (by simp [go_sem])
   have k1_1 := qa hb (b := w.heap.size + 1) (o := 1) (v := .int .i64 b_y) (by simp [go_sem])
   have k2_0 := qa hb (b := w.heap.size + 1 + 1) (o := 0) (v := .int .i64 px) (by simp [go_sem])
   have k2_1 := qa hb (b := w.heap.size + 1 + 1) (o := 1) (v := .int .i64 py) (by simp [go_sem])
   go_wp2_with fail
   go_region_held3 (fun w' => w'.cell? ⟨w.heap.size, 0, none⟩ = some (.int .i64 ax) ∧ w'.cell? ⟨w.heap.size, 1, none⟩ = some (.int .i64 ay) ∧ w'.cell? ⟨w.heap.size + 1, 0, none⟩ = some (.int .i64 bx) ∧ w'.cell? ⟨w.heap.size + 1, 1, none⟩ = some (.int .i64 b_y) ∧ w'.cell? ⟨w.heap.size + 1 + 1, 0, none⟩ = some (.int .i64 px) ∧ w'.cell? ⟨w.heap.size + 1 + 1, 1, none⟩ = some (.int .i64 py)) ((go_split_ands; refine ⟨?_, ?_, ?_, ?_, ?_, ?_⟩ <;> (repeat (first | (with_reducible assumption) | (with_reducible refine qC ?_) | (with_reducible refine qu ?_ _) | (with_reducible refine qa (by assumption) ?_) | ((with_reducible refine qG ?_ ?_); (· (simp; done)); (· rfl)) | (with_reducible refine qt ?_ _)))))
   (first | (go_at_call 20; (with_reducible refine (tF _ _ _ _ (by omega) (by omega) (by omega) (by omega) _).mono ?_); rintro e w' ⟨rfl, hb'⟩) | (go_at_call 66; (with_reducible refine (Gx _ _ _ _ (by omega) (by omega) (by omega) (by omega) (by omega) (by omega) (by omega) (by omega) _).mono ?_); rintro e w' ⟨rfl, hb'⟩) | (go_at_call 80; (with_reducible refine (Gw _ _ _).mono ?_); rintro e w' ⟨rfl, rfl⟩))
   go_wp2_with fail
   go_ret
   exact ⟨rfl, by (repeat (with_reducible (first | assumption | exact Below.refl _ _ | refine Below.drew ?_ | refine below_drewN ?_ _ | refine qe ?_ (Nat.le_refl _) _ | refine qi (by assumption) ?_)))⟩
theorem kH (x y : Int) (v : Bool) (h : qf x y = v) (w : World) : Calls Tryz.prog 16 #[.agg #[.int .i64 x, .int .i64 y]] w fun e w' => e = .returned (.bool v) ∧ w' = w.alloc (.cells #[.int .i64 x, .int .i64 y] 26) := by
 rw [← h]; exact tY x y w
theorem au {ax ay bx b_y : Int} (h1 : qf ax ay = true) (h2 : qf bx b_y = true) : qH (jv ax ay bx b_y) := by
 have a := Jb ax ay bx b_y
 have b := VU h1 h2
 unfold qH
 omega
theorem yd (ax ay bx b_y : Int) (w : World) :
 Calls Tryz.prog 8 #[.agg #[.int .i64 ax, .int .i64 ay], .agg #[.int .i64 bx, .int .i64 b_y]] w fun e w' => e = .returned (.tuple #[.int .i64 (qF ax ay bx b_y).1, .int .i64 (qF ax ay bx b_y).2]) ∧ Below w.heap.size w w' := by
 rcases hv : (qf ax ay && qf bx b_y) with _ | _
 · have HR : Hid (qF ax ay bx b_y = (0, 1)) := hide (by unfold qF; rw [hv]; rfl)
   have HV : Hid ((qf ax ay && qf bx b_y) = false) := hide (by first | exact hv | (rw [hv]; rfl))
   clear hv
   generalize qF ax ay bx b_y = R at *
   obtain rfl : R = (0, 1) := HR.out
   go_enter Tryz.func8, Tryz.ntmps8
   go_wp2_with fail
   refine (bw ax ay bx b_y _ _ _ (kv _ _ _ (by simp))).mono ?_
   rintro e w1 ⟨rfl, hb⟩
   rw [HV.out]
   go_wp2_with fail
   go_ret2
   exact ⟨rfl, by (repeat (with_reducible (first | assumption | exact Below.refl _ _ | refine Below.drew ?_ | refine below_drewN ?_ _ | refine qe ?_ (Nat.le_refl _) _ | refine qi (by assumption) ?_)))⟩
 have hv' : qf ax ay = true ∧ qf bx b_y = true := by simpa using hv
 have b1 := jo hv'.1
 have b2 := jo hv'.2
 have HV : Hid ((qf ax ay && qf bx b_y) = true) := hide (by rw [hv'.1, hv'.2]; rfl)
 by_cases he : ax = bx ∧ ay = b_y
 · have HR : Hid (qF ax ay bx b_y = (0, 10)) := hide (by unfold qF; rw [hv, if_neg (by simp), if_pos he])
   clear hv hv'
   obtain ⟨rfl, rfl⟩ := he
   generalize qF ax ay ax ay = R at *
   obtain rfl : R = (0, 10) := HR.out
   go_enter Tryz.func8, Tryz.ntmps8
   go_wp2_with fail
   refine (bw ax ay ax ay _ _ _ (kv _ _ _ (by simp))).mono ?_
   rintro e w1 ⟨rfl, hb⟩
   rw [HV.out]
   have k0_0 := qa hb (b := w.heap.size) (o := 0) (v := .int .i64 ax) (by simp [go_sem])
   have k0_1 := qa hb (b := w.heap.size) (o := 1) (v := .int .i64 ay) (by simp [go_sem])
   have k1_0 := qa hb (b := w.heap.size + 1) (o := 0) (v := .int .i64 ax) (by simp [go_sem])
   have k1_1 := qa hb (b := w.heap.size + 1) (o := 1) (v := .int .i64 ay) (by simp [go_sem])
   go_wp2_with fail
   go_ret2
   exact ⟨rfl, by (repeat (with_reducible (first | assumption | exact Below.refl _ _ | refine Below.drew ?_ | refine below_drewN ?_ _ | refine qe ?_ (Nat.le_refl _) _ | refine qi (by assumption) ?_)))⟩
 have HR : Hid (qF ax ay bx b_y = (qZ (bx - ax) (b_y - ay), 0)) := hide (by unfold qF; rw [hv, if_neg (by simp), if_neg he])
 have HNE : Hid (¬ (b_y - ay = 0 ∧ bx - ax = 0)) := hide (by omega)
 have T : ((ax == bx) = true ∧ (ay == b_y) = false) ∨ (ax == bx) = false := by
  by_cases hx0 : ax = bx
  · left; simp [hx0]; intro hy0; exact he ⟨hx0, hy0⟩
  · right; simp [hx0]
 clear hv hv' he
 generalize qF ax ay bx b_y = R at *
 obtain rfl : R = (qZ (bx - ax) (b_y - ay), 0) := HR.out
 rcases T with ⟨t1, t2⟩ | t1
 all_goals
  go_enter Tryz.func8, Tryz.ntmps8
  go_wp2_with fail
  refine (bw ax ay bx b_y _ _ _ (kv _ _ _ (by simp))).mono ?_
  rintro e w1 ⟨rfl, hb⟩
  rw [HV.out]
  have k0_0 := qa hb (b := w.heap.size) (o := 0) (v := .int .i64 ax) (by simp [go_sem])
  have k0_1 := qa hb (b := w.heap.size) (o := 1) (v := .int .i64 ay) (by simp [go_sem])
  have k1_0 := qa hb (b := w.heap.size + 1) (o := 0) (v := .int .i64 bx) (by simp [go_sem])
  have k1_1 := qa hb (b := w.heap.size + 1) (o := 1) (v := .int .i64 b_y) (by simp [go_sem])
  go_wp2_with (first | (go_at_call 21; (with_reducible refine (UJ _ _ (by omega) (by omega) (by omega) (by omega) HNE.out _).mono ?_); rintro e w' ⟨rfl, hb'⟩) | (go_at_call 20; (with_reducible refine (tF _ _ _ _ (by omega) (by omega) (by omega) (by omega) _).mono ?_); rintro e w' ⟨rfl, hb'⟩))
  go_ret2
  exact ⟨rfl, by (repeat (with_reducible (first | assumption | exact Below.refl _ _ | refine Below.drew ?_ | refine below_drewN ?_ _ | refine qe ?_ (Nat.le_refl _) _ | refine qi (by assumption) ?_)))⟩
theorem jJ (ax ay bx b_y : Int) (w : World) :
 Calls Tryz.prog 32 #[.agg #[.int .i64 ax, .int .i64 ay], .agg #[.int .i64 bx, .int .i64 b_y]] w fun e w' => e = .returned (.int .i64 (qJ ax ay bx b_y)) ∧ Below w.heap.size w w' := by
 rcases hv : (qf ax ay && qf bx b_y) with _ | _
 · have HR : Hid (qJ ax ay bx b_y = 0) := hide (by unfold qJ; rw [hv]; rfl)
   have HV : Hid ((qf ax ay && qf bx b_y) = false) := hide (by first | exact hv | (rw [hv]; rfl))
   clear hv
   generalize qJ ax ay bx b_y = R at *
   obtain rfl : R = 0 := HR.out
   go_enter Tryz.func32, Tryz.ntmps32
   go_wp2_with fail
   refine (bw ax ay bx b_y _ _ _ (kv _ _ _ (by simp))).mono ?_
   rintro e w1 ⟨rfl, hb⟩
   rw [HV.out]
   go_wp2_with fail
   go_ret
   exact ⟨rfl, by (repeat (with_reducible (first | assumption | exact Below.refl _ _ | refine Below.drew ?_ | refine below_drewN ?_ _ | refine qe ?_ (Nat.le_refl _) _ | refine qi (by assumption) ?_)))⟩
 · have hv' : qf ax ay = true ∧ qf bx b_y = true := by simpa using hv
   have b1 := jo hv'.1
   have b2 := jo hv'.2
   have HV : Hid ((qf ax ay && qf bx b_y) = true) := hide (by rw [hv'.1, hv'.2]; rfl)
   have HI : Hid (qH ((bx - ax) * (bx - ax) + (b_y - ay) * (b_y - ay))) := hide (au hv'.1 hv'.2)
   have HR : Hid (qJ ax ay bx b_y = vO ((bx - ax) * (bx - ax) + (b_y - ay) * (b_y - ay)).toNat) := hide (by unfold qJ jv; rw [hv]; rfl)
   clear hv hv'
   generalize qJ ax ay bx b_y = R at *
   obtain rfl : R = _ := HR.out
   go_enter Tryz.func32, Tryz.ntmps32
   go_wp2_with fail
   refine (bw ax ay bx b_y _ _ _ (kv _ _ _ (by simp))).mono ?_
   rintro e w1 ⟨rfl, hb⟩
   rw [HV.out]
   have k0_0 := qa hb (b := w.heap.size) (o := 0) (v := .int .i64 ax) (by simp [go_sem])
   have k0_1 := qa hb (b := w.heap.size) (o := 1) (v := .int .i64 ay) (by simp [go_sem])
   have k1_0 := qa hb (b := w.heap.size + 1) (o := 0) (v := .int .i64 bx) (by simp [go_sem])
   have k1_1 := qa hb (b := w.heap.size + 1) (o := 1) (v := .int .i64 b_y) (by simp [go_sem])
   go_wp2_with (first | (go_at_call 65; (with_reducible refine (Kc _ HI.out _).mono ?_); rintro e w' ⟨rfl, n, rfl⟩) | (go_at_call 20; (with_reducible refine (tF _ _ _ _ (by omega) (by omega) (by omega) (by omega) _).mono ?_); rintro e w' ⟨rfl, hb'⟩) | (go_at_call 66; (with_reducible refine (Gx _ _ _ _ (by omega) (by omega) (by omega) (by omega) (by omega) (by omega) (by omega) (by omega) _).mono ?_); rintro e w' ⟨rfl, hb'⟩))
   go_ret
   exact ⟨rfl, by (repeat (with_reducible (first | assumption | exact Below.refl _ _ | refine Below.drew ?_ | refine below_drewN ?_ _ | refine qe ?_ (Nat.le_refl _) _ | refine qi (by assumption) ?_)))⟩
end Go.Proofs.YteanfgobpjdmnaaGreatDoor
