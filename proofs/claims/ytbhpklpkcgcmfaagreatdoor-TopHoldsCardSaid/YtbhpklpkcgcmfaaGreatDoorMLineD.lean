/-
  The walks of Ray, of the program and of the reference.
-/
import Derived.Test.YtbhpklpkcgcmfaaGreatDoorMLineA
import Derived.Test.YtbhpklpkcgcmfaaGreatDoorMSeries
import Derived.Deep.DeepCutAuto
namespace Go.Proofs.YtbhpklpkcgcmfaaGreatDoor
open Go.RowKit
set_option linter.unusedVariables false
set_option linter.unusedSimpArgs false
theorem ray_in {dist s : Int} (h1 : -8000000 ≤ dist) (h2 : dist ≤ 8000000) (h3 : -1073741824 ≤ s) (h4 : s ≤ 1073741824) :
 (-8589934592000000 ≤ dist * s ∧ dist * s ≤ 8589934592000000) ∧ (-8000001 ≤ rnd 2 (dist * s) 1073741824 ∧ rnd 2 (dist * s) 1073741824 ≤ 8000001) := by
 have e1 := Int.mul_nonneg (show 0 ≤ 8000000 - dist by omega) (show 0 ≤ 1073741824 - s by omega)
 have e2 := Int.mul_nonneg (show 0 ≤ 8000000 + dist by omega) (show 0 ≤ 1073741824 + s by omega)
 have e3 := Int.mul_nonneg (show 0 ≤ 8000000 - dist by omega) (show 0 ≤ 1073741824 + s by omega)
 have e4 := Int.mul_nonneg (show 0 ≤ 8000000 + dist by omega) (show 0 ≤ 1073741824 - s by omega)
 have f1 : (8000000 - dist) * (1073741824 - s) = 8000000 * 1073741824 - 8000000 * s - 1073741824 * dist + dist * s := by grind
 have f2 : (8000000 + dist) * (1073741824 + s) = 8000000 * 1073741824 + 8000000 * s + 1073741824 * dist + dist * s := by grind
 have f3 : (8000000 - dist) * (1073741824 + s) = 8000000 * 1073741824 + 8000000 * s - 1073741824 * dist - dist * s := by grind
 have f4 : (8000000 + dist) * (1073741824 - s) = 8000000 * 1073741824 - 8000000 * s + 1073741824 * dist - dist * s := by grind
 have r := rnd2_one (dist * s)
 generalize rnd 2 (dist * s) 1073741824 = q at *
 generalize dist * s = p at *
 omega
theorem ray_muldiv {dist s : Int} (h1 : -8000000 ≤ dist) (h2 : dist ≤ 8000000) (h3 : -1073741824 ≤ s) (h4 : s ≤ 1073741824) : muldiv 2 (dist * s) 1 1073741824 = (rnd 2 (dist * s) 1073741824, 0) := by
 have h := (ray_in h1 h2 h3 h4).2
 unfold muldiv
 rw [if_neg (by omega), Int.mul_one, if_pos]
 unfold in64
 generalize rnd 2 (dist * s) 1073741824 = q at *
 exact decide_eq_true (by omega)
set_option maxHeartbeats 2000000 in
theorem ray_any (px py course dist : Int) (hc : I64 course) (hd : I64 dist) (w : World) (R : Int × Int × Int) (hR : R = rayF px py course dist) :
 Calls Tryz.prog 71 #[.agg #[.int .i64 px, .int .i64 py], .int .i64 course, .int .i64 dist] w fun e w' => e = .returned (.tuple #[.agg #[.int .i64 R.1, .int .i64 R.2.1], .int .i64 R.2.2]) ∧ Below w.heap.size w w' := by
 unfold rayF at hR
 rcases hv : vldB px py with _ | _
 · rw [hv, if_pos (by simp)] at hR
   subst hR
   have HV := hide hv
   clear hv
   go_enter Tryz.func71, Tryz.ntmps71
   go_wp2_with fail
   refine (pvalid_c px py false HV.out _).mono ?_
   rintro e w1 ⟨rfl, rfl⟩
   go_wp2_with fail
   exact bodyPost_ret (v := .tuple #[.agg #[.int .i64 0, .int .i64 0], .int .i64 1]) (by simp [results, Tryz.results71, go_sem, *]) rfl ⟨rfl, by (repeat (with_reducible (first | assumption | exact Below.refl _ _ | refine Below.drew ?_ | refine below_drewN ?_ _ | refine below_set ?_ (by simp; try omega) _ | refine below_alloc ?_ (Nat.le_refl _) _ | refine below_sub (by assumption) ?_)))⟩
 rw [hv, if_neg (by simp)] at hR
 have HV := hide hv
 have b1 := vldB_bd hv
 clear hv
 by_cases h2 : dist > 8000000 ∨ dist < -8000000
 · rw [if_pos h2] at hR
   subst hR
   have T : dist > 8000000 ∨ (¬ dist > 8000000 ∧ dist < -8000000) := by omega
   clear h2
   rcases T with t1 | ⟨t1, t2⟩
   all_goals
    go_enter Tryz.func71, Tryz.ntmps71
    go_wp2_with fail
    refine (pvalid_c px py true HV.out _).mono ?_
    rintro e w1 ⟨rfl, rfl⟩
    go_wp2_with fail
    exact bodyPost_ret (v := .tuple #[.agg #[.int .i64 0, .int .i64 0], .int .i64 2]) (by simp [results, Tryz.results71, go_sem, *]) rfl ⟨rfl, by (repeat (with_reducible (first | assumption | exact Below.refl _ _ | refine Below.drew ?_ | refine below_drewN ?_ _ | refine below_set ?_ (by simp; try omega) _ | refine below_alloc ?_ (Nat.le_refl _) _ | refine below_sub (by assumption) ?_)))⟩
 rw [if_neg h2] at hR
 unfold rayX rayY at hR
 have h3 : -8000000 ≤ dist := by omega
 have h4 : dist ≤ 8000000 := by omega
 have sb := Sin_bd course
 have cb := Cos_bd course
 have SC := fun w => Sin_any course hc w
 have CC := fun w => Cos_any course hc w
 have s1 := ray_in h3 h4 sb.1 sb.2
 have s2 := ray_in h3 h4 cb.1 cb.2
 have RX := fun w => round_any (dist * Sin course) 1073741824 (by unfold I64; omega) (by unfold I64; omega) w
 have RY := fun w => round_any (dist * Cos course) 1073741824 (by unfold I64; omega) (by unfold I64; omega) w
 rw [ray_muldiv h3 h4 sb.1 sb.2] at RX
 rw [ray_muldiv h3 h4 cb.1 cb.2] at RY
 clear h2
 generalize Sin course = s at *
 generalize Cos course = c at *
 generalize rnd 2 (dist * s) 1073741824 = X at *
 generalize rnd 2 (dist * c) 1073741824 = Y at *
 obtain ⟨⟨p1, p2⟩, q1, q2⟩ := s1
 obtain ⟨⟨p3, p4⟩, q3, q4⟩ := s2
 rcases hw : vldB (px + X) (py + Y) with _ | _
 all_goals
  rw [hw] at hR
  have HW := hide hw
  clear hw
 · rw [if_neg (by simp)] at hR
   subst hR
   go_enter Tryz.func71, Tryz.ntmps71
   go_wp2_with fail
   refine (pvalid_c px py true HV.out _).mono ?_
   rintro e w1 ⟨rfl, rfl⟩
   go_wp2_with fail
   go_wp2_with (first | (go_at_call 55; refine (SC _).mono ?_; rintro e w' ⟨rfl, rfl⟩) | (go_at_call 56; refine (CC _).mono ?_; rintro e w' ⟨rfl, rfl⟩) | (go_at_call_of 115 (Value.int IntKind.i64 (dist * s)); refine (RX _).mono ?_; rintro e w' ⟨rfl, n, rfl⟩) | (go_at_call_of 115 (Value.int IntKind.i64 (dist * c)); refine (RY _).mono ?_; rintro e w' ⟨rfl, n, rfl⟩) | (go_at_call 46; refine (pvalid_c _ _ _ HW.out _).mono ?_; rintro e w' ⟨rfl, rfl⟩))
   exact bodyPost_ret (v := .tuple #[.agg #[.int .i64 0, .int .i64 0], .int .i64 2]) (by simp [results, Tryz.results71, go_sem, *]) rfl ⟨rfl, by (repeat (with_reducible (first | assumption | exact Below.refl _ _ | refine Below.drew ?_ | refine below_drewN ?_ _ | refine below_set ?_ (by simp; try omega) _ | refine below_alloc ?_ (Nat.le_refl _) _ | refine below_sub (by assumption) ?_)))⟩
 · rw [if_pos rfl] at hR
   subst hR
   go_enter Tryz.func71, Tryz.ntmps71
   go_wp2_with fail
   refine (pvalid_c px py true HV.out _).mono ?_
   rintro e w1 ⟨rfl, rfl⟩
   go_wp2_with fail
   go_wp2_with (first | (go_at_call 55; refine (SC _).mono ?_; rintro e w' ⟨rfl, rfl⟩) | (go_at_call 56; refine (CC _).mono ?_; rintro e w' ⟨rfl, rfl⟩) | (go_at_call_of 115 (Value.int IntKind.i64 (dist * s)); refine (RX _).mono ?_; rintro e w' ⟨rfl, n, rfl⟩) | (go_at_call_of 115 (Value.int IntKind.i64 (dist * c)); refine (RY _).mono ?_; rintro e w' ⟨rfl, n, rfl⟩) | (go_at_call 46; refine (pvalid_c _ _ _ HW.out _).mono ?_; rintro e w' ⟨rfl, rfl⟩))
   exact bodyPost_ret (v := .tuple #[.agg #[.int .i64 (px + X), .int .i64 (py + Y)], .int .i64 0]) (by simp [results, Tryz.results71, go_sem, *]) rfl ⟨rfl, by (repeat (with_reducible (first | assumption | exact Below.refl _ _ | refine Below.drew ?_ | refine below_drewN ?_ _ | refine below_set ?_ (by simp; try omega) _ | refine below_alloc ?_ (Nat.le_refl _) _ | refine below_sub (by assumption) ?_)))⟩
end Go.Proofs.YtbhpklpkcgcmfaaGreatDoor
/-
  The walks of Past, of the program and of the reference.
-/
namespace Go.Proofs.YtbhpklpkcgcmfaaGreatDoor
open Go.RowKit
set_option linter.unusedVariables false
set_option linter.unusedSimpArgs false
theorem wi {x : Int} (h1 : -9223372036854775808 ≤ x) (h2 : x ≤ 9223372036854775807) : IntKind.i64.wrap x = x := IntWalk.i64_in _ (by omega)
theorem courseF_bd (ax ay bx b_y : Int) : 0 ≤ (courseF ax ay bx b_y).1 ∧ (courseF ax ay bx b_y).1 < 129600000 := by
 unfold courseF
 split
 · decide
 · split
   · decide
   · exact atan2F_bd _ _
end Go.Proofs.YtbhpklpkcgcmfaaGreatDoor
