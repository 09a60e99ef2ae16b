/-
  The walks of Ray, of the program and of the reference.
-/
import Derived.Test.YteedgcffdgkicaaMLineC
import Derived.Test.YteedgcffdgkicaaMSeries
import Derived.Deep.DeepCutAuto
namespace Go.Proofs.Yteedgcffdgkicaa
open Go.RowKit
set_option linter.unusedVariables false
set_option linter.unusedSimpArgs false
theorem ray_in {dist s : Int} (h1 : -8000000 ≤ dist) (h2 : dist ≤ 8000000) (h3 : -1073741824 ≤ s) (h4 : s ≤ 1073741824) :
    (-8589934592000000 ≤ dist * s ∧ dist * s ≤ 8589934592000000) ∧ (-8000001 ≤ rnd 2 (dist * s) 1073741824 ∧ rnd 2 (dist * s) 1073741824 ≤ 8000001) := by
  have e1 := Int.mul_nonneg (show 0 ≤ 8000000 - dist by omega) (show 0 ≤ 1073741824 - s by omega)
  have e2 := Int.mul_nonneg (show 0 ≤ 8000000 + dist by omega) (show 0 ≤ 1073741824 + s by omega)
  have e3 := Int.mul_nonneg (show 0 ≤ 8000000 - dist by omega) (show 0 ≤ 1073741824 + s by omega)
  have e4 := Int.mul_nonneg (show 0 ≤ 8000000 + dist by omega) (show 0 ≤ 1073741824 - s by omega)
  have f1 : (8000000 - dist) * (1073741824 - s) = 8000000 * 1073741824 - 8000000 * s - 1073741824 * dist + dist * s := by grind
  have f2 : (8000000 + dist) * (1073741824 + s) = 8000000 * 1073741824 + 8000000 * s + 1073741824 * dist + dist * s := by grind
  have f3 : (8000000 - dist) * (1073741824 + s) = 8000000 * 1073741824 + 8000000 * s - 1073741824 * dist - dist * s := by grind
  have f4 : (8000000 + dist) * (1073741824 - s) = 8000000 * 1073741824 - 8000000 * s + 1073741824 * dist - dist * s := by grind
  have r := rnd2_one (dist * s)
  generalize rnd 2 (dist * s) 1073741824 = q at *
  generalize dist * s = p at *
  omega
theorem ray_muldiv {dist s : Int} (h1 : -8000000 ≤ dist) (h2 : dist ≤ 8000000) (h3 : -1073741824 ≤ s) (h4 : s ≤ 1073741824) : muldiv 2 (dist * s) 1 1073741824 = (rnd 2 (dist * s) 1073741824, 0) := by
  have h := (ray_in h1 h2 h3 h4).2
  unfold muldiv
  rw [if_neg (by omega), Int.mul_one, if_pos]
  unfold in64
  generalize rnd 2 (dist * s) 1073741824 = q at *
  exact decide_eq_true (by omega)
set_option maxHeartbeats 2000000 in
theorem ray_any (px py course dist : Int) (hc : I64 course) (hd : I64 dist) (w : World) (R : Int × Int × Int) (hR : R = rayF px py course dist) :
    Calls Try.prog 65 #[.agg #[.int .i64 px, .int .i64 py], .int .i64 course, .int .i64 dist] w fun e w' => e = .returned (.tuple #[.agg #[.int .i64 R.1, .int .i64 R.2.1], .int .i64 R.2.2]) ∧ Below w.heap.size w w' := by
  unfold rayF at hR
  rcases hv : vldB px py with _ | _
  · rw [hv, if_pos (by simp)] at hR
    subst hR
    have HV := hide hv
    clear hv
    go_enter Try.func65, Try.ntmps65
    go_wp2_with fail
    refine (pvalid_c px py false HV.out _).mono ?_
    rintro e w1 ⟨rfl, rfl⟩
    go_wp2_with fail
    exact bodyPost_ret (v := .tuple #[.agg #[.int .i64 0, .int .i64 0], .int .i64 1]) (by simp [results, Try.results65, go_sem, *]) rfl ⟨rfl, by (repeat (with_reducible (first | assumption | exact Below.refl _ _ | refine Below.drew ?_ | refine below_drewN ?_ _ | refine below_set ?_ (by simp; try omega) _ | refine below_alloc ?_ (Nat.le_refl _) _ | refine below_sub (by assumption) ?_)))⟩
  rw [hv, if_neg (by simp)] at hR
  have HV := hide hv
  have b1 := vldB_bd hv
  clear hv
  by_cases h2 : dist > 8000000 ∨ dist < -8000000
  · rw [if_pos h2] at hR
    subst hR
    have T : dist > 8000000 ∨ (¬ dist > 8000000 ∧ dist < -8000000) := by omega
    clear h2
    rcases T with t1 | ⟨t1, t2⟩
    all_goals
      go_enter Try.func65, Try.ntmps65
      go_wp2_with fail
      refine (pvalid_c px py true HV.out _).mono ?_
      rintro e w1 ⟨rfl, rfl⟩
      go_wp2_with fail
      exact bodyPost_ret (v := .tuple #[.agg #[.int .i64 0, .int .i64 0], .int .i64 2]) (by simp [results, Try.results65, go_sem, *]) rfl ⟨rfl, by (repeat (with_reducible (first | assumption | exact Below.refl _ _ | refine Below.drew ?_ | refine below_drewN ?_ _ | refine below_set ?_ (by simp; try omega) _ | refine below_alloc ?_ (Nat.le_refl _) _ | refine below_sub (by assumption) ?_)))⟩
  rw [if_neg h2] at hR
  unfold rayX rayY at hR
  have h3 : -8000000 ≤ dist := by omega
  have h4 : dist ≤ 8000000 := by omega
  have sb := Sin_bd course
  have cb := Cos_bd course
  have SC := fun w => Sin_any course hc w
  have CC := fun w => Cos_any course hc w
  have s1 := ray_in h3 h4 sb.1 sb.2
  have s2 := ray_in h3 h4 cb.1 cb.2
  have RX := fun w => round_any (dist * Sin course) 1073741824 (by unfold I64; omega) (by unfold I64; omega) w
  have RY := fun w => round_any (dist * Cos course) 1073741824 (by unfold I64; omega) (by unfold I64; omega) w
  rw [ray_muldiv h3 h4 sb.1 sb.2] at RX
  rw [ray_muldiv h3 h4 cb.1 cb.2] at RY
  clear h2
  generalize Sin course = s at *
  generalize Cos course = c at *
  generalize rnd 2 (dist * s) 1073741824 = X at *
  generalize rnd 2 (dist * c) 1073741824 = Y at *
  obtain ⟨⟨p1, p2⟩, q1, q2⟩ := s1
  obtain ⟨⟨p3, p4⟩, q3, q4⟩ := s2
  rcases hw : vldB (px + X) (py + Y) with _ | _
  all_goals
    rw [hw] at hR
    have HW := hide hw
    clear hw
  · rw [if_neg (by simp)] at hR
    subst hR
    go_enter Try.func65, Try.ntmps65
    go_wp2_with fail
    refine (pvalid_c px py true HV.out _).mono ?_
    rintro e w1 ⟨rfl, rfl⟩
    go_wp2_with fail
    go_wp2_with (first
      | (go_at_call 76; refine (SC _).mono ?_; rintro e w' ⟨rfl, rfl⟩)
      | (go_at_call 77; refine (CC _).mono ?_; rintro e w' ⟨rfl, rfl⟩)
      | (go_at_call_of 58 (Value.int IntKind.i64 (dist * s)); refine (RX _).mono ?_; rintro e w' ⟨rfl, n, rfl⟩)
      | (go_at_call_of 58 (Value.int IntKind.i64 (dist * c)); refine (RY _).mono ?_; rintro e w' ⟨rfl, n, rfl⟩)
      | (go_at_call 47; refine (pvalid_c _ _ _ HW.out _).mono ?_; rintro e w' ⟨rfl, rfl⟩))
    exact bodyPost_ret (v := .tuple #[.agg #[.int .i64 0, .int .i64 0], .int .i64 2]) (by simp [results, Try.results65, go_sem, *]) rfl ⟨rfl, by (repeat (with_reducible (first | assumption | exact Below.refl _ _ | refine Below.drew ?_ | refine below_drewN ?_ _ | refine below_set ?_ (by simp; try omega) _ | refine below_alloc ?_ (Nat.le_refl _) _ | refine below_sub (by assumption) ?_)))⟩
  · rw [if_pos rfl] at hR
    subst hR
    go_enter Try.func65, Try.ntmps65
    go_wp2_with fail
    refine (pvalid_c px py true HV.out _).mono ?_
    rintro e w1 ⟨rfl, rfl⟩
    go_wp2_with fail
    go_wp2_with (first
      | (go_at_call 76; refine (SC _).mono ?_; rintro e w' ⟨rfl, rfl⟩)
      | (go_at_call 77; refine (CC _).mono ?_; rintro e w' ⟨rfl, rfl⟩)
      | (go_at_call_of 58 (Value.int IntKind.i64 (dist * s)); refine (RX _).mono ?_; rintro e w' ⟨rfl, n, rfl⟩)
      | (go_at_call_of 58 (Value.int IntKind.i64 (dist * c)); refine (RY _).mono ?_; rintro e w' ⟨rfl, n, rfl⟩)
      | (go_at_call 47; refine (pvalid_c _ _ _ HW.out _).mono ?_; rintro e w' ⟨rfl, rfl⟩))
    exact bodyPost_ret (v := .tuple #[.agg #[.int .i64 (px + X), .int .i64 (py + Y)], .int .i64 0]) (by simp [results, Try.results65, go_sem, *]) rfl ⟨rfl, by (repeat (with_reducible (first | assumption | exact Below.refl _ _ | refine Below.drew ?_ | refine below_drewN ?_ _ | refine below_set ?_ (by simp; try omega) _ | refine below_alloc ?_ (Nat.le_refl _) _ | refine below_sub (by assumption) ?_)))⟩
set_option maxHeartbeats 2000000 in
theorem rray_any (px py course dist : Int) (hc : I64 course) (hd : I64 dist) (w : World) (R : Int × Int × Int) (hR : R = rayF px py course dist) :
    Calls Try.prog 68 #[.agg #[.int .i64 px, .int .i64 py], .int .i64 course, .int .i64 dist] w fun e w' => e = .returned (.tuple #[.agg #[.int .i64 R.1, .int .i64 R.2.1], .int .i64 R.2.2]) ∧ Below w.heap.size w w' := by
  unfold rayF at hR
  rcases hv : vldB px py with _ | _
  · rw [hv, if_pos (by simp)] at hR
    subst hR
    have HV := hide hv
    clear hv
    go_enter Try.func68, Try.ntmps68
    go_wp2_with fail
    refine (rpvalid_c px py false HV.out _).mono ?_
    rintro e w1 ⟨rfl, rfl⟩
    go_wp2_with fail
    exact bodyPost_ret (v := .tuple #[.agg #[.int .i64 0, .int .i64 0], .int .i64 1]) (by simp [results, Try.results68, go_sem, *]) rfl ⟨rfl, by (repeat (with_reducible (first | assumption | exact Below.refl _ _ | refine Below.drew ?_ | refine below_drewN ?_ _ | refine below_set ?_ (by simp; try omega) _ | refine below_alloc ?_ (Nat.le_refl _) _ | refine below_sub (by assumption) ?_)))⟩
  rw [hv, if_neg (by simp)] at hR
  have HV := hide hv
  have b1 := vldB_bd hv
  clear hv
  by_cases h2 : dist > 8000000 ∨ dist < -8000000
  · rw [if_pos h2] at hR
    subst hR
    have T : dist > 8000000 ∨ (¬ dist > 8000000 ∧ dist < -8000000) := by omega
    clear h2
    rcases T with t1 | ⟨t1, t2⟩
    all_goals
      go_enter Try.func68, Try.ntmps68
      go_wp2_with fail
      refine (rpvalid_c px py true HV.out _).mono ?_
      rintro e w1 ⟨rfl, rfl⟩
      go_wp2_with fail
      exact bodyPost_ret (v := .tuple #[.agg #[.int .i64 0, .int .i64 0], .int .i64 2]) (by simp [results, Try.results68, go_sem, *]) rfl ⟨rfl, by (repeat (with_reducible (first | assumption | exact Below.refl _ _ | refine Below.drew ?_ | refine below_drewN ?_ _ | refine below_set ?_ (by simp; try omega) _ | refine below_alloc ?_ (Nat.le_refl _) _ | refine below_sub (by assumption) ?_)))⟩
  rw [if_neg h2] at hR
  unfold rayX rayY at hR
  have h3 : -8000000 ≤ dist := by omega
  have h4 : dist ≤ 8000000 := by omega
  have sb := Sin_bd course
  have cb := Cos_bd course
  have SC := fun w => rSin_any course hc w
  have CC := fun w => rCos_any course hc w
  have s1 := ray_in h3 h4 sb.1 sb.2
  have s2 := ray_in h3 h4 cb.1 cb.2
  have RX := fun w => rround_any (dist * Sin course) 1073741824 (by unfold I64; omega) (by unfold I64; omega) w
  have RY := fun w => rround_any (dist * Cos course) 1073741824 (by unfold I64; omega) (by unfold I64; omega) w
  rw [ray_muldiv h3 h4 sb.1 sb.2] at RX
  rw [ray_muldiv h3 h4 cb.1 cb.2] at RY
  clear h2
  generalize Sin course = s at *
  generalize Cos course = c at *
  generalize rnd 2 (dist * s) 1073741824 = X at *
  generalize rnd 2 (dist * c) 1073741824 = Y at *
  obtain ⟨⟨p1, p2⟩, q1, q2⟩ := s1
  obtain ⟨⟨p3, p4⟩, q3, q4⟩ := s2
  rcases hw : vldB (px + X) (py + Y) with _ | _
  all_goals
    rw [hw] at hR
    have HW := hide hw
    clear hw
  · rw [if_neg (by simp)] at hR
    subst hR
    go_enter Try.func68, Try.ntmps68
    go_wp2_with fail
    refine (rpvalid_c px py true HV.out _).mono ?_
    rintro e w1 ⟨rfl, rfl⟩
    go_wp2_with fail
    go_wp2_with (first
      | (go_at_call 81; refine (SC _).mono ?_; rintro e w' ⟨rfl, rfl⟩)
      | (go_at_call 82; refine (CC _).mono ?_; rintro e w' ⟨rfl, rfl⟩)
      | (go_at_call_of 60 (Value.int IntKind.i64 (dist * s)); refine (RX _).mono ?_; rintro e w' ⟨rfl, n, rfl⟩)
      | (go_at_call_of 60 (Value.int IntKind.i64 (dist * c)); refine (RY _).mono ?_; rintro e w' ⟨rfl, n, rfl⟩)
      | (go_at_call 57; refine (rpvalid_c _ _ _ HW.out _).mono ?_; rintro e w' ⟨rfl, rfl⟩))
    exact bodyPost_ret (v := .tuple #[.agg #[.int .i64 0, .int .i64 0], .int .i64 2]) (by simp [results, Try.results68, go_sem, *]) rfl ⟨rfl, by (repeat (with_reducible (first | assumption | exact Below.refl _ _ | refine Below.drew ?_ | refine below_drewN ?_ _ | refine below_set ?_ (by simp; try omega) _ | refine below_alloc ?_ (Nat.le_refl _) _ | refine below_sub (by assumption) ?_)))⟩
  · rw [if_pos rfl] at hR
    subst hR
    go_enter Try.func68, Try.ntmps68
    go_wp2_with fail
    refine (rpvalid_c px py true HV.out _).mono ?_
    rintro e w1 ⟨rfl, rfl⟩
    go_wp2_with fail
    go_wp2_with (first
      | (go_at_call 81; refine (SC _).mono ?_; rintro e w' ⟨rfl, rfl⟩)
      | (go_at_call 82; refine (CC _).mono ?_; rintro e w' ⟨rfl, rfl⟩)
      | (go_at_call_of 60 (Value.int IntKind.i64 (dist * s)); refine (RX _).mono ?_; rintro e w' ⟨rfl, n, rfl⟩)
      | (go_at_call_of 60 (Value.int IntKind.i64 (dist * c)); refine (RY _).mono ?_; rintro e w' ⟨rfl, n, rfl⟩)
      | (go_at_call 57; refine (rpvalid_c _ _ _ HW.out _).mono ?_; rintro e w' ⟨rfl, rfl⟩))
    exact bodyPost_ret (v := .tuple #[.agg #[.int .i64 (px + X), .int .i64 (py + Y)], .int .i64 0]) (by simp [results, Try.results68, go_sem, *]) rfl ⟨rfl, by (repeat (with_reducible (first | assumption | exact Below.refl _ _ | refine Below.drew ?_ | refine below_drewN ?_ _ | refine below_set ?_ (by simp; try omega) _ | refine below_alloc ?_ (Nat.le_refl _) _ | refine below_sub (by assumption) ?_)))⟩
end Go.Proofs.Yteedgcffdgkicaa

/-
  The walks of Past, of the program and of the reference.
-/
namespace Go.Proofs.Yteedgcffdgkicaa
open Go.RowKit
set_option linter.unusedVariables false
set_option linter.unusedSimpArgs false
theorem wi {x : Int} (h1 : -9223372036854775808 ≤ x) (h2 : x ≤ 9223372036854775807) : IntKind.i64.wrap x = x := IntWalk.i64_in _ (by omega)
theorem prod_sc {a s : Int} (h1 : -4000000 ≤ a) (h2 : a ≤ 4000000) (h3 : -1073741824 ≤ s) (h4 : s ≤ 1073741824) : -4294967296000000 ≤ a * s ∧ a * s ≤ 4294967296000000 := by
  have e1 := Int.mul_nonneg (show 0 ≤ 4000000 - a by omega) (show 0 ≤ 1073741824 - s by omega)
  have e2 := Int.mul_nonneg (show 0 ≤ 4000000 + a by omega) (show 0 ≤ 1073741824 + s by omega)
  have e3 := Int.mul_nonneg (show 0 ≤ 4000000 - a by omega) (show 0 ≤ 1073741824 + s by omega)
  have e4 := Int.mul_nonneg (show 0 ≤ 4000000 + a by omega) (show 0 ≤ 1073741824 - s by omega)
  have f1 : (4000000 - a) * (1073741824 - s) = 4000000 * 1073741824 - 4000000 * s - 1073741824 * a + a * s := by grind
  have f2 : (4000000 + a) * (1073741824 + s) = 4000000 * 1073741824 + 4000000 * s + 1073741824 * a + a * s := by grind
  have f3 : (4000000 - a) * (1073741824 + s) = 4000000 * 1073741824 + 4000000 * s - 1073741824 * a - a * s := by grind
  have f4 : (4000000 + a) * (1073741824 - s) = 4000000 * 1073741824 - 4000000 * s + 1073741824 * a - a * s := by grind
  generalize a * s = p at *
  omega
theorem courseF_bd (ax ay bx b_y : Int) : 0 ≤ (courseF ax ay bx b_y).1 ∧ (courseF ax ay bx b_y).1 < 129600000 := by
  unfold courseF
  split
  · decide
  · split
    · decide
    · exact atan2F_bd _ _
theorem courseF_ok {ax ay bx b_y : Int} (h : (courseF ax ay bx b_y).2 = 0) : vldB ax ay = true ∧ vldB bx b_y = true := by
  unfold courseF at h
  by_cases hv : (vldB ax ay && vldB bx b_y) = true
  · simpa using hv
  · rw [if_pos (by rw [show (vldB ax ay && vldB bx b_y) = false from by simpa using hv]; rfl)] at h
    exact absurd h (fun h => by cases h)
theorem midF_in (a b : Int) : I64 (midF a b) := by
  have := turnF_bd a (diffF a b / 2)
  unfold midF I64
  omega
theorem pastF_no {ax ay bx b_y cx cy px py x e y f : Int} (h1 : courseF ax ay bx b_y = (x, e)) (h2 : courseF bx b_y cx cy = (y, f)) (h : ¬ (e = 0 ∧ f = 0 ∧ vldB px py = true)) : pastF ax ay bx b_y cx cy px py = false := by
  unfold pastF
  rw [h1, h2, if_neg h]
theorem pastF_yes {ax ay bx b_y cx cy px py x e y f : Int} (h1 : courseF ax ay bx b_y = (x, e)) (h2 : courseF bx b_y cx cy = (y, f)) (h : e = 0 ∧ f = 0 ∧ vldB px py = true) : pastF ax ay bx b_y cx cy px py = decide (0 < (px - bx) * Sin (midF x y) + (py - b_y) * Cos (midF x y)) := by
  unfold pastF
  rw [h1, h2, if_pos h]
theorem pvalid_e (x y : Int) (v : Bool) (h : vldB x y = v) (w : World) : Calls Try.prog 47 #[.agg #[.int .i64 x, .int .i64 y]] w fun e w' => e = .returned (.bool v) ∧ Below w.heap.size w w' := by
  rw [← h]; exact pvalid_b x y w
set_option maxHeartbeats 2000000 in
theorem past_any (ax ay bx b_y cx cy px py : Int) (w : World) (R : Bool) (hR : R = pastF ax ay bx b_y cx cy px py) :
    Calls Try.prog 55 #[.agg #[.int .i64 ax, .int .i64 ay], .agg #[.int .i64 bx, .int .i64 b_y], .agg #[.int .i64 cx, .int .i64 cy], .agg #[.int .i64 px, .int .i64 py]] w fun e w' => e = .returned (.bool R) ∧ Below w.heap.size w w' := by
  have C1 := fun w => course_any ax ay bx b_y w
  have C2 := fun w => course_any bx b_y cx cy w
  have xb := courseF_bd ax ay bx b_y
  have yb := courseF_bd bx b_y cx cy
  have ok1 := courseF_ok (ax := ax) (ay := ay) (bx := bx) (b_y := b_y)
  obtain ⟨c1, h1⟩ : ∃ c, c = courseF ax ay bx b_y := ⟨_, rfl⟩
  obtain ⟨c2, h2⟩ : ∃ c, c = courseF bx b_y cx cy := ⟨_, rfl⟩
  rw [← h1] at C1 xb ok1
  rw [← h2] at C2 yb
  obtain ⟨x, e⟩ := c1
  obtain ⟨y, f⟩ := c2
  by_cases hno : ¬ (e = 0 ∧ f = 0 ∧ vldB px py = true)
  · rw [pastF_no h1.symm h2.symm hno] at hR
    subst hR
    clear h1 h2 ok1
    by_cases he : e = 0
    · subst he
      by_cases hf : f = 0
      · subst hf
        have HV : Hid (vldB px py = false) := hide (by simpa using hno)
        clear hno
        go_enter Try.func55, Try.ntmps55
        go_wp2_with fail
        refine (C1 _).mono ?_
        rintro e w1 ⟨rfl, hb⟩
        have k_0 := cell_below hb (b := w.heap.size) (o := 0) (v := .int .i64 ax) (by simp [go_sem])
        have k_1 := cell_below hb (b := w.heap.size) (o := 1) (v := .int .i64 ay) (by simp [go_sem])
        have k_2 := cell_below hb (b := w.heap.size + 1) (o := 0) (v := .int .i64 bx) (by simp [go_sem])
        have k_3 := cell_below hb (b := w.heap.size + 1) (o := 1) (v := .int .i64 b_y) (by simp [go_sem])
        have k_4 := cell_below hb (b := w.heap.size + 1 + 1) (o := 0) (v := .int .i64 cx) (by simp [go_sem])
        have k_5 := cell_below hb (b := w.heap.size + 1 + 1) (o := 1) (v := .int .i64 cy) (by simp [go_sem])
        have k_6 := cell_below hb (b := w.heap.size + 1 + 1 + 1) (o := 0) (v := .int .i64 px) (by simp [go_sem])
        have k_7 := cell_below hb (b := w.heap.size + 1 + 1 + 1) (o := 1) (v := .int .i64 py) (by simp [go_sem])
        go_wp2_with fail
        refine (C2 _).mono ?_
        rintro e w2 ⟨rfl, hb2⟩
        have l_0 := cell_below hb2 k_0
        have l_1 := cell_below hb2 k_1
        have l_2 := cell_below hb2 k_2
        have l_3 := cell_below hb2 k_3
        have l_4 := cell_below hb2 k_4
        have l_5 := cell_below hb2 k_5
        have l_6 := cell_below hb2 k_6
        have l_7 := cell_below hb2 k_7
        go_wp2_with fail
        refine (pvalid_e _ _ _ HV.out _).mono ?_
        rintro e w3 ⟨rfl, hb3⟩
        have m_0 := cell_below hb3 l_0
        have m_1 := cell_below hb3 l_1
        have m_2 := cell_below hb3 l_2
        have m_3 := cell_below hb3 l_3
        have m_4 := cell_below hb3 l_4
        have m_5 := cell_below hb3 l_5
        have m_6 := cell_below hb3 l_6
        have m_7 := cell_below hb3 l_7
        go_wp2_with fail
        go_ret
        exact ⟨rfl, by (repeat (with_reducible (first | assumption | exact Below.refl _ _ | refine Below.drew ?_ | refine below_drewN ?_ _ | refine below_set ?_ (by simp; try omega) _ | refine below_alloc ?_ (Nat.le_refl _) _ | refine below_sub (by assumption) ?_)))⟩
      · have t2 : (f != 0) = true := by rw [bne_iff_ne]; exact hf
        clear hf hno
        go_enter Try.func55, Try.ntmps55
        go_wp2_with fail
        refine (C1 _).mono ?_
        rintro e w1 ⟨rfl, hb⟩
        have k_0 := cell_below hb (b := w.heap.size) (o := 0) (v := .int .i64 ax) (by simp [go_sem])
        have k_1 := cell_below hb (b := w.heap.size) (o := 1) (v := .int .i64 ay) (by simp [go_sem])
        have k_2 := cell_below hb (b := w.heap.size + 1) (o := 0) (v := .int .i64 bx) (by simp [go_sem])
        have k_3 := cell_below hb (b := w.heap.size + 1) (o := 1) (v := .int .i64 b_y) (by simp [go_sem])
        have k_4 := cell_below hb (b := w.heap.size + 1 + 1) (o := 0) (v := .int .i64 cx) (by simp [go_sem])
        have k_5 := cell_below hb (b := w.heap.size + 1 + 1) (o := 1) (v := .int .i64 cy) (by simp [go_sem])
        have k_6 := cell_below hb (b := w.heap.size + 1 + 1 + 1) (o := 0) (v := .int .i64 px) (by simp [go_sem])
        have k_7 := cell_below hb (b := w.heap.size + 1 + 1 + 1) (o := 1) (v := .int .i64 py) (by simp [go_sem])
        go_wp2_with fail
        refine (C2 _).mono ?_
        rintro e w2 ⟨rfl, hb2⟩
        have l_0 := cell_below hb2 k_0
        have l_1 := cell_below hb2 k_1
        have l_2 := cell_below hb2 k_2
        have l_3 := cell_below hb2 k_3
        have l_4 := cell_below hb2 k_4
        have l_5 := cell_below hb2 k_5
        have l_6 := cell_below hb2 k_6
        have l_7 := cell_below hb2 k_7
        go_wp2_with fail
        go_ret
        exact ⟨rfl, by (repeat (with_reducible (first | assumption | exact Below.refl _ _ | refine Below.drew ?_ | refine below_drewN ?_ _ | refine below_set ?_ (by simp; try omega) _ | refine below_alloc ?_ (Nat.le_refl _) _ | refine below_sub (by assumption) ?_)))⟩
    · have t1 : (e != 0) = true := by rw [bne_iff_ne]; exact he
      clear he hno
      go_enter Try.func55, Try.ntmps55
      go_wp2_with fail
      refine (C1 _).mono ?_
      rintro e w1 ⟨rfl, hb⟩
      have k_0 := cell_below hb (b := w.heap.size) (o := 0) (v := .int .i64 ax) (by simp [go_sem])
      have k_1 := cell_below hb (b := w.heap.size) (o := 1) (v := .int .i64 ay) (by simp [go_sem])
      have k_2 := cell_below hb (b := w.heap.size + 1) (o := 0) (v := .int .i64 bx) (by simp [go_sem])
      have k_3 := cell_below hb (b := w.heap.size + 1) (o := 1) (v := .int .i64 b_y) (by simp [go_sem])
      have k_4 := cell_below hb (b := w.heap.size + 1 + 1) (o := 0) (v := .int .i64 cx) (by simp [go_sem])
      have k_5 := cell_below hb (b := w.heap.size + 1 + 1) (o := 1) (v := .int .i64 cy) (by simp [go_sem])
      have k_6 := cell_below hb (b := w.heap.size + 1 + 1 + 1) (o := 0) (v := .int .i64 px) (by simp [go_sem])
      have k_7 := cell_below hb (b := w.heap.size + 1 + 1 + 1) (o := 1) (v := .int .i64 py) (by simp [go_sem])
      go_wp2_with fail
      refine (C2 _).mono ?_
      rintro e w2 ⟨rfl, hb2⟩
      have l_0 := cell_below hb2 k_0
      have l_1 := cell_below hb2 k_1
      have l_2 := cell_below hb2 k_2
      have l_3 := cell_below hb2 k_3
      have l_4 := cell_below hb2 k_4
      have l_5 := cell_below hb2 k_5
      have l_6 := cell_below hb2 k_6
      have l_7 := cell_below hb2 k_7
      go_wp2_with fail
      go_ret
      exact ⟨rfl, by (repeat (with_reducible (first | assumption | exact Below.refl _ _ | refine Below.drew ?_ | refine below_drewN ?_ _ | refine below_set ?_ (by simp; try omega) _ | refine below_alloc ?_ (Nat.le_refl _) _ | refine below_sub (by assumption) ?_)))⟩
  · have hy := Decidable.of_not_not hno
    rw [pastF_yes h1.symm h2.symm hy] at hR
    obtain ⟨rfl, rfl, hv⟩ := hy
    have b2 := vldB_bd (ok1 rfl).2
    have b4 := vldB_bd hv
    have HV := hide hv
    clear h1 h2 ok1 hno hv
    have MC := fun w => middle_any x y (by unfold I64; omega) (by unfold I64; omega) w
    have mi := midF_in x y
    generalize midF x y = m at *
    have sb := Sin_bd m
    have cb := Cos_bd m
    have SC := fun w => Sin_any m mi w
    have CC := fun w => Cos_any m mi w
    generalize Sin m = s at *
    generalize Cos m = c at *
    have p1 := prod_sc (a := px - bx) (s := s) (by omega) (by omega) (by omega) (by omega)
    have p2 := prod_sc (a := py - b_y) (s := c) (by omega) (by omega) (by omega) (by omega)
    obtain ⟨p11, p12⟩ := p1
    obtain ⟨p21, p22⟩ := p2
    have HR := hide hR
    clear hR
    go_enter Try.func55, Try.ntmps55
    go_wp2_with fail
    refine (C1 _).mono ?_
    rintro e w1 ⟨rfl, hb⟩
    have k_0 := cell_below hb (b := w.heap.size) (o := 0) (v := .int .i64 ax) (by simp [go_sem])
    have k_1 := cell_below hb (b := w.heap.size) (o := 1) (v := .int .i64 ay) (by simp [go_sem])
    have k_2 := cell_below hb (b := w.heap.size + 1) (o := 0) (v := .int .i64 bx) (by simp [go_sem])
    have k_3 := cell_below hb (b := w.heap.size + 1) (o := 1) (v := .int .i64 b_y) (by simp [go_sem])
    have k_4 := cell_below hb (b := w.heap.size + 1 + 1) (o := 0) (v := .int .i64 cx) (by simp [go_sem])
    have k_5 := cell_below hb (b := w.heap.size + 1 + 1) (o := 1) (v := .int .i64 cy) (by simp [go_sem])
    have k_6 := cell_below hb (b := w.heap.size + 1 + 1 + 1) (o := 0) (v := .int .i64 px) (by simp [go_sem])
    have k_7 := cell_below hb (b := w.heap.size + 1 + 1 + 1) (o := 1) (v := .int .i64 py) (by simp [go_sem])
    go_wp2_with fail
    refine (C2 _).mono ?_
    rintro e w2 ⟨rfl, hb2⟩
    have l_0 := cell_below hb2 k_0
    have l_1 := cell_below hb2 k_1
    have l_2 := cell_below hb2 k_2
    have l_3 := cell_below hb2 k_3
    have l_4 := cell_below hb2 k_4
    have l_5 := cell_below hb2 k_5
    have l_6 := cell_below hb2 k_6
    have l_7 := cell_below hb2 k_7
    go_wp2_with fail
    refine (pvalid_e _ _ _ HV.out _).mono ?_
    rintro e w3 ⟨rfl, hb3⟩
    have m_0 := cell_below hb3 l_0
    have m_1 := cell_below hb3 l_1
    have m_2 := cell_below hb3 l_2
    have m_3 := cell_below hb3 l_3
    have m_4 := cell_below hb3 l_4
    have m_5 := cell_below hb3 l_5
    have m_6 := cell_below hb3 l_6
    have m_7 := cell_below hb3 l_7
    go_wp2_with fail
    refine (MC _).mono ?_
    rintro e w' ⟨rfl, rfl⟩
    go_wp2_with fail
    refine (vector_b bx b_y px py (by omega) (by omega) (by omega) (by omega) _).mono ?_
    rintro e w4 ⟨rfl, hb4⟩
    go_wp2_with fail
    go_region_held3 (fun w' => w'.cell? ⟨w4.heap.size, 0, none⟩ = some (.int .i64 (px - bx)) ∧ w'.cell? ⟨w4.heap.size, 1, none⟩ = some (.int .i64 (py - b_y))) ((go_split_ands; refine ⟨?_, ?_⟩ <;> (repeat (first | (with_reducible assumption) | (with_reducible refine cell_drew ?_) | (with_reducible refine cell_drewN ?_ _) | (with_reducible refine cell_below (by assumption) ?_) | ((with_reducible refine cell_new ?_ ?_); (· (simp; done)); (· rfl)) | (with_reducible refine cell_alloc ?_ _) | ((with_reducible refine cell_set ?_ ?_ _); (· first | (simp; done) | (simp; omega) | omega))))))
      (first
        | (go_at_call 76; refine (SC _).mono ?_; rintro e w' ⟨rfl, rfl⟩)
        | (go_at_call 77; refine (CC _).mono ?_; rintro e w' ⟨rfl, rfl⟩))
    all_goals
      go_wp2_with fail
      go_ret
      refine ⟨ret_bool ?_, by (repeat (with_reducible (first | assumption | exact Below.refl _ _ | refine Below.drew ?_ | refine below_drewN ?_ _ | refine below_set ?_ (by simp; try omega) _ | refine below_alloc ?_ (Nat.le_refl _) _ | refine below_sub (by assumption) ?_)))⟩
      have u1 := wi (x := px - bx) (by omega) (by omega)
      have u2 := wi (x := py - b_y) (by omega) (by omega)
      have u3 := wi (x := (px - bx) * s) (by omega) (by omega)
      have u4 := wi (x := (py - b_y) * c) (by omega) (by omega)
      have u5 := wi (x := (px - bx) * s + (py - b_y) * c) (by omega) (by omega)
      rw [HR.out]
      simp only [u1, u2, u3, u4, u5]
set_option maxHeartbeats 2000000 in
theorem rpast_any (ax ay bx b_y cx cy px py : Int) (w : World) (R : Bool) (hR : R = pastF ax ay bx b_y cx cy px py) :
    Calls Try.prog 56 #[.agg #[.int .i64 ax, .int .i64 ay], .agg #[.int .i64 bx, .int .i64 b_y], .agg #[.int .i64 cx, .int .i64 cy], .agg #[.int .i64 px, .int .i64 py]] w fun e w' => e = .returned (.bool R) ∧ Below w.heap.size w w' := by
  have C1 := fun w => rcourse_any ax ay bx b_y w
  have C2 := fun w => rcourse_any bx b_y cx cy w
  have xb := courseF_bd ax ay bx b_y
  have yb := courseF_bd bx b_y cx cy
  have ok1 := courseF_ok (ax := ax) (ay := ay) (bx := bx) (b_y := b_y)
  obtain ⟨c1, h1⟩ : ∃ c, c = courseF ax ay bx b_y := ⟨_, rfl⟩
  obtain ⟨c2, h2⟩ : ∃ c, c = courseF bx b_y cx cy := ⟨_, rfl⟩
  rw [← h1] at C1 xb ok1
  rw [← h2] at C2 yb
  obtain ⟨x, e⟩ := c1
  obtain ⟨y, f⟩ := c2
  by_cases hno : ¬ (e = 0 ∧ f = 0 ∧ vldB px py = true)
  · rw [pastF_no h1.symm h2.symm hno] at hR
    subst hR
    clear h1 h2 ok1
    by_cases he : e = 0
    · subst he
      by_cases hf : f = 0
      · subst hf
        have HV : Hid (vldB px py = false) := hide (by simpa using hno)
        clear hno
        go_enter Try.func56, Try.ntmps56
        go_wp2_with fail
        refine (C1 _).mono ?_
        rintro e w1 ⟨rfl, hb⟩
        have k_0 := cell_below hb (b := w.heap.size) (o := 0) (v := .int .i64 ax) (by simp [go_sem])
        have k_1 := cell_below hb (b := w.heap.size) (o := 1) (v := .int .i64 ay) (by simp [go_sem])
        have k_2 := cell_below hb (b := w.heap.size + 1) (o := 0) (v := .int .i64 bx) (by simp [go_sem])
        have k_3 := cell_below hb (b := w.heap.size + 1) (o := 1) (v := .int .i64 b_y) (by simp [go_sem])
        have k_4 := cell_below hb (b := w.heap.size + 1 + 1) (o := 0) (v := .int .i64 cx) (by simp [go_sem])
        have k_5 := cell_below hb (b := w.heap.size + 1 + 1) (o := 1) (v := .int .i64 cy) (by simp [go_sem])
        have k_6 := cell_below hb (b := w.heap.size + 1 + 1 + 1) (o := 0) (v := .int .i64 px) (by simp [go_sem])
        have k_7 := cell_below hb (b := w.heap.size + 1 + 1 + 1) (o := 1) (v := .int .i64 py) (by simp [go_sem])
        go_wp2_with fail
        refine (C2 _).mono ?_
        rintro e w2 ⟨rfl, hb2⟩
        have l_0 := cell_below hb2 k_0
        have l_1 := cell_below hb2 k_1
        have l_2 := cell_below hb2 k_2
        have l_3 := cell_below hb2 k_3
        have l_4 := cell_below hb2 k_4
        have l_5 := cell_below hb2 k_5
        have l_6 := cell_below hb2 k_6
        have l_7 := cell_below hb2 k_7
        go_wp2_with fail
        refine (rpvalid_d _ _ _ HV.out _).mono ?_
        rintro e w3 ⟨rfl, hb3⟩
        have m_0 := cell_below hb3 l_0
        have m_1 := cell_below hb3 l_1
        have m_2 := cell_below hb3 l_2
        have m_3 := cell_below hb3 l_3
        have m_4 := cell_below hb3 l_4
        have m_5 := cell_below hb3 l_5
        have m_6 := cell_below hb3 l_6
        have m_7 := cell_below hb3 l_7
        go_wp2_with fail
        go_ret
        exact ⟨rfl, by (repeat (with_reducible (first | assumption | exact Below.refl _ _ | refine Below.drew ?_ | refine below_drewN ?_ _ | refine below_set ?_ (by simp; try omega) _ | refine below_alloc ?_ (Nat.le_refl _) _ | refine below_sub (by assumption) ?_)))⟩
      · have t2 : (f != 0) = true := by rw [bne_iff_ne]; exact hf
        clear hf hno
        go_enter Try.func56, Try.ntmps56
        go_wp2_with fail
        refine (C1 _).mono ?_
        rintro e w1 ⟨rfl, hb⟩
        have k_0 := cell_below hb (b := w.heap.size) (o := 0) (v := .int .i64 ax) (by simp [go_sem])
        have k_1 := cell_below hb (b := w.heap.size) (o := 1) (v := .int .i64 ay) (by simp [go_sem])
        have k_2 := cell_below hb (b := w.heap.size + 1) (o := 0) (v := .int .i64 bx) (by simp [go_sem])
        have k_3 := cell_below hb (b := w.heap.size + 1) (o := 1) (v := .int .i64 b_y) (by simp [go_sem])
        have k_4 := cell_below hb (b := w.heap.size + 1 + 1) (o := 0) (v := .int .i64 cx) (by simp [go_sem])
        have k_5 := cell_below hb (b := w.heap.size + 1 + 1) (o := 1) (v := .int .i64 cy) (by simp [go_sem])
        have k_6 := cell_below hb (b := w.heap.size + 1 + 1 + 1) (o := 0) (v := .int .i64 px) (by simp [go_sem])
        have k_7 := cell_below hb (b := w.heap.size + 1 + 1 + 1) (o := 1) (v := .int .i64 py) (by simp [go_sem])
        go_wp2_with fail
        refine (C2 _).mono ?_
        rintro e w2 ⟨rfl, hb2⟩
        have l_0 := cell_below hb2 k_0
        have l_1 := cell_below hb2 k_1
        have l_2 := cell_below hb2 k_2
        have l_3 := cell_below hb2 k_3
        have l_4 := cell_below hb2 k_4
        have l_5 := cell_below hb2 k_5
        have l_6 := cell_below hb2 k_6
        have l_7 := cell_below hb2 k_7
        go_wp2_with fail
        go_ret
        exact ⟨rfl, by (repeat (with_reducible (first | assumption | exact Below.refl _ _ | refine Below.drew ?_ | refine below_drewN ?_ _ | refine below_set ?_ (by simp; try omega) _ | refine below_alloc ?_ (Nat.le_refl _) _ | refine below_sub (by assumption) ?_)))⟩
    · have t1 : (e != 0) = true := by rw [bne_iff_ne]; exact he
      clear he hno
      go_enter Try.func56, Try.ntmps56
      go_wp2_with fail
      refine (C1 _).mono ?_
      rintro e w1 ⟨rfl, hb⟩
      have k_0 := cell_below hb (b := w.heap.size) (o := 0) (v := .int .i64 ax) (by simp [go_sem])
      have k_1 := cell_below hb (b := w.heap.size) (o := 1) (v := .int .i64 ay) (by simp [go_sem])
      have k_2 := cell_below hb (b := w.heap.size + 1) (o := 0) (v := .int .i64 bx) (by simp [go_sem])
      have k_3 := cell_below hb (b := w.heap.size + 1) (o := 1) (v := .int .i64 b_y) (by simp [go_sem])
      have k_4 := cell_below hb (b := w.heap.size + 1 + 1) (o := 0) (v := .int .i64 cx) (by simp [go_sem])
      have k_5 := cell_below hb (b := w.heap.size + 1 + 1) (o := 1) (v := .int .i64 cy) (by simp [go_sem])
      have k_6 := cell_below hb (b := w.heap.size + 1 + 1 + 1) (o := 0) (v := .int .i64 px) (by simp [go_sem])
      have k_7 := cell_below hb (b := w.heap.size + 1 + 1 + 1) (o := 1) (v := .int .i64 py) (by simp [go_sem])
      go_wp2_with fail
      refine (C2 _).mono ?_
      rintro e w2 ⟨rfl, hb2⟩
      have l_0 := cell_below hb2 k_0
      have l_1 := cell_below hb2 k_1
      have l_2 := cell_below hb2 k_2
      have l_3 := cell_below hb2 k_3
      have l_4 := cell_below hb2 k_4
      have l_5 := cell_below hb2 k_5
      have l_6 := cell_below hb2 k_6
      have l_7 := cell_below hb2 k_7
      go_wp2_with fail
      go_ret
      exact ⟨rfl, by (repeat (with_reducible (first | assumption | exact Below.refl _ _ | refine Below.drew ?_ | refine below_drewN ?_ _ | refine below_set ?_ (by simp; try omega) _ | refine below_alloc ?_ (Nat.le_refl _) _ | refine below_sub (by assumption) ?_)))⟩
  · have hy := Decidable.of_not_not hno
    rw [pastF_yes h1.symm h2.symm hy] at hR
    obtain ⟨rfl, rfl, hv⟩ := hy
    have b2 := vldB_bd (ok1 rfl).2
    have b4 := vldB_bd hv
    have HV := hide hv
    clear h1 h2 ok1 hno hv
    have MC := fun w => rmiddle_any x y (by unfold I64; omega) (by unfold I64; omega) w
    have mi := midF_in x y
    generalize midF x y = m at *
    have sb := Sin_bd m
    have cb := Cos_bd m
    have SC := fun w => rSin_any m mi w
    have CC := fun w => rCos_any m mi w
    generalize Sin m = s at *
    generalize Cos m = c at *
    have p1 := prod_sc (a := px - bx) (s := s) (by omega) (by omega) (by omega) (by omega)
    have p2 := prod_sc (a := py - b_y) (s := c) (by omega) (by omega) (by omega) (by omega)
    obtain ⟨p11, p12⟩ := p1
    obtain ⟨p21, p22⟩ := p2
    have HR := hide hR
    clear hR
    go_enter Try.func56, Try.ntmps56
    go_wp2_with fail
    refine (C1 _).mono ?_
    rintro e w1 ⟨rfl, hb⟩
    have k_0 := cell_below hb (b := w.heap.size) (o := 0) (v := .int .i64 ax) (by simp [go_sem])
    have k_1 := cell_below hb (b := w.heap.size) (o := 1) (v := .int .i64 ay) (by simp [go_sem])
    have k_2 := cell_below hb (b := w.heap.size + 1) (o := 0) (v := .int .i64 bx) (by simp [go_sem])
    have k_3 := cell_below hb (b := w.heap.size + 1) (o := 1) (v := .int .i64 b_y) (by simp [go_sem])
    have k_4 := cell_below hb (b := w.heap.size + 1 + 1) (o := 0) (v := .int .i64 cx) (by simp [go_sem])
    have k_5 := cell_below hb (b := w.heap.size + 1 + 1) (o := 1) (v := .int .i64 cy) (by simp [go_sem])
    have k_6 := cell_below hb (b := w.heap.size + 1 + 1 + 1) (o := 0) (v := .int .i64 px) (by simp [go_sem])
    have k_7 := cell_below hb (b := w.heap.size + 1 + 1 + 1) (o := 1) (v := .int .i64 py) (by simp [go_sem])
    go_wp2_with fail
    refine (C2 _).mono ?_
    rintro e w2 ⟨rfl, hb2⟩
    have l_0 := cell_below hb2 k_0
    have l_1 := cell_below hb2 k_1
    have l_2 := cell_below hb2 k_2
    have l_3 := cell_below hb2 k_3
    have l_4 := cell_below hb2 k_4
    have l_5 := cell_below hb2 k_5
    have l_6 := cell_below hb2 k_6
    have l_7 := cell_below hb2 k_7
    go_wp2_with fail
    refine (rpvalid_d _ _ _ HV.out _).mono ?_
    rintro e w3 ⟨rfl, hb3⟩
    have m_0 := cell_below hb3 l_0
    have m_1 := cell_below hb3 l_1
    have m_2 := cell_below hb3 l_2
    have m_3 := cell_below hb3 l_3
    have m_4 := cell_below hb3 l_4
    have m_5 := cell_below hb3 l_5
    have m_6 := cell_below hb3 l_6
    have m_7 := cell_below hb3 l_7
    go_wp2_with fail
    refine (MC _).mono ?_
    rintro e w' ⟨rfl, rfl⟩
    go_wp2_with fail
    go_region_held3 (fun w' => w'.cell? ⟨w.heap.size + 1, 0, none⟩ = some (.int .i64 bx) ∧ w'.cell? ⟨w.heap.size + 1, 1, none⟩ = some (.int .i64 b_y) ∧ w'.cell? ⟨w.heap.size + 1 + 1 + 1, 0, none⟩ = some (.int .i64 px) ∧ w'.cell? ⟨w.heap.size + 1 + 1 + 1, 1, none⟩ = some (.int .i64 py)) ((go_split_ands; refine ⟨?_, ?_, ?_, ?_⟩ <;> (repeat (first | (with_reducible assumption) | (with_reducible refine cell_drew ?_) | (with_reducible refine cell_drewN ?_ _) | (with_reducible refine cell_below (by assumption) ?_) | ((with_reducible refine cell_new ?_ ?_); (· (simp; done)); (· rfl)) | (with_reducible refine cell_alloc ?_ _) | ((with_reducible refine cell_set ?_ ?_ _); (· first | (simp; done) | (simp; omega) | omega))))))
      (first
        | (go_at_call 81; refine (SC _).mono ?_; rintro e w' ⟨rfl, rfl⟩)
        | (go_at_call 82; refine (CC _).mono ?_; rintro e w' ⟨rfl, rfl⟩))
    all_goals
      go_wp2_with fail
      go_ret
      refine ⟨ret_bool ?_, by (repeat (with_reducible (first | assumption | exact Below.refl _ _ | refine Below.drew ?_ | refine below_drewN ?_ _ | refine below_set ?_ (by simp; try omega) _ | refine below_alloc ?_ (Nat.le_refl _) _ | refine below_sub (by assumption) ?_)))⟩
      have u1 := wi (x := px - bx) (by omega) (by omega)
      have u2 := wi (x := py - b_y) (by omega) (by omega)
      have u3 := wi (x := (px - bx) * s) (by omega) (by omega)
      have u4 := wi (x := (py - b_y) * c) (by omega) (by omega)
      have u5 := wi (x := (px - bx) * s + (py - b_y) * c) (by omega) (by omega)
      rw [HR.out]
      simp only [u1, u2, u3, u4, u5]
end Go.Proofs.Yteedgcffdgkicaa

