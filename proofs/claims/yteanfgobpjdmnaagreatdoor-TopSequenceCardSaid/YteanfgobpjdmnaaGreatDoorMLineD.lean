/-
  The walks of Ray, of the program and of the reference.
-/
import Derived.Test.YteanfgobpjdmnaaGreatDoorMLineB
import Derived.Test.YteanfgobpjdmnaaGreatDoorMWi
import Derived.Test.YteanfgobpjdmnaaGreatDoorMWide
namespace Go.Proofs.YteanfgobpjdmnaaGreatDoor
open Go.RowKit
set_option linter.unusedVariables false
set_option linter.unusedSimpArgs false
theorem wP {dist s : Int} (h1 : -8000000 ≤ dist) (h2 : dist ≤ 8000000) (h3 : -1073741824 ≤ s) (h4 : s ≤ 1073741824) :
 (-8589934592000000 ≤ dist * s ∧ dist * s ≤ 8589934592000000) ∧ (-8000001 ≤ jG 2 (dist * s) 1073741824 ∧ jG 2 (dist * s) 1073741824 ≤ 8000001) := by
 have e1 := Int.mul_nonneg (show 0 ≤ 8000000 - dist by omega) (show 0 ≤ 1073741824 - s by omega)
 have e2 := Int.mul_nonneg (show 0 ≤ 8000000 + dist by omega) (show 0 ≤ 1073741824 + s by omega)
 have e3 := Int.mul_nonneg (show 0 ≤ 8000000 - dist by omega) (show 0 ≤ 1073741824 + s by omega)
 have e4 := Int.mul_nonneg (show 0 ≤ 8000000 + dist by omega) (show 0 ≤ 1073741824 - s by omega)
 have f1 : (8000000 - dist) * (1073741824 - s) = 8000000 * 1073741824 - 8000000 * s - 1073741824 * dist + dist * s := by grind
 have f2 : (8000000 + dist) * (1073741824 + s) = 8000000 * 1073741824 + 8000000 * s + 1073741824 * dist + dist * s := by grind
 have f3 : (8000000 - dist) * (1073741824 + s) = 8000000 * 1073741824 + 8000000 * s - 1073741824 * dist - dist * s := by grind
 have f4 : (8000000 + dist) * (1073741824 - s) = 8000000 * 1073741824 - 8000000 * s + 1073741824 * dist - dist * s := by grind
 have r := zO (dist * s)
 generalize jG 2 (dist * s) 1073741824 = q at *
 generalize dist * s = p at *
 omega
theorem VB {dist s : Int} (h1 : -8000000 ≤ dist) (h2 : dist ≤ 8000000) (h3 : -1073741824 ≤ s) (h4 : s ≤ 1073741824) : qM 2 (dist * s) 1 1073741824 = (jG 2 (dist * s) 1073741824, 0) := by
 have h := (wP h1 h2 h3 h4).2
 unfold qM
 rw [if_neg (by omega), Int.mul_one, if_pos]
 unfold Zj
 generalize jG 2 (dist * s) 1073741824 = q at *
 exact decide_eq_true (by omega)
set_option maxHeartbeats 2000000 in
theorem jp (px py course dist : Int) (hc : qH course) (hd : qH dist) (w : World) (R : Int × Int × Int) (hR : R = zi px py course dist) :
 Calls Tryz.prog 70 #[.agg #[.int .i64 px, .int .i64 py], .int .i64 course, .int .i64 dist] w fun e w' => e = .returned (.tuple #[.agg #[.int .i64 R.1, .int .i64 R.2.1], .int .i64 R.2.2]) ∧ Below w.heap.size w w' := by
 unfold zi at hR
 rcases hv : qf px py with _ | _
 · rw [hv, if_pos (by simp)] at hR
   subst hR
   have HV := hide hv
   clear hv
   go_enter Tryz.func70, Tryz.ntmps70
   go_wp2_with fail
   refine (kH px py false HV.out _).mono ?_
   rintro e w1 ⟨rfl, rfl⟩
   go_wp2_with fail
   exact bodyPost_ret (v := .tuple #[.agg #[.int .i64 0, .int .i64 0], .int .i64 1]) (by simp [results, Tryz.results70, go_sem, *]) rfl ⟨rfl, by (repeat (with_reducible (first | assumption | exact Below.refl _ _ | refine Below.drew ?_ | refine below_drewN ?_ _ | refine qj ?_ (by simp; try omega) _ | refine qe ?_ (Nat.le_refl _) _ | refine qi (by assumption) ?_)))⟩
 rw [hv, if_neg (by simp)] at hR
 have HV := hide hv
 have b1 := jo hv
 clear hv
 by_cases h2 : dist > 8000000 ∨ dist < -8000000
 · rw [if_pos h2] at hR
   subst hR
   have T : dist > 8000000 ∨ (¬ dist > 8000000 ∧ dist < -8000000) := by omega
   clear h2
   rcases T with t1 | ⟨t1, t2⟩
   all_goals
    go_enter Tryz.func70, Tryz.ntmps70
    go_wp2_with fail
    refine (kH px py true HV.out _).mono ?_
    rintro e w1 ⟨rfl, rfl⟩
    go_wp2_with fail
    exact bodyPost_ret (v := .tuple #[.agg #[.int .i64 0, .int .i64 0], .int .i64 2]) (by simp [results, Tryz.results70, go_sem, *]) rfl ⟨rfl, by (repeat (with_reducible (first | assumption | exact Below.refl _ _ | refine Below.drew ?_ | refine below_drewN ?_ _ | refine qj ?_ (by simp; try omega) _ | refine qe ?_ (Nat.le_refl _) _ | refine qi (by assumption) ?_)))⟩
 rw [if_neg h2] at hR
 unfold zQ zR at hR
 have h3 : -8000000 ≤ dist := by omega
 have h4 : dist ≤ 8000000 := by omega
 have sb := kJ course
 have cb := uj course
 have SC := fun w => QJ course hc w
 have CC := fun w => Jl course hc w
 have s1 := wP h3 h4 sb.1 sb.2
 have s2 := wP h3 h4 cb.1 cb.2
 have RX := fun w => QG (dist * qV course) 1073741824 (by unfold qH; omega) (by unfold qH; omega) w
 have RY := fun w => QG (dist * qX course) 1073741824 (by unfold qH; omega) (by unfold qH; omega) w
 rw [VB h3 h4 sb.1 sb.2] at RX
 rw [VB h3 h4 cb.1 cb.2] at RY
 clear h2
 generalize qV course = s at *
 generalize qX course = c at *
 generalize jG 2 (dist * s) 1073741824 = X at *
 generalize jG 2 (dist * c) 1073741824 = Y at *
 obtain ⟨⟨p1, p2⟩, q1, q2⟩ := s1
 obtain ⟨⟨p3, p4⟩, q3, q4⟩ := s2
 rcases hw : qf (px + X) (py + Y) with _ | _
 all_goals
  rw [hw] at hR
  have HW := hide hw
  clear hw
 · rw [if_neg (by simp)] at hR
   subst hR
   go_enter Tryz.func70, Tryz.ntmps70
   go_wp2_with fail
   refine (kH px py true HV.out _).mono ?_
   rintro e w1 ⟨rfl, rfl⟩
   go_wp2_with fail
   go_wp2_with (first | (go_at_call 28; refine (SC _).mono ?_; rintro e w' ⟨rfl, rfl⟩) | (go_at_call 29; refine (CC _).mono ?_; rintro e w' ⟨rfl, rfl⟩) | (go_at_call_of 67 (Value.int IntKind.i64 (dist * s)); refine (RX _).mono ?_; rintro e w' ⟨rfl, n, rfl⟩) | (go_at_call_of 67 (Value.int IntKind.i64 (dist * c)); refine (RY _).mono ?_; rintro e w' ⟨rfl, n, rfl⟩) | (go_at_call 16; refine (kH _ _ _ HW.out _).mono ?_; rintro e w' ⟨rfl, rfl⟩))
   exact bodyPost_ret (v := .tuple #[.agg #[.int .i64 0, .int .i64 0], .int .i64 2]) (by simp [results, Tryz.results70, go_sem, *]) rfl ⟨rfl, by (repeat (with_reducible (first | assumption | exact Below.refl _ _ | refine Below.drew ?_ | refine below_drewN ?_ _ | refine qj ?_ (by simp; try omega) _ | refine qe ?_ (Nat.le_refl _) _ | refine qi (by assumption) ?_)))⟩
 · rw [if_pos rfl] at hR
   subst hR
   go_enter Tryz.func70, Tryz.ntmps70
   go_wp2_with fail
   refine (kH px py true HV.out _).mono ?_
   rintro e w1 ⟨rfl, rfl⟩
   go_wp2_with fail
   go_wp2_with (first | (go_at_call 28; refine (SC _).mono ?_; rintro e w' ⟨rfl, rfl⟩) | (go_at_call 29; refine (CC _).mono ?_; rintro e w' ⟨rfl, rfl⟩) | (go_at_call_of 67 (Value.int IntKind.i64 (dist * s)); refine (RX _).mono ?_; rintro e w' ⟨rfl, n, rfl⟩) | (go_at_call_of 67 (Value.int IntKind.i64 (dist * c)); refine (RY _).mono ?_; rintro e w' ⟨rfl, n, rfl⟩) | (go_at_call 16; refine (kH _ _ _ HW.out _).mono ?_; rintro e w' ⟨rfl, rfl⟩))
   exact bodyPost_ret (v := .tuple #[.agg #[.int .i64 (px + X), .int .i64 (py + Y)], .int .i64 0]) (by simp [results, Tryz.results70, go_sem, *]) rfl ⟨rfl, by (repeat (with_reducible (first | assumption | exact Below.refl _ _ | refine Below.drew ?_ | refine below_drewN ?_ _ | refine qj ?_ (by simp; try omega) _ | refine qe ?_ (Nat.le_refl _) _ | refine qi (by assumption) ?_)))⟩
theorem wi {x : Int} (h1 : -9223372036854775808 ≤ x) (h2 : x ≤ 9223372036854775807) : IntKind.i64.wrap x = x := IntWalk.i64_in _ (by omega)
theorem Zf (ax ay bx b_y : Int) : 0 ≤ (qF ax ay bx b_y).1 ∧ (qF ax ay bx b_y).1 < 129600000 := by
 unfold qF
 split
 · decide
 · split
   · decide
   · exact uk _ _
set_option maxHeartbeats 2000000 in
theorem ZO (ax ay bx b_y px py : Int) (w : World) (R : Int × Int × Int) (hR : R = VS ax ay bx b_y px py) :
 Calls Tryz.prog 92 #[.agg #[.int .i64 ax, .int .i64 ay], .agg #[.int .i64 bx, .int .i64 b_y], .agg #[.int .i64 px, .int .i64 py]] w fun e w' => e = .returned (.tuple #[.int .i64 R.1, .int .i64 R.2.1, .int .i64 R.2.2]) ∧ Below w.heap.size w w' := by
 unfold VS at hR
 rcases hv : (qf ax ay && qf bx b_y && qf px py) with _ | _
 · rw [hv, if_pos (by simp)] at hR
   subst hR
   have HV := hide hv
   clear hv
   go_enter Tryz.func92, Tryz.ntmps92
   go_wp2_with fail
   refine (vE ax ay bx b_y px py _ _ _ (kv _ _ _ (by simp))).mono ?_
   rintro e w1 ⟨rfl, hb⟩
   rw [HV.out]
   go_wp2_with fail
   go_ret3
   exact ⟨rfl, by (repeat (with_reducible (first | assumption | exact Below.refl _ _ | refine Below.drew ?_ | refine below_drewN ?_ _ | refine qj ?_ (by simp; try omega) _ | refine qe ?_ (Nat.le_refl _) _ | refine qi (by assumption) ?_)))⟩
 have hv' : (qf ax ay = true ∧ qf bx b_y = true) ∧ qf px py = true := by simpa using hv
 rw [hv, if_neg (by simp)] at hR
 by_cases he : ax = bx ∧ ay = b_y
 · rw [if_pos he] at hR
   subst hR
   have HV := hide hv
   clear hv hv'
   obtain ⟨rfl, rfl⟩ := he
   go_enter Tryz.func92, Tryz.ntmps92
   go_wp2_with fail
   refine (vE ax ay ax ay px py _ _ _ (kv _ _ _ (by simp))).mono ?_
   rintro e w1 ⟨rfl, hb⟩
   rw [HV.out]
   have k_0 := qa hb (b := w.heap.size) (o := 0) (v := .int .i64 ax) (by simp [go_sem])
   have k_1 := qa hb (b := w.heap.size) (o := 1) (v := .int .i64 ay) (by simp [go_sem])
   have k_2 := qa hb (b := w.heap.size + 1) (o := 0) (v := .int .i64 ax) (by simp [go_sem])
   have k_3 := qa hb (b := w.heap.size + 1) (o := 1) (v := .int .i64 ay) (by simp [go_sem])
   have k_4 := qa hb (b := w.heap.size + 1 + 1) (o := 0) (v := .int .i64 px) (by simp [go_sem])
   have k_5 := qa hb (b := w.heap.size + 1 + 1) (o := 1) (v := .int .i64 py) (by simp [go_sem])
   go_wp2_with fail
   go_ret3
   exact ⟨rfl, by (repeat (with_reducible (first | assumption | exact Below.refl _ _ | refine Below.drew ?_ | refine below_drewN ?_ _ | refine qj ?_ (by simp; try omega) _ | refine qe ?_ (Nat.le_refl _) _ | refine qi (by assumption) ?_)))⟩
 rw [if_neg he] at hR
 have s0 := fu he
 have s1 := VU hv'.1.1 hv'.1.2
 have b1 := jo hv'.1.1
 have b2 := jo hv'.1.2
 have b3 := jo hv'.2
 have l1 := MQ (px - ax) (py - ay) (bx - ax) (b_y - ay)
 have l2 := MR (px - ax) (py - ay) (bx - ax) (b_y - ay)
 have v1 := Yh (a := px - ax) (m := 4000000) (by omega) (by omega)
 have v2 := Yh (a := py - ay) (m := 4000000) (by omega) (by omega)
 have HV := hide hv
 have T : ((ax == bx) = true ∧ (ay == b_y) = false) ∨ (ax == bx) = false := by
  by_cases hx0 : ax = bx
  · left; simp [hx0]; intro hy0; exact he ⟨hx0, hy0⟩
  · right; simp [hx0]
 clear he hv hv'
 unfold jv at *
 have d1 := VA (a := bx - ax) (b := b_y - ay) (c := px - ax) (d := py - ay) (by omega) (by omega) (by omega) (by omega) (by omega) (by omega) (by omega) (by omega)
 have p1 := vw (a := bx - ax) (b := py - ay) (by omega) (by omega) (by omega) (by omega)
 have p2 := vw (a := b_y - ay) (b := px - ax) (by omega) (by omega) (by omega) (by omega)
 have p3 := vw (a := bx - ax) (b := px - ax) (by omega) (by omega) (by omega) (by omega)
 have p4 := vw (a := b_y - ay) (b := py - ay) (by omega) (by omega) (by omega) (by omega)
 have D1 := fun W => Gx (bx - ax) (b_y - ay) (bx - ax) (b_y - ay) (by omega) (by omega) (by omega) (by omega) (by omega) (by omega) (by omega) (by omega) W
 have D2 := fun W => Gx (bx - ax) (b_y - ay) (px - ax) (py - ay) (by omega) (by omega) (by omega) (by omega) (by omega) (by omega) (by omega) (by omega) W
 have CR := fun W => YC (bx - ax) (b_y - ay) (px - ax) (py - ay) (by omega) (by omega) (by omega) (by omega) (by omega) (by omega) (by omega) (by omega) W
 have L1 := fun W => Ku (-((bx - ax) * (py - ay) - (b_y - ay) * (px - ax))) ((bx - ax) * (bx - ax) + (b_y - ay) * (b_y - ay)) (by omega) (by omega) s0 (by omega) W
 have L2 := fun W => Ku ((bx - ax) * (px - ax) + (b_y - ay) * (py - ay)) ((bx - ax) * (bx - ax) + (b_y - ay) * (b_y - ay)) (by omega) (by omega) s0 (by omega) W
 have wn := Ry (x := -((bx - ax) * (py - ay) - (b_y - ay) * (px - ax))) (by omega) (by omega)
 clear p1 p2 p3 p4 d1 l1 l2 v1 v2 s0 s1
 generalize (bx - ax) * (bx - ax) + (b_y - ay) * (b_y - ay) = s at *
 generalize (bx - ax) * (py - ay) - (b_y - ay) * (px - ax) = X at *
 generalize (bx - ax) * (px - ax) + (b_y - ay) * (py - ay) = Y at *
 generalize Yr (-X) s = LX at *
 generalize Yr Y s = LY at *
 subst hR
 rcases T with ⟨t1, t2⟩ | t1
 all_goals
  go_enter Tryz.func92, Tryz.ntmps92
  go_wp2_with fail
  refine (vE ax ay bx b_y px py _ _ _ (kv _ _ _ (by simp))).mono ?_
  rintro e w1 ⟨rfl, hb⟩
  rw [HV.out]
  have k_0 := qa hb (b := w.heap.size) (o := 0) (v := .int .i64 ax) (by simp [go_sem])
  have k_1 := qa hb (b := w.heap.size) (o := 1) (v := .int .i64 ay) (by simp [go_sem])
  have k_2 := qa hb (b := w.heap.size + 1) (o := 0) (v := .int .i64 bx) (by simp [go_sem])
  have k_3 := qa hb (b := w.heap.size + 1) (o := 1) (v := .int .i64 b_y) (by simp [go_sem])
  have k_4 := qa hb (b := w.heap.size + 1 + 1) (o := 0) (v := .int .i64 px) (by simp [go_sem])
  have k_5 := qa hb (b := w.heap.size + 1 + 1) (o := 1) (v := .int .i64 py) (by simp [go_sem])
  have hz := hb.size
  simp at hz
  have hz1 : w.heap.size + 1 + 1 < w1.heap.size := by omega
  go_wp2_with fail
  go_cut [9, 10] (fun s9 s10 wx => ∃ g h : Nat, s9 = .pointer (some ⟨g, 0, none⟩) ∧ s10 = .pointer (some ⟨h, 0, none⟩) ∧ (wx.cell? ⟨g, 0, none⟩ = some (.int .i64 (bx - ax)) ∧ wx.cell? ⟨g, 1, none⟩ = some (.int .i64 (b_y - ay)) ∧ wx.cell? ⟨h, 0, none⟩ = some (.int .i64 (px - ax)) ∧ wx.cell? ⟨h, 1, none⟩ = some (.int .i64 (py - ay))) ∧ (w1.heap.size ≤ g ∧ w1.heap.size ≤ h) ∧ Below w1.heap.size w1 wx)
  case first =>
   go_region_held3 (fun w' => w'.cell? ⟨w.heap.size, 0, none⟩ = some (.int .i64 ax) ∧ w'.cell? ⟨w.heap.size, 1, none⟩ = some (.int .i64 ay) ∧ w'.cell? ⟨w.heap.size + 1, 0, none⟩ = some (.int .i64 bx) ∧ w'.cell? ⟨w.heap.size + 1, 1, none⟩ = some (.int .i64 b_y) ∧ w'.cell? ⟨w.heap.size + 1 + 1, 0, none⟩ = some (.int .i64 px) ∧ w'.cell? ⟨w.heap.size + 1 + 1, 1, none⟩ = some (.int .i64 py)) ((go_split_ands; refine ⟨?_, ?_, ?_, ?_, ?_, ?_⟩ <;> (repeat (first | (with_reducible assumption) | (with_reducible refine qC ?_) | (with_reducible refine qu ?_ _) | (with_reducible refine qa (by assumption) ?_) | ((with_reducible refine qG ?_ ?_); (· (simp; done)); (· rfl)) | (with_reducible refine qt ?_ _) | ((with_reducible refine qK ?_ ?_ _); (· first | (simp; done) | (simp; omega) | omega))))))
    (first | (go_at_call 20; (with_reducible refine (Zb _ _ _ _ (by omega) (by omega) (by omega) (by omega) _).mono ?_); rintro e w' ⟨rfl, rfl⟩))
   all_goals
    go_wp2_with fail
    go_meet
    refine ⟨_, _, rfl, rfl, ?_, ?_, ?_⟩
    · simp [go_sem]
    · constructor <;> (first | omega | (simp; omega))
    · (repeat (with_reducible (first | assumption | exact Below.refl _ _ | refine Below.drew ?_ | refine below_drewN ?_ _ | refine qj ?_ (by simp; try omega) _ | refine qe ?_ (Nat.le_refl _) _ | refine qi (by assumption) ?_)))
  case rest =>
   obtain ⟨g, h, rfl, rfl, ⟨c1, c2, c3, c4⟩, ⟨hg, hh⟩, hbc⟩ := hcut
   have hz2 := hbc.size
   go_wp2_with fail
   refine (D1 _).mono ?_
   rintro e w3 ⟨rfl, hb3⟩
   have e1 := qa hb3 c1
   have e2 := qa hb3 c2
   have e3 := qa hb3 c3
   have e4 := qa hb3 c4
   clear c1 c2 c3 c4
   go_wp2_with fail
   go_region_held3 (fun w' => w'.cell? ⟨g, 0, none⟩ = some (.int .i64 (bx - ax)) ∧ w'.cell? ⟨g, 1, none⟩ = some (.int .i64 (b_y - ay)) ∧ w'.cell? ⟨h, 0, none⟩ = some (.int .i64 (px - ax)) ∧ w'.cell? ⟨h, 1, none⟩ = some (.int .i64 (py - ay))) ((go_split_ands; refine ⟨?_, ?_, ?_, ?_⟩ <;> (repeat (first | (with_reducible assumption) | (with_reducible refine qC ?_) | (with_reducible refine qu ?_ _) | (with_reducible refine qa (by assumption) ?_) | ((with_reducible refine qG ?_ ?_); (· (simp; done)); (· rfl)) | (with_reducible refine qt ?_ _) | ((with_reducible refine qK ?_ ?_ _); (· first | (simp; done) | (simp; omega) | omega))))))
    (first | (go_at_call 115; refine (CR _).mono ?_; rintro e w' ⟨rfl, hb'⟩) | (go_at_call 66; refine (D2 _).mono ?_; rintro e w' ⟨rfl, hb'⟩) | (go_at_call_of 114 (Value.int IntKind.i64 (-X)); refine (L1 _).mono ?_; rintro e w' ⟨rfl, hb'⟩) | (go_at_call_of 114 (Value.int IntKind.i64 Y); refine (L2 _).mono ?_; rintro e w' ⟨rfl, hb'⟩))
   all_goals
    go_wp2_with fail
    go_ret3
    exact ⟨rfl, by (repeat (with_reducible (first | assumption | exact Below.refl _ _ | refine Below.drew ?_ | refine below_drewN ?_ _ | refine qj ?_ (by simp; try omega) _ | refine qe ?_ (Nat.le_refl _) _ | refine qi (by assumption) ?_)))⟩
end Go.Proofs.YteanfgobpjdmnaaGreatDoor
