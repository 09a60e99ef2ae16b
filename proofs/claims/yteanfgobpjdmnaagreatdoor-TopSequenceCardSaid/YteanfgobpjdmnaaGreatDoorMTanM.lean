/-
  turn.Tangent for all arguments, by boxes.
-/
import Derived.Test.YteanfgobpjdmnaaGreatDoorMLineD
import Derived.Test.YteanfgobpjdmnaaGreatDoorMMemD
namespace Go.Proofs.YteanfgobpjdmnaaGreatDoor
open Go.RowKit
set_option linter.unusedVariables false
set_option linter.unusedSimpArgs false
theorem Dz {cx cy r px py : Int} {right : Bool} (h : (qf cx cy && qf px py) = false) : xX cx cy r px py right = (0, 0, 1) := by unfold xX; rw [h]; rfl
theorem PK {cx cy r px py : Int} {right : Bool} (h : (qf cx cy && qf px py) = true) (h2 : r < 1 ∨ r > 8000000) : xX cx cy r px py right = (0, 0, 2) := by unfold xX; rw [h, if_neg (by simp), if_pos h2]
theorem DD {cx cy r px py : Int} {right : Bool} (h : (qf cx cy && qf px py) = true) (h2 : ¬ (r < 1 ∨ r > 8000000)) (h3 : jv cx cy px py ≤ r * r) : xX cx cy r px py right = (0, 0, 10) := by unfold xX; rw [h, if_neg (by simp), if_neg h2, if_pos h3]
theorem PL {cx cy r px py X Y E : Int} {right : Bool} (h : (qf cx cy && qf px py) = true) (h2 : ¬ (r < 1 ∨ r > 8000000)) (h3 : ¬ jv cx cy px py ≤ r * r) (hY : zi cx cy (JB cx cy r px py right) r = (X, Y, E)) : xX cx cy r px py right = if E ≠ 0 then (0, 0, 2) else (X, Y, 0) := by
 unfold xX; rw [h, if_neg (by simp), if_neg h2, if_neg h3, hY]
theorem nE {cx cy r px py : Int} (h : (qf cx cy && qf px py) = true) (h3 : ¬ jv cx cy px py ≤ r * r) : (qF cx cy px py).1 = qZ (px - cx) (py - cy) := by
 unfold qF
 rw [h, if_neg (by simp), if_neg]
 rintro ⟨rfl, rfl⟩
 apply h3
 unfold jv
 rw [Int.sub_self, Int.sub_self]
 exact zx r
set_option maxRecDepth 100000 in
set_option maxHeartbeats 8000000 in
theorem Ft (cx cy r px py b : Int) (right : Bool) (hb : b = 1 ∧ right = false ∨ b = 2 ∧ right = true) (w : World) (v0 v1 e0 : Int) (hR : Hid ((v0, v1, e0) = xX cx cy r px py right)) :
 Calls Tryz.prog 75 #[.agg #[.int .i64 cx, .int .i64 cy], .int .i64 r, .int .u8 b, .agg #[.int .i64 px, .int .i64 py]] w fun e w' => e = .returned (.tuple #[.agg #[.int .i64 v0, .int .i64 v1], .int .i64 e0]) ∧ Below w.heap.size w w' := by
 rcases hb with ⟨rfl, hb⟩ | ⟨rfl, hb⟩
 all_goals (
  have hrt := hide hb
  clear hb
  have PV0 := fun W => qo cx cy W
  have PV1 := fun W => qo px py W
  obtain ⟨p0, hp0⟩ : ∃ p0, qf cx cy = p0 := ⟨_, rfl⟩
  obtain ⟨p1, RI⟩ : ∃ p1, qf px py = p1 := ⟨_, rfl⟩
  rw [hp0] at PV0
  rw [RI] at PV1
  have HP := hide (And.intro hp0 RI)
  clear hp0 RI
  have hM := qB w
  go_enter Tryz.func75, Tryz.ntmps75
  go_upto_region 0 with fail
  try simp only [pS, pN, sA, sB, sC]
  go_cut [8, 7, 4] (fun s8 s7 s4 wx => ∃ gO gP gC : Nat, s8 = .pointer (some ⟨gO, 0, none⟩) ∧ s7 = .pointer (some ⟨gP, 0, none⟩) ∧ s4 = .pointer (some ⟨gC, 0, none⟩) ∧ qQ w wx ((gO, [.int .i64 0, .int .i64 0], 26) :: [(gP, [.int .i64 px, .int .i64 py], 26), (gC, [.int .i64 cx, .int .i64 cy], 26)]))
  case first =>
   go_wp2_with (first | ((with_reducible refine lX ?_); refine mL ?_) | ((with_reducible refine sX ?_); refine mS ?_; clear hM; intro W hM) | ((with_reducible refine bX ?_); refine mB ?_; clear hM; intro g W hM) | ((with_reducible refine zX ?_); refine mB ?_; clear hM; intro g W hM))
   all_goals
    go_meet
    exact ⟨_, _, _, rfl, rfl, rfl, hM⟩
  case rest =>
  clear hM
  obtain ⟨gO, gP, gC, rfl, rfl, rfl, hM⟩ := hcut
  go_upto_region 1 with (first | (go_at_call 16; (with_reducible refine cb hM (PV0 _) ?_); clear hM; intro W1 hM) | (go_at_call 16; (with_reducible refine cb hM (PV1 _) ?_); clear hM; intro W1 hM) | ((with_reducible refine lX ?_); refine mL ?_) | ((with_reducible refine xZ ?_); refine gj (fun hg => ?_) (fun hg => ?_) <;> simp [go_sem, Region.wanted] at hg) | ((with_reducible refine sX ?_); refine mS ?_; clear hM; intro W hM) | ((with_reducible refine zX ?_); refine mB ?_; clear hM; intro g W hM))
  go_cut [19] (fun s wx => ∃ b, s = .bool b ∧ Hid (b = ((!p0 || !p1))) ∧ qQ w wx ((gO, [.int .i64 0, .int .i64 0], 26) :: [(gP, [.int .i64 px, .int .i64 py], 26), (gC, [.int .i64 cx, .int .i64 cy], 26)]))
  case first =>
   go_wp2_with (first | (go_at_call 16; (with_reducible refine cb hM (PV0 _) ?_); clear hM; intro W1 hM) | (go_at_call 16; (with_reducible refine cb hM (PV1 _) ?_); clear hM; intro W1 hM) | ((with_reducible refine lX ?_); refine mL ?_) | ((with_reducible refine xZ ?_); refine gj (fun hg => ?_) (fun hg => ?_) <;> simp [go_sem, Region.wanted] at hg) | ((with_reducible refine sX ?_); refine mS ?_; clear hM; intro W hM) | ((with_reducible refine zX ?_); refine mB ?_; clear hM; intro g W hM))
   all_goals
    go_meet
    exact ⟨_, rfl, hide (by (subst_vars; (repeat (first | rfl | (cases p0 <;> simp_all; done) | (cases p1 <;> simp_all; done) | (cases p0 <;> cases p1 <;> simp_all; done))))), hM⟩
  case rest =>
  clear hM
  obtain ⟨b1, rfl, hb1, hM⟩ := hcut
  rcases hq1 : b1 with _ | _
  rotate_left 1
  · have hN : (qf cx cy && qf px py) = false := by
     obtain ⟨h1, h2⟩ := HP.out
     rw [h1, h2]
     have := hb1.out
     rw [hq1] at this
     revert this
     cases p0 <;> cases p1 <;> simp
    clear HP hb1
    subst hq1
    obtain ⟨rfl, rfl, rfl⟩ : v0 = 0 ∧ v1 = 0 ∧ e0 = 1 := by simpa using hR.out.trans (Dz hN)
    go_wp2_with (first | ((with_reducible refine lX ?_); refine mL ?_) | ((with_reducible refine sX ?_); refine mS ?_; clear hM; intro W hM) | ((with_reducible refine zX ?_); refine mB ?_; clear hM; intro g W hM))
    all_goals
     (refine' qR hM rfl rfl Tryz.isAgg26 Tryz.sizeOf26 rfl rfl ?_ ?_ ⟨?_, hM.below⟩; rotate_left 2; (· repeat constructor); (· rfl); (· rfl))
  have hN : p0 = true ∧ p1 = true := by
   have := hb1.out
   rw [hq1] at this
   revert this
   cases p0 <;> cases p1 <;> simp
  obtain ⟨rfl, rfl⟩ := hN
  have HV : Hid ((qf cx cy && qf px py) = true) := hide (by rw [HP.out.1, HP.out.2]; rfl)
  subst hq1
  clear hb1 PV0 PV1
  by_cases hr3 : r < 1 ∨ r > 8000000
  · obtain ⟨rfl, rfl, rfl⟩ : v0 = 0 ∧ v1 = 0 ∧ e0 = 2 := by simpa using hR.out.trans (PK HV.out hr3)
    have hrr : (decide (r < 1) = true) ∨ (decide (r < 1) = false ∧ decide (8000000 < r) = true) := by
     by_cases h : r < 1
     · exact .inl (decide_eq_true h)
     · exact .inr ⟨decide_eq_false h, decide_eq_true (by omega)⟩
    clear hr3
    rcases hrr with hrr | ⟨hrr, hrr2⟩
    all_goals
     go_wp2_with (first | ((with_reducible refine lX ?_); refine mL ?_) | ((with_reducible refine sX ?_); refine mS ?_; clear hM; intro W hM) | ((with_reducible refine zX ?_); refine mB ?_; clear hM; intro g W hM))
     all_goals
      (refine' qR hM rfl rfl Tryz.isAgg26 Tryz.sizeOf26 rfl rfl ?_ ?_ ⟨?_, hM.below⟩; rotate_left 2; (· repeat constructor); (· rfl); (· rfl))
  have hr1 : ¬ r < 1 := by omega
  have hr2 : ¬ r > 8000000 := by omega
  have HR3 := hide hr3
  have hv0 := jo HP.out.1
  have hv1 := jo HP.out.2
  have q1 := vw (a := px - cx) (b := px - cx) (by omega) (by omega) (by omega) (by omega)
  have q2 := vw (a := py - cy) (b := py - cy) (by omega) (by omega) (by omega) (by omega)
  have q3 := zx (px - cx)
  have q4 := zx (py - cy)
  have rr : 1 ≤ r * r ∧ r * r ≤ 64000000000000 := ⟨Int.mul_le_mul (show (1 : Int) ≤ r by omega) (show (1 : Int) ≤ r by omega) (by decide) (by omega), Int.mul_le_mul (show r ≤ 8000000 by omega) (show r ≤ 8000000 by omega) (by omega) (by decide)⟩
  have w1 := wi (x := px - cx) (by omega) (by omega)
  have w2 := wi (x := py - cy) (by omega) (by omega)
  have w3 := wi (x := (px - cx) * (px - cx)) (by omega) (by omega)
  have w4 := wi (x := (py - cy) * (py - cy)) (by omega) (by omega)
  have w5 := wi (x := (px - cx) * (px - cx) + (py - cy) * (py - cy)) (by omega) (by omega)
  have w6 := wi (x := r * r) (by omega) (by omega)
  have hd2 : jv cx cy px py = (px - cx) * (px - cx) + (py - cy) * (py - cy) := rfl
  go_upto_region 5 with (first | ((with_reducible refine lX ?_); refine mL ?_) | ((with_reducible refine sX ?_); refine mS ?_; clear hM; intro W hM) | ((with_reducible refine zX ?_); refine mB ?_; clear hM; intro g W hM))
  try simp only [pS, pN, sA, sB, sC]
  go_cut [10, 11] (fun s10 s11 wx => s10 = .int .i64 (px - cx) ∧ s11 = .int .i64 (py - cy) ∧ qQ w wx ((gO, [.int .i64 0, .int .i64 0], 26) :: [(gP, [.int .i64 px, .int .i64 py], 26), (gC, [.int .i64 cx, .int .i64 cy], 26)]))
  case first =>
   refine bF hM (by kernel_rfl) ?_; (clear hM; intro W hM hK)
   refine kP 0 hM hK ?_
   try simp only [pS, pN, sA, sB, sC]
   first | refine kL 1 hM hK ?_ | refine kM 1 hM hK ?_
   try simp only [pS, pN, sA, sB, sC]
   refine kP 2 hM hK ?_
   try simp only [pS, pN, sA, sB, sC]
   first | refine kL 3 hM hK ?_ | refine kM 3 hM hK ?_
   try simp only [pS, pN, sA, sB, sC]
   refine kP 4 hM hK ?_
   try simp only [pS, pN, sA, sB, sC]
   refine kP 5 hM hK ?_
   try simp only [pS, pN, sA, sB, sC]
   first | refine kL 6 hM hK ?_ | refine kM 6 hM hK ?_
   try simp only [pS, pN, sA, sB, sC]
   refine kP 7 hM hK ?_
   try simp only [pS, pN, sA, sB, sC]
   first | refine kL 8 hM hK ?_ | refine kM 8 hM hK ?_
   try simp only [pS, pN, sA, sB, sC]
   refine kP 9 hM hK ?_
   try simp only [pS, pN, sA, sB, sC]
   refine kP 10 hM hK ?_
   try simp only [pS, pN, sA, sB, sC]
   refine kP 11 hM hK ?_
   try simp only [pS, pN, sA, sB, sC]
   refine qE (by kernel_rfl) ?_
   go_wp2_with (first | ((with_reducible refine lX ?_); refine mL ?_) | ((with_reducible refine sX ?_); refine mS ?_; clear hM; intro W hM) | ((with_reducible refine zX ?_); refine mB ?_; clear hM; intro g W hM))
   all_goals
    go_meet
    exact ⟨by first | rfl | simp only [w1], by first | rfl | simp only [w2], hM⟩
  case rest =>
  clear hM
  obtain ⟨rfl, rfl, hM⟩ := hcut
  by_cases h3 : jv cx cy px py ≤ r * r
  · obtain ⟨rfl, rfl, rfl⟩ : v0 = 0 ∧ v1 = 0 ∧ e0 = 10 := by simpa using hR.out.trans (DD HV.out HR3.out h3)
    rw [hd2] at h3
    clear hd2 q1 q2 q3 q4 hv0 hv1
    generalize px - cx = dx at *
    generalize py - cy = dy at *
    go_wp2_with (first | ((with_reducible refine lX ?_); refine mL ?_) | ((with_reducible refine sX ?_); refine mS ?_; clear hM; intro W hM) | ((with_reducible refine zX ?_); refine mB ?_; clear hM; intro g W hM))
    all_goals
     (refine' qR hM rfl rfl Tryz.isAgg26 Tryz.sizeOf26 rfl rfl ?_ ?_ ⟨?_, hM.below⟩; rotate_left 2; (· repeat constructor); (· rfl); (· rfl))
  have ce := nE HV.out h3
  have H3 := hide h3
  rw [hd2] at h3
  have cbd := uk (px - cx) (py - cy)
  have CS := fun W => yd cx cy px py W
  rw [ce] at CS
  obtain ⟨ue, hue⟩ : ∃ ue, (qF cx cy px py).2 = ue := ⟨_, rfl⟩
  rw [hue] at CS
  clear hue ce
  have hk : ((vO ((px - cx) * (px - cx) + (py - cy) * (py - cy) - r * r).toNat : Nat) : Int) ≤ 8000000 := gm (by omega) (by
   have := QA ((px - cx) * (px - cx) + (py - cy) * (py - cy) - r * r) (by omega)
   omega)
  have SQ := fun W => Kc ((px - cx) * (px - cx) + (py - cy) * (py - cy) - r * r) (by unfold qH; omega) W
  have w7 := wi (x := (px - cx) * (px - cx) + (py - cy) * (py - cy) - r * r) (by omega) (by omega)
  have hk0 : 0 ≤ ((vO ((px - cx) * (px - cx) + (py - cy) * (py - cy) - r * r).toNat : Nat) : Int) := by omega
  obtain ⟨k, hkk⟩ : ∃ k : Int, ((vO ((px - cx) * (px - cx) + (py - cy) * (py - cy) - r * r).toNat : Nat) : Int) = k := ⟨_, rfl⟩
  rw [hkk] at SQ hk hk0
  have AT := fun W => UJ k r (by omega) (by omega) (by omega) (by omega) (by omega) W
  have zb := uk k r
  obtain ⟨z, hz⟩ : ∃ z, qZ k r = z := ⟨_, rfl⟩
  obtain ⟨y, hy⟩ : ∃ y, qZ (px - cx) (py - cy) = y := ⟨_, rfl⟩
  rw [hz] at AT zb
  rw [hy] at CS cbd
  have HT := hide (show JB cx cy r px py right = zg y (if right then -z else z) by
   unfold JB
   rw [hy, hd2, hkk, hz])
  clear hkk hz hy hd2 q1 q2 q3 q4 hv0 hv1
  generalize px - cx = dx at *
  generalize py - cy = dy at *
  obtain ⟨u, hu⟩ : ∃ u, (if right then -z else z) = u := ⟨_, rfl⟩
  rw [hu] at HT
  have ub : -129600000 ≤ u ∧ u ≤ 129600000 := by rw [← hu]; split <;> omega
  have TN := fun W => bQ y u (by unfold qH; omega) (by unfold qH; omega) W
  have tb := tC y u
  obtain ⟨D, hD⟩ : ∃ D, zg y u = D := ⟨_, rfl⟩
  rw [hD] at TN tb HT
  obtain ⟨kx, ky, E, hY0⟩ : ∃ kx ky E, zi cx cy D r = (kx, ky, E) := ⟨_, _, _, rfl⟩
  have RY := fun W => jp cx cy D r (by unfold qH; omega) (by unfold qH; omega) W _ hY0.symm
  have HR := hide (hR.out.trans (PL (X := kx) (Y := ky) (E := E) HV.out HR3.out H3.out (by rw [HT.out]; exact hY0)))
  clear hR HV H3 HT hY0 hD HP
  have hR := HR
  clear HR
  rw [hrt.out] at hu
  simp only [if_true, if_false, Bool.false_eq_true] at hu
  subst hu
  go_upto_region 13 with (first | (go_at_call 8; (with_reducible refine cb hM (CS _) ?_); clear hM; intro W1 hM) | (go_at_call 65; (with_reducible refine (SQ _).mono ?_); rintro e W1 ⟨rfl, n1, rfl⟩; replace hM := zK hM n1) | (go_at_call 21; (with_reducible refine cb hM (AT _) ?_); clear hM; intro W1 hM) | ((with_reducible refine lX ?_); refine mL ?_) | ((with_reducible refine sX ?_); refine mS ?_; clear hM; intro W hM) | ((with_reducible refine zX ?_); refine mB ?_; clear hM; intro g W hM))
  try simp only [pS, pN, sA, sB, sC]
  go_cut [17, 18] (fun s17 s18 wx => ∃ g17 : Nat, s17 = .pointer (some ⟨g17, 0, none⟩) ∧ s18 = .int .i64 E ∧ qQ w wx ((g17, [.int .i64 kx, .int .i64 ky], 26) :: ((gO, [.int .i64 0, .int .i64 0], 26) :: [(gP, [.int .i64 px, .int .i64 py], 26), (gC, [.int .i64 cx, .int .i64 cy], 26)])))
  case first =>
   refine qW [(gC, [.int .i64 cx, .int .i64 cy], 26)] hM (by kernel_rfl) ?_; (clear hM; intro W hM)
   refine rD 0 ?_
   refine rD 1 ?_
   refine rD 2 ?_
   refine rD 4 ?_
   refine dT 3 9 (fun K' hK' => ?_) (fun K' hK' => ?_)
   ·
    go_wp2_with (first | (go_at_call 63; (with_reducible refine (TN _).mono ?_); rintro e W1 ⟨rfl, rfl⟩) | (go_at_call 70; (with_reducible refine cb hM (RY _) ?_); clear hM; intro W1 hM))
    refine rK hK' hM ?_; clear hK' K'
    refine dT 5 9 (fun K' hK' => ?_) (fun K' hK' => ?_)
    ·
     go_wp2_with (first | (go_at_call 63; (with_reducible refine (TN _).mono ?_); rintro e W1 ⟨rfl, rfl⟩) | (go_at_call 70; (with_reducible refine cb hM (RY _) ?_); clear hM; intro W1 hM))
     refine rK hK' hM ?_; clear hK' K'
     refine rD 6 ?_
     refine rD 7 ?_
     refine rD 8 ?_
     refine dC 9 (fun K' hK' => ?_)
     refine oN hM ?_
     clear hM; intro g17 W hM
     refine rK hK' hM ?_; clear hK' K'
     refine dC 10 (fun K' hK' => ?_)
     refine oS hM ?_
     clear hM; intro W hM
     refine rK hK' hM ?_; clear hK' K'
     refine rD 11 ?_
     refine qE (by kernel_rfl) ?_
     go_wp2_with fail
     all_goals
      go_meet
      exact ⟨_, rfl, rfl, hM⟩
    ·
     refine oN hM ?_
     clear hM; intro g17 W hM
     refine rK hK' hM ?_; clear hK' K'
     refine dC 5 (fun K' hK' => ?_)
     go_wp2_with (first | (go_at_call 63; (with_reducible refine (TN _).mono ?_); rintro e W1 ⟨rfl, rfl⟩) | (go_at_call 70; (with_reducible refine cb hM (RY _) ?_); clear hM; intro W1 hM))
     refine rK hK' hM ?_; clear hK' K'
     refine rD 6 ?_
     refine rD 7 ?_
     refine rD 8 ?_
     refine dC 10 (fun K' hK' => ?_)
     refine oS hM ?_
     clear hM; intro W hM
     refine rK hK' hM ?_; clear hK' K'
     refine rD 11 ?_
     refine qE (by kernel_rfl) ?_
     go_wp2_with fail
     all_goals
      go_meet
      exact ⟨_, rfl, rfl, hM⟩
   ·
    refine oN hM ?_
    clear hM; intro g17 W hM
    refine rK hK' hM ?_; clear hK' K'
    refine dC 3 (fun K' hK' => ?_)
    go_wp2_with (first | (go_at_call 63; (with_reducible refine (TN _).mono ?_); rintro e W1 ⟨rfl, rfl⟩) | (go_at_call 70; (with_reducible refine cb hM (RY _) ?_); clear hM; intro W1 hM))
    refine rK hK' hM ?_; clear hK' K'
    refine dC 5 (fun K' hK' => ?_)
    go_wp2_with (first | (go_at_call 63; (with_reducible refine (TN _).mono ?_); rintro e W1 ⟨rfl, rfl⟩) | (go_at_call 70; (with_reducible refine cb hM (RY _) ?_); clear hM; intro W1 hM))
    refine rK hK' hM ?_; clear hK' K'
    refine rD 6 ?_
    refine rD 7 ?_
    refine rD 8 ?_
    refine dC 10 (fun K' hK' => ?_)
    refine oS hM ?_
    clear hM; intro W hM
    refine rK hK' hM ?_; clear hK' K'
    refine rD 11 ?_
    refine qE (by kernel_rfl) ?_
    go_wp2_with fail
    all_goals
     go_meet
     exact ⟨_, rfl, rfl, hM⟩
  case rest =>
  clear hM
  obtain ⟨g17, rfl, rfl, hM⟩ := hcut
  by_cases hE : E = 0
  · subst hE
    obtain ⟨rfl, rfl, rfl⟩ : v0 = kx ∧ v1 = ky ∧ e0 = 0 := by simpa using hR.out
    go_wp2_with (first | ((with_reducible refine lX ?_); refine mL ?_) | ((with_reducible refine sX ?_); refine mS ?_; clear hM; intro W hM) | ((with_reducible refine zX ?_); refine mB ?_; clear hM; intro g W hM))
    all_goals
     (refine' qR hM rfl rfl Tryz.isAgg26 Tryz.sizeOf26 rfl rfl ?_ ?_ ⟨?_, hM.below⟩; rotate_left 2; (· repeat constructor); (· rfl); (· rfl))
  · obtain ⟨rfl, rfl, rfl⟩ : v0 = 0 ∧ v1 = 0 ∧ e0 = 2 := by simpa [hE] using hR.out
    have hE' : (E != 0) = true := by simpa using hE
    clear hE
    go_wp2_with (first | ((with_reducible refine lX ?_); refine mL ?_) | ((with_reducible refine sX ?_); refine mS ?_; clear hM; intro W hM) | ((with_reducible refine zX ?_); refine mB ?_; clear hM; intro g W hM))
    all_goals
     (refine' qR hM rfl rfl Tryz.isAgg26 Tryz.sizeOf26 rfl rfl ?_ ?_ ⟨?_, hM.below⟩; rotate_left 2; (· repeat constructor); (· rfl); (· rfl))
  )
end Go.Proofs.YteanfgobpjdmnaaGreatDoor
