/-
  Resolve on legs of some types.
-/
import Derived.Test.YteanfgobpjdmnaaGreatDoorMResC
import Derived.Test.YteanfgobpjdmnaaGreatDoorMResD
set_option maxRecDepth 100000
set_option maxHeartbeats 16000000
namespace Go.Proofs.YteanfgobpjdmnaaGreatDoor
open Go.RowKit
set_option linter.unusedVariables false
set_option linter.unusedSimpArgs false
theorem pL (fx fy c alt : Int) (x y : En) (spd bank oalt gr : Int) (hx : tL x) (hy : tL y) (w : World) (hu : Hid (jq w)) (hG : x.gap = false) (hO : vA spd bank oalt gr = 0) (hL : jn x = 0) (v1 : qf fx fy = true) (v2 : qf x.ex x.ey = true) (v3 : qf x.mx x.my = true) (hcr : 0 ≤ c ∧ c < 129600000) (ha1 : -200000 ≤ alt) (ha2 : alt ≤ 6000000) (hk : x.ty = 1) :
 Calls Tryz.prog 26 #[.agg #[.int .i64 fx, .int .i64 fy], .int .i64 c, .int .i64 alt, .agg x.cells.toArray, .agg y.cells.toArray, .agg #[.int .i64 spd, .int .i64 bank, .int .i64 oalt, .int .i64 gr]] w fun e w' => e = .returned (.tuple #[.agg (qg fx fy c alt x y spd bank oalt gr).1.cells.toArray, .int .i64 (qg fx fy c alt x y spd bank oalt gr).2]) ∧ Below w.heap.size w w' := by
 have HT : Hid (qg fx fy c alt x y spd bank oalt gr = (qY x.ex x.ey x.ex x.ey c, 0)) := hide (by
  unfold qg
  rw [if_neg (by rw [hO]; simp), if_neg (by rw [hG]; simp), if_neg (by rw [hL]; simp), if_neg (by rw [v1, v2, v3]; simp), if_neg (by omega)]
  unfold vR
  rw [if_pos (show x.ty = 1 by omega)])
 have CH := fun W => ju spd bank oalt gr W
 have LC := fun W hW => zL x hx.leg W hW
 rw [hO] at CH
 rw [hL] at LC
 obtain ⟨_, _, _, hg1, hg2⟩ := vu hO
 have hq := vq hL
 have P1 := fun W => qo fx fy W
 rw [v1] at P1
 have P2 := fun W => qo x.ex x.ey W
 rw [v2] at P2
 have P3 := fun W => qo x.mx x.my W
 rw [v3] at P3
 have RC := fun W => zF c W
 rw [decide_eq_true (show 0 ≤ c ∧ c < 129600000 by omega)] at RC
 obtain ⟨⟨k1, k2⟩, ⟨k3, k4⟩, ⟨k5, k6⟩, ⟨k7, k8⟩, ⟨k9, k10⟩, ⟨k11, k12, k13⟩, hturn0⟩ := hq
 obtain ⟨q1, q2, q3, q4, q5, q6, q7, q8, q9, q10, q11, q12, q13, q14, q15, q16, q17⟩ := FM hk
 have HK := hide hk
 have HG := hide hG
 clear hO hL v1 v2 v3 hturn0 hk hG
 have hM := qB w
 go_enter Tryz.func26, Tryz.ntmps26
 go_wp2_with (first | (go_at_call 23; refine cb hM (CH _) ?_; clear hM; intro W1 hM) | (go_at_call 54; (refine (LC _ (hide (qD hM hu.out))).mono ?_); rintro e W1 ⟨rfl, hb⟩; replace hM := qp hM hb; clear hb) | (go_at_call 16; (with_reducible refine cb hM (P1 _) ?_); clear hM; intro W1 hM) | (go_at_call 16; (with_reducible refine cb hM (P2 _) ?_); clear hM; intro W1 hM) | (go_at_call 16; (with_reducible refine cb hM (P3 _) ?_); clear hM; intro W1 hM) | (go_at_call 24; (with_reducible refine (RC _).mono ?_); rintro e W1 ⟨rfl, rfl⟩) | (go_at_call 25; refine (vQ _ _ _ _ _ _).mono ?_; rintro e W1 ⟨rfl, hb⟩; replace hM := qp hM hb; clear hb) | ((with_reducible refine lX ?_); refine mL ?_) | ((with_reducible refine sX ?_); refine mS ?_; clear hM; intro W hM) | ((with_reducible refine bX ?_); refine mB ?_; clear hM; intro g W hM) | ((with_reducible refine zX ?_); refine mB ?_; clear hM; intro g W hM))
 all_goals first
  | (exact absurd (show x.gap = true by assumption) (by rw [HG.out]; simp))
  | (exact absurd hG (show ¬ x.gap = true by assumption))
  | (refine' qR hM rfl rfl Tryz.isAgg69 Tryz.sizeOf69 rfl rfl ?_ ?_ ⟨?_, hM.below⟩; rotate_left 2; (· repeat constructor); (· rfl); (· refine' zN ?_ ?_; rotate_left 1; (· exact HT.out); (· first | rfl | (unfold yO; rw [HK.out]; rfl))))
theorem pM (fx fy c alt : Int) (x y : En) (spd bank oalt gr : Int) (hx : tL x) (hy : tL y) (w : World) (hu : Hid (jq w)) (hG : x.gap = false) (hO : vA spd bank oalt gr = 0) (hL : jn x = 0) (v1 : qf fx fy = true) (v2 : qf x.ex x.ey = true) (v3 : qf x.mx x.my = true) (hcr : 0 ≤ c ∧ c < 129600000) (ha1 : -200000 ≤ alt) (ha2 : alt ≤ 6000000) (hk : x.ty = 2) :
 Calls Tryz.prog 26 #[.agg #[.int .i64 fx, .int .i64 fy], .int .i64 c, .int .i64 alt, .agg x.cells.toArray, .agg y.cells.toArray, .agg #[.int .i64 spd, .int .i64 bank, .int .i64 oalt, .int .i64 gr]] w fun e w' => e = .returned (.tuple #[.agg (qg fx fy c alt x y spd bank oalt gr).1.cells.toArray, .int .i64 (qg fx fy c alt x y spd bank oalt gr).2]) ∧ Below w.heap.size w w' := by
 have HT : Hid (qg fx fy c alt x y spd bank oalt gr = (qY fx fy x.ex x.ey c, 0)) := hide (by
  unfold qg
  rw [if_neg (by rw [hO]; simp), if_neg (by rw [hG]; simp), if_neg (by rw [hL]; simp), if_neg (by rw [v1, v2, v3]; simp), if_neg (by omega)]
  unfold vR
  rw [if_neg (show ¬ (x.ty = 1) by omega), if_pos (show x.ty = 2 ∨ x.ty = 4 by omega)])
 have CH := fun W => ju spd bank oalt gr W
 have LC := fun W hW => zL x hx.leg W hW
 rw [hO] at CH
 rw [hL] at LC
 obtain ⟨_, _, _, hg1, hg2⟩ := vu hO
 have hq := vq hL
 have P1 := fun W => qo fx fy W
 rw [v1] at P1
 have P2 := fun W => qo x.ex x.ey W
 rw [v2] at P2
 have P3 := fun W => qo x.mx x.my W
 rw [v3] at P3
 have RC := fun W => zF c W
 rw [decide_eq_true (show 0 ≤ c ∧ c < 129600000 by omega)] at RC
 obtain ⟨⟨k1, k2⟩, ⟨k3, k4⟩, ⟨k5, k6⟩, ⟨k7, k8⟩, ⟨k9, k10⟩, ⟨k11, k12, k13⟩, hturn0⟩ := hq
 obtain ⟨q1, q2, q3, q4, q5, q6, q7, q8, q9, q10, q11, q12, q13, q14, q15, q16, q17⟩ := FN hk
 have HK := hide hk
 have HG := hide hG
 clear hO hL v1 v2 v3 hturn0 hk hG
 have hM := qB w
 go_enter Tryz.func26, Tryz.ntmps26
 go_wp2_with (first | (go_at_call 23; refine cb hM (CH _) ?_; clear hM; intro W1 hM) | (go_at_call 54; (refine (LC _ (hide (qD hM hu.out))).mono ?_); rintro e W1 ⟨rfl, hb⟩; replace hM := qp hM hb; clear hb) | (go_at_call 16; (with_reducible refine cb hM (P1 _) ?_); clear hM; intro W1 hM) | (go_at_call 16; (with_reducible refine cb hM (P2 _) ?_); clear hM; intro W1 hM) | (go_at_call 16; (with_reducible refine cb hM (P3 _) ?_); clear hM; intro W1 hM) | (go_at_call 24; (with_reducible refine (RC _).mono ?_); rintro e W1 ⟨rfl, rfl⟩) | (go_at_call 25; refine (vQ _ _ _ _ _ _).mono ?_; rintro e W1 ⟨rfl, hb⟩; replace hM := qp hM hb; clear hb) | ((with_reducible refine lX ?_); refine mL ?_) | ((with_reducible refine sX ?_); refine mS ?_; clear hM; intro W hM) | ((with_reducible refine bX ?_); refine mB ?_; clear hM; intro g W hM) | ((with_reducible refine zX ?_); refine mB ?_; clear hM; intro g W hM))
 all_goals first
  | (exact absurd (show x.gap = true by assumption) (by rw [HG.out]; simp))
  | (exact absurd hG (show ¬ x.gap = true by assumption))
  | (refine' qR hM rfl rfl Tryz.isAgg69 Tryz.sizeOf69 rfl rfl ?_ ?_ ⟨?_, hM.below⟩; rotate_left 2; (· repeat constructor); (· rfl); (· refine' zN ?_ ?_; rotate_left 1; (· exact HT.out); (· first | rfl | (unfold yO; rw [HK.out]; rfl))))
theorem pO (fx fy c alt : Int) (x y : En) (spd bank oalt gr : Int) (hx : tL x) (hy : tL y) (w : World) (hu : Hid (jq w)) (hG : x.gap = false) (hO : vA spd bank oalt gr = 0) (hL : jn x = 0) (v1 : qf fx fy = true) (v2 : qf x.ex x.ey = true) (v3 : qf x.mx x.my = true) (hcr : 0 ≤ c ∧ c < 129600000) (ha1 : -200000 ≤ alt) (ha2 : alt ≤ 6000000) (hk : x.ty = 4) :
 Calls Tryz.prog 26 #[.agg #[.int .i64 fx, .int .i64 fy], .int .i64 c, .int .i64 alt, .agg x.cells.toArray, .agg y.cells.toArray, .agg #[.int .i64 spd, .int .i64 bank, .int .i64 oalt, .int .i64 gr]] w fun e w' => e = .returned (.tuple #[.agg (qg fx fy c alt x y spd bank oalt gr).1.cells.toArray, .int .i64 (qg fx fy c alt x y spd bank oalt gr).2]) ∧ Below w.heap.size w w' := by
 have HT : Hid (qg fx fy c alt x y spd bank oalt gr = (qY fx fy x.ex x.ey c, 0)) := hide (by
  unfold qg
  rw [if_neg (by rw [hO]; simp), if_neg (by rw [hG]; simp), if_neg (by rw [hL]; simp), if_neg (by rw [v1, v2, v3]; simp), if_neg (by omega)]
  unfold vR
  rw [if_neg (show ¬ (x.ty = 1) by omega), if_pos (show x.ty = 2 ∨ x.ty = 4 by omega)])
 have CH := fun W => ju spd bank oalt gr W
 have LC := fun W hW => zL x hx.leg W hW
 rw [hO] at CH
 rw [hL] at LC
 obtain ⟨_, _, _, hg1, hg2⟩ := vu hO
 have hq := vq hL
 have P1 := fun W => qo fx fy W
 rw [v1] at P1
 have P2 := fun W => qo x.ex x.ey W
 rw [v2] at P2
 have P3 := fun W => qo x.mx x.my W
 rw [v3] at P3
 have RC := fun W => zF c W
 rw [decide_eq_true (show 0 ≤ c ∧ c < 129600000 by omega)] at RC
 obtain ⟨⟨k1, k2⟩, ⟨k3, k4⟩, ⟨k5, k6⟩, ⟨k7, k8⟩, ⟨k9, k10⟩, ⟨k11, k12, k13⟩, hturn0⟩ := hq
 obtain ⟨q1, q2, q3, q4, q5, q6, q7, q8, q9, q10, q11, q12, q13, q14, q15, q16, q17⟩ := FQ hk
 have HK := hide hk
 have HG := hide hG
 clear hO hL v1 v2 v3 hturn0 hk hG
 have hM := qB w
 go_enter Tryz.func26, Tryz.ntmps26
 go_wp2_with (first | (go_at_call 23; refine cb hM (CH _) ?_; clear hM; intro W1 hM) | (go_at_call 54; (refine (LC _ (hide (qD hM hu.out))).mono ?_); rintro e W1 ⟨rfl, hb⟩; replace hM := qp hM hb; clear hb) | (go_at_call 16; (with_reducible refine cb hM (P1 _) ?_); clear hM; intro W1 hM) | (go_at_call 16; (with_reducible refine cb hM (P2 _) ?_); clear hM; intro W1 hM) | (go_at_call 16; (with_reducible refine cb hM (P3 _) ?_); clear hM; intro W1 hM) | (go_at_call 24; (with_reducible refine (RC _).mono ?_); rintro e W1 ⟨rfl, rfl⟩) | (go_at_call 25; refine (vQ _ _ _ _ _ _).mono ?_; rintro e W1 ⟨rfl, hb⟩; replace hM := qp hM hb; clear hb) | ((with_reducible refine lX ?_); refine mL ?_) | ((with_reducible refine sX ?_); refine mS ?_; clear hM; intro W hM) | ((with_reducible refine bX ?_); refine mB ?_; clear hM; intro g W hM) | ((with_reducible refine zX ?_); refine mB ?_; clear hM; intro g W hM))
 all_goals first
  | (exact absurd (show x.gap = true by assumption) (by rw [HG.out]; simp))
  | (exact absurd hG (show ¬ x.gap = true by assumption))
  | (refine' qR hM rfl rfl Tryz.isAgg69 Tryz.sizeOf69 rfl rfl ?_ ?_ ⟨?_, hM.below⟩; rotate_left 2; (· repeat constructor); (· rfl); (· refine' zN ?_ ?_; rotate_left 1; (· exact HT.out); (· first | rfl | (unfold yO; rw [HK.out]; rfl))))
theorem pP (fx fy c alt : Int) (x y : En) (spd bank oalt gr : Int) (hx : tL x) (hy : tL y) (w : World) (hu : Hid (jq w)) (hG : x.gap = false) (hO : vA spd bank oalt gr = 0) (hL : jn x = 0) (v1 : qf fx fy = true) (v2 : qf x.ex x.ey = true) (v3 : qf x.mx x.my = true) (hcr : 0 ≤ c ∧ c < 129600000) (ha1 : -200000 ≤ alt) (ha2 : alt ≤ 6000000) (hk : x.ty = 3) :
 Calls Tryz.prog 26 #[.agg #[.int .i64 fx, .int .i64 fy], .int .i64 c, .int .i64 alt, .agg x.cells.toArray, .agg y.cells.toArray, .agg #[.int .i64 spd, .int .i64 bank, .int .i64 oalt, .int .i64 gr]] w fun e w' => e = .returned (.tuple #[.agg (qg fx fy c alt x y spd bank oalt gr).1.cells.toArray, .int .i64 (qg fx fy c alt x y spd bank oalt gr).2]) ∧ Below w.heap.size w w' := by
 have HT : Hid (qg fx fy c alt x y spd bank oalt gr = yS fx fy c x) := hide (by
  unfold qg
  rw [if_neg (by rw [hO]; simp), if_neg (by rw [hG]; simp), if_neg (by rw [hL]; simp), if_neg (by rw [v1, v2, v3]; simp), if_neg (by omega)]
  unfold vR
  rw [if_neg (show ¬ (x.ty = 1) by omega), if_neg (show ¬ (x.ty = 2 ∨ x.ty = 4) by omega), if_pos (show x.ty = 3 by omega)])
 have CH := fun W => ju spd bank oalt gr W
 have LC := fun W hW => zL x hx.leg W hW
 rw [hO] at CH
 rw [hL] at LC
 obtain ⟨_, _, _, hg1, hg2⟩ := vu hO
 have hq := vq hL
 have P1 := fun W => qo fx fy W
 rw [v1] at P1
 have P2 := fun W => qo x.ex x.ey W
 rw [v2] at P2
 have P3 := fun W => qo x.mx x.my W
 rw [v3] at P3
 have RC := fun W => zF c W
 rw [decide_eq_true (show 0 ≤ c ∧ c < 129600000 by omega)] at RC
 obtain ⟨⟨k1, k2⟩, ⟨k3, k4⟩, ⟨k5, k6⟩, ⟨k7, k8⟩, ⟨k9, k10⟩, ⟨k11, k12, k13⟩, hturn0⟩ := hq
 obtain ⟨q1, q2, q3, q4, q5, q6, q7, q8, q9, q10, q11, q12, q13, q14, q15, q16, q17⟩ := FP hk
 have XC := fun W => fM fx fy c x k3 k4 W
 simp only [En.cells, hG] at XC
 have HK := hide hk
 have HG := hide hG
 clear hO hL v1 v2 v3 hturn0 hk hG
 have hM := qB w
 go_enter Tryz.func26, Tryz.ntmps26
 go_wp2_with (first | (go_at_call 23; refine cb hM (CH _) ?_; clear hM; intro W1 hM) | (go_at_call 54; (refine (LC _ (hide (qD hM hu.out))).mono ?_); rintro e W1 ⟨rfl, hb⟩; replace hM := qp hM hb; clear hb) | (go_at_call 16; (with_reducible refine cb hM (P1 _) ?_); clear hM; intro W1 hM) | (go_at_call 16; (with_reducible refine cb hM (P2 _) ?_); clear hM; intro W1 hM) | (go_at_call 16; (with_reducible refine cb hM (P3 _) ?_); clear hM; intro W1 hM) | (go_at_call 24; (with_reducible refine (RC _).mono ?_); rintro e W1 ⟨rfl, rfl⟩) | (go_at_call 55; (with_reducible refine cb hM (XC _) ?_); clear hM; intro W1 hM) | ((with_reducible refine lX ?_); refine mL ?_) | ((with_reducible refine sX ?_); refine mS ?_; clear hM; intro W hM) | ((with_reducible refine bX ?_); refine mB ?_; clear hM; intro g W hM) | ((with_reducible refine zX ?_); refine mB ?_; clear hM; intro g W hM))
 all_goals first
  | (exact absurd (show x.gap = true by assumption) (by rw [HG.out]; simp))
  | (exact absurd hG (show ¬ x.gap = true by assumption))
  | (refine' qR hM rfl rfl Tryz.isAgg69 Tryz.sizeOf69 rfl rfl ?_ ?_ ⟨?_, hM.below⟩; rotate_left 2; (· repeat constructor); (· rfl); (· refine' zN ?_ ?_; rotate_left 1; (· exact HT.out.trans kO); (· rfl)))
theorem pQ (fx fy c alt : Int) (x y : En) (spd bank oalt gr : Int) (hx : tL x) (hy : tL y) (w : World) (hu : Hid (jq w)) (hG : x.gap = false) (hO : vA spd bank oalt gr = 0) (hL : jn x = 0) (v1 : qf fx fy = true) (v2 : qf x.ex x.ey = true) (v3 : qf x.mx x.my = true) (hcr : 0 ≤ c ∧ c < 129600000) (ha1 : -200000 ≤ alt) (ha2 : alt ≤ 6000000) (hk : x.ty = 5) :
 Calls Tryz.prog 26 #[.agg #[.int .i64 fx, .int .i64 fy], .int .i64 c, .int .i64 alt, .agg x.cells.toArray, .agg y.cells.toArray, .agg #[.int .i64 spd, .int .i64 bank, .int .i64 oalt, .int .i64 gr]] w fun e w' => e = .returned (.tuple #[.agg (qg fx fy c alt x y spd bank oalt gr).1.cells.toArray, .int .i64 (qg fx fy c alt x y spd bank oalt gr).2]) ∧ Below w.heap.size w w' := by
 have HT : Hid (qg fx fy c alt x y spd bank oalt gr = jP fx fy x) := hide (by
  unfold qg
  rw [if_neg (by rw [hO]; simp), if_neg (by rw [hG]; simp), if_neg (by rw [hL]; simp), if_neg (by rw [v1, v2, v3]; simp), if_neg (by omega)]
  unfold vR
  rw [if_neg (show ¬ (x.ty = 1) by omega), if_neg (show ¬ (x.ty = 2 ∨ x.ty = 4) by omega), if_neg (show ¬ (x.ty = 3) by omega), if_pos (show x.ty = 5 ∨ x.ty = 6 by omega)])
 have CH := fun W => ju spd bank oalt gr W
 have LC := fun W hW => zL x hx.leg W hW
 rw [hO] at CH
 rw [hL] at LC
 obtain ⟨_, _, _, hg1, hg2⟩ := vu hO
 have hq := vq hL
 have P1 := fun W => qo fx fy W
 rw [v1] at P1
 have P2 := fun W => qo x.ex x.ey W
 rw [v2] at P2
 have P3 := fun W => qo x.mx x.my W
 rw [v3] at P3
 have RC := fun W => zF c W
 rw [decide_eq_true (show 0 ≤ c ∧ c < 129600000 by omega)] at RC
 obtain ⟨⟨k1, k2⟩, ⟨k3, k4⟩, ⟨k5, k6⟩, ⟨k7, k8⟩, ⟨k9, k10⟩, ⟨k11, k12, k13⟩, hturn0⟩ := hq
 have hturn : x.tn = 1 ∨ x.tn = 2 := hturn0 (by rw [hk]; rfl)
 obtain ⟨q1, q2, q3, q4, q5, q6, q7, q8, q9, q10, q11, q12, q13, q14, q15, q16, q17⟩ := FT hk
 have XC := fun W => Ka fx fy x hturn k7 k8 W
 simp only [En.cells, hG] at XC
 have HK := hide hk
 have HG := hide hG
 clear hO hL v1 v2 v3 hturn0 hk hG
 have hM := qB w
 go_enter Tryz.func26, Tryz.ntmps26
 go_wp2_with (first | (go_at_call 23; refine cb hM (CH _) ?_; clear hM; intro W1 hM) | (go_at_call 54; (refine (LC _ (hide (qD hM hu.out))).mono ?_); rintro e W1 ⟨rfl, hb⟩; replace hM := qp hM hb; clear hb) | (go_at_call 16; (with_reducible refine cb hM (P1 _) ?_); clear hM; intro W1 hM) | (go_at_call 16; (with_reducible refine cb hM (P2 _) ?_); clear hM; intro W1 hM) | (go_at_call 16; (with_reducible refine cb hM (P3 _) ?_); clear hM; intro W1 hM) | (go_at_call 24; (with_reducible refine (RC _).mono ?_); rintro e W1 ⟨rfl, rfl⟩) | (go_at_call 56; (with_reducible refine cb hM (XC _) ?_); clear hM; intro W1 hM) | ((with_reducible refine lX ?_); refine mL ?_) | ((with_reducible refine sX ?_); refine mS ?_; clear hM; intro W hM) | ((with_reducible refine bX ?_); refine mB ?_; clear hM; intro g W hM) | ((with_reducible refine zX ?_); refine mB ?_; clear hM; intro g W hM))
 all_goals first
  | (exact absurd (show x.gap = true by assumption) (by rw [HG.out]; simp))
  | (exact absurd hG (show ¬ x.gap = true by assumption))
  | (refine' qR hM rfl rfl Tryz.isAgg69 Tryz.sizeOf69 rfl rfl ?_ ?_ ⟨?_, hM.below⟩; rotate_left 2; (· repeat constructor); (· rfl); (· refine' zN ?_ ?_; rotate_left 1; (· exact HT.out.trans kO); (· rfl)))
theorem pR (fx fy c alt : Int) (x y : En) (spd bank oalt gr : Int) (hx : tL x) (hy : tL y) (w : World) (hu : Hid (jq w)) (hG : x.gap = false) (hO : vA spd bank oalt gr = 0) (hL : jn x = 0) (v1 : qf fx fy = true) (v2 : qf x.ex x.ey = true) (v3 : qf x.mx x.my = true) (hcr : 0 ≤ c ∧ c < 129600000) (ha1 : -200000 ≤ alt) (ha2 : alt ≤ 6000000) (hk : x.ty = 6) :
 Calls Tryz.prog 26 #[.agg #[.int .i64 fx, .int .i64 fy], .int .i64 c, .int .i64 alt, .agg x.cells.toArray, .agg y.cells.toArray, .agg #[.int .i64 spd, .int .i64 bank, .int .i64 oalt, .int .i64 gr]] w fun e w' => e = .returned (.tuple #[.agg (qg fx fy c alt x y spd bank oalt gr).1.cells.toArray, .int .i64 (qg fx fy c alt x y spd bank oalt gr).2]) ∧ Below w.heap.size w w' := by
 have HT : Hid (qg fx fy c alt x y spd bank oalt gr = jP fx fy x) := hide (by
  unfold qg
  rw [if_neg (by rw [hO]; simp), if_neg (by rw [hG]; simp), if_neg (by rw [hL]; simp), if_neg (by rw [v1, v2, v3]; simp), if_neg (by omega)]
  unfold vR
  rw [if_neg (show ¬ (x.ty = 1) by omega), if_neg (show ¬ (x.ty = 2 ∨ x.ty = 4) by omega), if_neg (show ¬ (x.ty = 3) by omega), if_pos (show x.ty = 5 ∨ x.ty = 6 by omega)])
 have CH := fun W => ju spd bank oalt gr W
 have LC := fun W hW => zL x hx.leg W hW
 rw [hO] at CH
 rw [hL] at LC
 obtain ⟨_, _, _, hg1, hg2⟩ := vu hO
 have hq := vq hL
 have P1 := fun W => qo fx fy W
 rw [v1] at P1
 have P2 := fun W => qo x.ex x.ey W
 rw [v2] at P2
 have P3 := fun W => qo x.mx x.my W
 rw [v3] at P3
 have RC := fun W => zF c W
 rw [decide_eq_true (show 0 ≤ c ∧ c < 129600000 by omega)] at RC
 obtain ⟨⟨k1, k2⟩, ⟨k3, k4⟩, ⟨k5, k6⟩, ⟨k7, k8⟩, ⟨k9, k10⟩, ⟨k11, k12, k13⟩, hturn0⟩ := hq
 have hturn : x.tn = 1 ∨ x.tn = 2 := hturn0 (by rw [hk]; rfl)
 obtain ⟨q1, q2, q3, q4, q5, q6, q7, q8, q9, q10, q11, q12, q13, q14, q15, q16, q17⟩ := FU hk
 have XC := fun W => Ka fx fy x hturn k7 k8 W
 simp only [En.cells, hG] at XC
 have HK := hide hk
 have HG := hide hG
 clear hO hL v1 v2 v3 hturn0 hk hG
 have hM := qB w
 go_enter Tryz.func26, Tryz.ntmps26
 go_wp2_with (first | (go_at_call 23; refine cb hM (CH _) ?_; clear hM; intro W1 hM) | (go_at_call 54; (refine (LC _ (hide (qD hM hu.out))).mono ?_); rintro e W1 ⟨rfl, hb⟩; replace hM := qp hM hb; clear hb) | (go_at_call 16; (with_reducible refine cb hM (P1 _) ?_); clear hM; intro W1 hM) | (go_at_call 16; (with_reducible refine cb hM (P2 _) ?_); clear hM; intro W1 hM) | (go_at_call 16; (with_reducible refine cb hM (P3 _) ?_); clear hM; intro W1 hM) | (go_at_call 24; (with_reducible refine (RC _).mono ?_); rintro e W1 ⟨rfl, rfl⟩) | (go_at_call 56; (with_reducible refine cb hM (XC _) ?_); clear hM; intro W1 hM) | ((with_reducible refine lX ?_); refine mL ?_) | ((with_reducible refine sX ?_); refine mS ?_; clear hM; intro W hM) | ((with_reducible refine bX ?_); refine mB ?_; clear hM; intro g W hM) | ((with_reducible refine zX ?_); refine mB ?_; clear hM; intro g W hM))
 all_goals first
  | (exact absurd (show x.gap = true by assumption) (by rw [HG.out]; simp))
  | (exact absurd hG (show ¬ x.gap = true by assumption))
  | (refine' qR hM rfl rfl Tryz.isAgg69 Tryz.sizeOf69 rfl rfl ?_ ?_ ⟨?_, hM.below⟩; rotate_left 2; (· repeat constructor); (· rfl); (· refine' zN ?_ ?_; rotate_left 1; (· exact HT.out.trans kO); (· rfl)))
theorem pT (fx fy c alt : Int) (x y : En) (spd bank oalt gr : Int) (hx : tL x) (hy : tL y) (w : World) (hu : Hid (jq w)) (hG : x.gap = false) (hO : vA spd bank oalt gr = 0) (hL : jn x = 0) (v1 : qf fx fy = true) (v2 : qf x.ex x.ey = true) (v3 : qf x.mx x.my = true) (hcr : 0 ≤ c ∧ c < 129600000) (ha1 : -200000 ≤ alt) (ha2 : alt ≤ 6000000) (hk : x.ty = 7) :
 Calls Tryz.prog 26 #[.agg #[.int .i64 fx, .int .i64 fy], .int .i64 c, .int .i64 alt, .agg x.cells.toArray, .agg y.cells.toArray, .agg #[.int .i64 spd, .int .i64 bank, .int .i64 oalt, .int .i64 gr]] w fun e w' => e = .returned (.tuple #[.agg (qg fx fy c alt x y spd bank oalt gr).1.cells.toArray, .int .i64 (qg fx fy c alt x y spd bank oalt gr).2]) ∧ Below w.heap.size w w' := by
 have HT : Hid (qg fx fy c alt x y spd bank oalt gr = yp fx fy alt x gr) := hide (by
  unfold qg
  rw [if_neg (by rw [hO]; simp), if_neg (by rw [hG]; simp), if_neg (by rw [hL]; simp), if_neg (by rw [v1, v2, v3]; simp), if_neg (by omega)]
  unfold vR
  rw [if_neg (show ¬ (x.ty = 1) by omega), if_neg (show ¬ (x.ty = 2 ∨ x.ty = 4) by omega), if_neg (show ¬ (x.ty = 3) by omega), if_neg (show ¬ (x.ty = 5 ∨ x.ty = 6) by omega), if_pos (show x.ty = 7 by omega)])
 have CH := fun W => ju spd bank oalt gr W
 have LC := fun W hW => zL x hx.leg W hW
 rw [hO] at CH
 rw [hL] at LC
 obtain ⟨_, _, _, hg1, hg2⟩ := vu hO
 have hq := vq hL
 have P1 := fun W => qo fx fy W
 rw [v1] at P1
 have P2 := fun W => qo x.ex x.ey W
 rw [v2] at P2
 have P3 := fun W => qo x.mx x.my W
 rw [v3] at P3
 have RC := fun W => zF c W
 rw [decide_eq_true (show 0 ≤ c ∧ c < 129600000 by omega)] at RC
 obtain ⟨⟨k1, k2⟩, ⟨k3, k4⟩, ⟨k5, k6⟩, ⟨k7, k8⟩, ⟨k9, k10⟩, ⟨k11, k12, k13⟩, hturn0⟩ := hq
 obtain ⟨q1, q2, q3, q4, q5, q6, q7, q8, q9, q10, q11, q12, q13, q14, q15, q16, q17⟩ := FV hk
 have XC := fun W => UA fx fy alt x spd bank oalt gr ha1 ha2 k11 (by omega) hg1 hg2 (by unfold qH; omega) W
 simp only [En.cells, hG] at XC
 have HK := hide hk
 have HG := hide hG
 clear hO hL v1 v2 v3 hturn0 hk hG
 have hM := qB w
 go_enter Tryz.func26, Tryz.ntmps26
 go_wp2_with (first | (go_at_call 23; refine cb hM (CH _) ?_; clear hM; intro W1 hM) | (go_at_call 54; (refine (LC _ (hide (qD hM hu.out))).mono ?_); rintro e W1 ⟨rfl, hb⟩; replace hM := qp hM hb; clear hb) | (go_at_call 16; (with_reducible refine cb hM (P1 _) ?_); clear hM; intro W1 hM) | (go_at_call 16; (with_reducible refine cb hM (P2 _) ?_); clear hM; intro W1 hM) | (go_at_call 16; (with_reducible refine cb hM (P3 _) ?_); clear hM; intro W1 hM) | (go_at_call 24; (with_reducible refine (RC _).mono ?_); rintro e W1 ⟨rfl, rfl⟩) | (go_at_call 57; (with_reducible refine cb hM (XC _) ?_); clear hM; intro W1 hM) | ((with_reducible refine lX ?_); refine mL ?_) | ((with_reducible refine sX ?_); refine mS ?_; clear hM; intro W hM) | ((with_reducible refine bX ?_); refine mB ?_; clear hM; intro g W hM) | ((with_reducible refine zX ?_); refine mB ?_; clear hM; intro g W hM))
 all_goals first
  | (exact absurd (show x.gap = true by assumption) (by rw [HG.out]; simp))
  | (exact absurd hG (show ¬ x.gap = true by assumption))
  | (refine' qR hM rfl rfl Tryz.isAgg69 Tryz.sizeOf69 rfl rfl ?_ ?_ ⟨?_, hM.below⟩; rotate_left 2; (· repeat constructor); (· rfl); (· refine' zN ?_ ?_; rotate_left 1; (· exact HT.out.trans kO); (· rfl)))
theorem Tj (fx fy c alt : Int) (x y : En) (spd bank oalt gr : Int) (hx : tL x) (hy : tL y) (w : World) (hu : Hid (jq w)) (hG : x.gap = false) (hO : vA spd bank oalt gr = 0) (hL : jn x = 0) (v1 : qf fx fy = true) (v2 : qf x.ex x.ey = true) (v3 : qf x.mx x.my = true) (hcr : 0 ≤ c ∧ c < 129600000) (ha1 : -200000 ≤ alt) (ha2 : alt ≤ 6000000) (hk : x.ty = 11) :
 Calls Tryz.prog 26 #[.agg #[.int .i64 fx, .int .i64 fy], .int .i64 c, .int .i64 alt, .agg x.cells.toArray, .agg y.cells.toArray, .agg #[.int .i64 spd, .int .i64 bank, .int .i64 oalt, .int .i64 gr]] w fun e w' => e = .returned (.tuple #[.agg (qg fx fy c alt x y spd bank oalt gr).1.cells.toArray, .int .i64 (qg fx fy c alt x y spd bank oalt gr).2]) ∧ Below w.heap.size w w' := by
 have HT : Hid (qg fx fy c alt x y spd bank oalt gr = yp x.ex x.ey alt x gr) := hide (by
  unfold qg
  rw [if_neg (by rw [hO]; simp), if_neg (by rw [hG]; simp), if_neg (by rw [hL]; simp), if_neg (by rw [v1, v2, v3]; simp), if_neg (by omega)]
  unfold vR
  rw [if_neg (show ¬ (x.ty = 1) by omega), if_neg (show ¬ (x.ty = 2 ∨ x.ty = 4) by omega), if_neg (show ¬ (x.ty = 3) by omega), if_neg (show ¬ (x.ty = 5 ∨ x.ty = 6) by omega), if_neg (show ¬ (x.ty = 7) by omega), if_pos (show x.ty = 11 by omega)])
 have CH := fun W => ju spd bank oalt gr W
 have LC := fun W hW => zL x hx.leg W hW
 rw [hO] at CH
 rw [hL] at LC
 obtain ⟨_, _, _, hg1, hg2⟩ := vu hO
 have hq := vq hL
 have P1 := fun W => qo fx fy W
 rw [v1] at P1
 have P2 := fun W => qo x.ex x.ey W
 rw [v2] at P2
 have P3 := fun W => qo x.mx x.my W
 rw [v3] at P3
 have RC := fun W => zF c W
 rw [decide_eq_true (show 0 ≤ c ∧ c < 129600000 by omega)] at RC
 obtain ⟨⟨k1, k2⟩, ⟨k3, k4⟩, ⟨k5, k6⟩, ⟨k7, k8⟩, ⟨k9, k10⟩, ⟨k11, k12, k13⟩, hturn0⟩ := hq
 obtain ⟨q1, q2, q3, q4, q5, q6, q7, q8, q9, q10, q11, q12, q13, q14, q15, q16, q17⟩ := CZ hk
 have XC := fun W => UA x.ex x.ey alt x spd bank oalt gr ha1 ha2 k11 (by omega) hg1 hg2 (by unfold qH; omega) W
 simp only [En.cells, hG] at XC
 have HK := hide hk
 have HG := hide hG
 clear hO hL v1 v2 v3 hturn0 hk hG
 have hM := qB w
 go_enter Tryz.func26, Tryz.ntmps26
 go_wp2_with (first | (go_at_call 23; refine cb hM (CH _) ?_; clear hM; intro W1 hM) | (go_at_call 54; (refine (LC _ (hide (qD hM hu.out))).mono ?_); rintro e W1 ⟨rfl, hb⟩; replace hM := qp hM hb; clear hb) | (go_at_call 16; (with_reducible refine cb hM (P1 _) ?_); clear hM; intro W1 hM) | (go_at_call 16; (with_reducible refine cb hM (P2 _) ?_); clear hM; intro W1 hM) | (go_at_call 16; (with_reducible refine cb hM (P3 _) ?_); clear hM; intro W1 hM) | (go_at_call 24; (with_reducible refine (RC _).mono ?_); rintro e W1 ⟨rfl, rfl⟩) | (go_at_call 57; (with_reducible refine cb hM (XC _) ?_); clear hM; intro W1 hM) | ((with_reducible refine lX ?_); refine mL ?_) | ((with_reducible refine sX ?_); refine mS ?_; clear hM; intro W hM) | ((with_reducible refine bX ?_); refine mB ?_; clear hM; intro g W hM) | ((with_reducible refine zX ?_); refine mB ?_; clear hM; intro g W hM))
 all_goals first
  | (exact absurd (show x.gap = true by assumption) (by rw [HG.out]; simp))
  | (exact absurd hG (show ¬ x.gap = true by assumption))
  | (refine' qR hM rfl rfl Tryz.isAgg69 Tryz.sizeOf69 rfl rfl ?_ ?_ ⟨?_, hM.below⟩; rotate_left 2; (· repeat constructor); (· rfl); (· refine' zN ?_ ?_; rotate_left 1; (· exact HT.out.trans kO); (· rfl)))
end Go.Proofs.YteanfgobpjdmnaaGreatDoor
