/-
  Resolve on legs of some types.
-/
import Derived.Test.YteanfgobpjdmnaaGreatDoorMResD
import Derived.Test.YteanfgobpjdmnaaGreatDoorMResC
set_option maxRecDepth 100000
set_option maxHeartbeats 16000000
namespace Go.Proofs.YteanfgobpjdmnaaGreatDoor
open Go.RowKit
set_option linter.unusedVariables false
set_option linter.unusedSimpArgs false
theorem Tl (fx fy c alt : Int) (x y : En) (spd bank oalt gr : Int) (hx : tL x) (hy : tL y) (w : World) (hu : Hid (jq w)) (hG : x.gap = false) (hO : vA spd bank oalt gr = 0) (hL : jn x = 0) (v1 : qf fx fy = true) (v2 : qf x.ex x.ey = true) (v3 : qf x.mx x.my = true) (hcr : 0 ≤ c ∧ c < 129600000) (ha1 : -200000 ≤ alt) (ha2 : alt ≤ 6000000) (hk : x.ty = 12) :
 Calls Tryz.prog 26 #[.agg #[.int .i64 fx, .int .i64 fy], .int .i64 c, .int .i64 alt, .agg x.cells.toArray, .agg y.cells.toArray, .agg #[.int .i64 spd, .int .i64 bank, .int .i64 oalt, .int .i64 gr]] w fun e w' => e = .returned (.tuple #[.agg (qg fx fy c alt x y spd bank oalt gr).1.cells.toArray, .int .i64 (qg fx fy c alt x y spd bank oalt gr).2]) ∧ Below w.heap.size w w' := by
 have HT : Hid (qg fx fy c alt x y spd bank oalt gr = kw x.ex x.ey x.crs x.dst) := hide (by
  unfold qg
  rw [if_neg (by rw [hO]; simp), if_neg (by rw [hG]; simp), if_neg (by rw [hL]; simp), if_neg (by rw [v1, v2, v3]; simp), if_neg (by omega)]
  unfold vR
  rw [if_neg (show ¬ (x.ty = 1) by omega), if_neg (show ¬ (x.ty = 2 ∨ x.ty = 4) by omega), if_neg (show ¬ (x.ty = 3) by omega), if_neg (show ¬ (x.ty = 5 ∨ x.ty = 6) by omega), if_neg (show ¬ (x.ty = 7) by omega), if_neg (show ¬ (x.ty = 11) by omega), if_pos (show x.ty = 12 by omega)])
 have CH := fun W => ju spd bank oalt gr W
 have LC := fun W hW => zL x hx.leg W hW
 rw [hO] at CH
 rw [hL] at LC
 obtain ⟨_, _, _, hg1, hg2⟩ := vu hO
 have hq := vq hL
 have P1 := fun W => qo fx fy W
 rw [v1] at P1
 have P2 := fun W => qo x.ex x.ey W
 rw [v2] at P2
 have P3 := fun W => qo x.mx x.my W
 rw [v3] at P3
 have RC := fun W => zF c W
 rw [decide_eq_true (show 0 ≤ c ∧ c < 129600000 by omega)] at RC
 obtain ⟨⟨k1, k2⟩, ⟨k3, k4⟩, ⟨k5, k6⟩, ⟨k7, k8⟩, ⟨k9, k10⟩, ⟨k11, k12, k13⟩, hturn0⟩ := hq
 obtain ⟨q1, q2, q3, q4, q5, q6, q7, q8, q9, q10, q11, q12, q13, q14, q15, q16, q17⟩ := Fa hk
 have HK := hide hk
 have HG := hide hG
 clear hO hL v1 v2 v3 hturn0 hk hG
 have hM := qB w
 go_enter Tryz.func26, Tryz.ntmps26
 go_wp2_with (first | (go_at_call 23; refine cb hM (CH _) ?_; clear hM; intro W1 hM) | (go_at_call 54; (refine (LC _ (hide (qD hM hu.out))).mono ?_); rintro e W1 ⟨rfl, hb⟩; replace hM := qp hM hb; clear hb) | (go_at_call 16; (with_reducible refine cb hM (P1 _) ?_); clear hM; intro W1 hM) | (go_at_call 16; (with_reducible refine cb hM (P2 _) ?_); clear hM; intro W1 hM) | (go_at_call 16; (with_reducible refine cb hM (P3 _) ?_); clear hM; intro W1 hM) | (go_at_call 24; (with_reducible refine (RC _).mono ?_); rintro e W1 ⟨rfl, rfl⟩) | (go_at_call 58; refine (VZ _ _ _ _ ?_ ?_ _).mono ?_; (· first | assumption | (unfold qH; omega)); (· first | assumption | (unfold qH; omega)); rintro e W1 ⟨rfl, hb⟩; replace hM := qp hM hb; clear hb) | ((with_reducible refine lX ?_); refine mL ?_) | ((with_reducible refine sX ?_); refine mS ?_; clear hM; intro W hM) | ((with_reducible refine bX ?_); refine mB ?_; clear hM; intro g W hM) | ((with_reducible refine zX ?_); refine mB ?_; clear hM; intro g W hM))
 all_goals first
  | (exact absurd (show x.gap = true by assumption) (by rw [HG.out]; simp))
  | (exact absurd hG (show ¬ x.gap = true by assumption))
  | (refine' qR hM rfl rfl Tryz.isAgg69 Tryz.sizeOf69 rfl rfl ?_ ?_ ⟨?_, hM.below⟩; rotate_left 2; (· repeat constructor); (· rfl); (· refine' zN ?_ ?_; rotate_left 1; (· exact HT.out.trans kO); (· rfl)))
theorem Tm (fx fy c alt : Int) (x y : En) (spd bank oalt gr : Int) (hx : tL x) (hy : tL y) (w : World) (hu : Hid (jq w)) (hG : x.gap = false) (hO : vA spd bank oalt gr = 0) (hL : jn x = 0) (v1 : qf fx fy = true) (v2 : qf x.ex x.ey = true) (v3 : qf x.mx x.my = true) (hcr : 0 ≤ c ∧ c < 129600000) (ha1 : -200000 ≤ alt) (ha2 : alt ≤ 6000000) (hk : x.ty = 13) :
 Calls Tryz.prog 26 #[.agg #[.int .i64 fx, .int .i64 fy], .int .i64 c, .int .i64 alt, .agg x.cells.toArray, .agg y.cells.toArray, .agg #[.int .i64 spd, .int .i64 bank, .int .i64 oalt, .int .i64 gr]] w fun e w' => e = .returned (.tuple #[.agg (qg fx fy c alt x y spd bank oalt gr).1.cells.toArray, .int .i64 (qg fx fy c alt x y spd bank oalt gr).2]) ∧ Below w.heap.size w w' := by
 have HT : Hid (qg fx fy c alt x y spd bank oalt gr = uV x.ex x.ey x.crs) := hide (by
  unfold qg
  rw [if_neg (by rw [hO]; simp), if_neg (by rw [hG]; simp), if_neg (by rw [hL]; simp), if_neg (by rw [v1, v2, v3]; simp), if_neg (by omega)]
  unfold vR
  rw [if_neg (show ¬ (x.ty = 1) by omega), if_neg (show ¬ (x.ty = 2 ∨ x.ty = 4) by omega), if_neg (show ¬ (x.ty = 3) by omega), if_neg (show ¬ (x.ty = 5 ∨ x.ty = 6) by omega), if_neg (show ¬ (x.ty = 7) by omega), if_neg (show ¬ (x.ty = 11) by omega), if_neg (show ¬ (x.ty = 12) by omega), if_pos (show x.ty = 13 by omega)])
 have CH := fun W => ju spd bank oalt gr W
 have LC := fun W hW => zL x hx.leg W hW
 rw [hO] at CH
 rw [hL] at LC
 obtain ⟨_, _, _, hg1, hg2⟩ := vu hO
 have hq := vq hL
 have P1 := fun W => qo fx fy W
 rw [v1] at P1
 have P2 := fun W => qo x.ex x.ey W
 rw [v2] at P2
 have P3 := fun W => qo x.mx x.my W
 rw [v3] at P3
 have RC := fun W => zF c W
 rw [decide_eq_true (show 0 ≤ c ∧ c < 129600000 by omega)] at RC
 obtain ⟨⟨k1, k2⟩, ⟨k3, k4⟩, ⟨k5, k6⟩, ⟨k7, k8⟩, ⟨k9, k10⟩, ⟨k11, k12, k13⟩, hturn0⟩ := hq
 obtain ⟨q1, q2, q3, q4, q5, q6, q7, q8, q9, q10, q11, q12, q13, q14, q15, q16, q17⟩ := Fb hk
 have HK := hide hk
 have HG := hide hG
 clear hO hL v1 v2 v3 hturn0 hk hG
 have XC := fun W => VZ x.ex x.ey x.crs 300000 (by unfold qH; omega) (by unfold qH; omega) W
 obtain ⟨T0, E0, hT⟩ : ∃ T0 E0, kw x.ex x.ey x.crs 300000 = (T0, E0) := ⟨_, _, rfl⟩
 have HU := HT.out
 unfold uV at HU
 rw [hT] at XC HU
 dsimp only at XC HU
 clear hT HT
 by_cases h0 : E0 = 0
 · subst h0
   have HT := hide HU
   clear HU
   have hM := qB w
   go_enter Tryz.func26, Tryz.ntmps26
   go_wp2_with (first | (go_at_call 23; refine cb hM (CH _) ?_; clear hM; intro W1 hM) | (go_at_call 54; (refine (LC _ (hide (qD hM hu.out))).mono ?_); rintro e W1 ⟨rfl, hb⟩; replace hM := qp hM hb; clear hb) | (go_at_call 16; (with_reducible refine cb hM (P1 _) ?_); clear hM; intro W1 hM) | (go_at_call 16; (with_reducible refine cb hM (P2 _) ?_); clear hM; intro W1 hM) | (go_at_call 16; (with_reducible refine cb hM (P3 _) ?_); clear hM; intro W1 hM) | (go_at_call 24; (with_reducible refine (RC _).mono ?_); rintro e W1 ⟨rfl, rfl⟩) | (go_at_call 58; (with_reducible refine cb hM (XC _) ?_); clear hM; intro W1 hM) | ((with_reducible refine lX ?_); refine mL ?_) | ((with_reducible refine sX ?_); refine mS ?_; clear hM; intro W hM) | ((with_reducible refine bX ?_); refine mB ?_; clear hM; intro g W hM) | ((with_reducible refine zX ?_); refine mB ?_; clear hM; intro g W hM))
   all_goals first
    | (exact absurd (show x.gap = true by assumption) (by rw [HG.out]; simp))
    | (exact absurd hG (show ¬ x.gap = true by assumption))
    | (refine' qR hM rfl rfl Tryz.isAgg69 Tryz.sizeOf69 rfl rfl ?_ ?_ ⟨?_, hM.below⟩; rotate_left 2; (· repeat constructor); (· rfl); (· refine' zN ?_ ?_; rotate_left 1; (· exact HT.out); (· rfl)))
 · have HT := hide (HU.trans (if_neg h0))
   have hne : (E0 == 0) = false := by simpa using h0
   clear HU h0
   have hM := qB w
   go_enter Tryz.func26, Tryz.ntmps26
   go_wp2_with (first | (go_at_call 23; refine cb hM (CH _) ?_; clear hM; intro W1 hM) | (go_at_call 54; (refine (LC _ (hide (qD hM hu.out))).mono ?_); rintro e W1 ⟨rfl, hb⟩; replace hM := qp hM hb; clear hb) | (go_at_call 16; (with_reducible refine cb hM (P1 _) ?_); clear hM; intro W1 hM) | (go_at_call 16; (with_reducible refine cb hM (P2 _) ?_); clear hM; intro W1 hM) | (go_at_call 16; (with_reducible refine cb hM (P3 _) ?_); clear hM; intro W1 hM) | (go_at_call 24; (with_reducible refine (RC _).mono ?_); rintro e W1 ⟨rfl, rfl⟩) | (go_at_call 58; (with_reducible refine cb hM (XC _) ?_); clear hM; intro W1 hM) | ((with_reducible refine lX ?_); refine mL ?_) | ((with_reducible refine sX ?_); refine mS ?_; clear hM; intro W hM) | ((with_reducible refine bX ?_); refine mB ?_; clear hM; intro g W hM) | ((with_reducible refine zX ?_); refine mB ?_; clear hM; intro g W hM))
   all_goals first
    | (exact absurd (show x.gap = true by assumption) (by rw [HG.out]; simp))
    | (exact absurd hG (show ¬ x.gap = true by assumption))
    | (refine' qR hM rfl rfl Tryz.isAgg69 Tryz.sizeOf69 rfl rfl ?_ ?_ ⟨?_, hM.below⟩; rotate_left 2; (· repeat constructor); (· rfl); (· refine' zN ?_ ?_; rotate_left 1; (· exact HT.out); (· rfl)))
theorem pU (fx fy c alt : Int) (x y : En) (spd bank oalt gr : Int) (hx : tL x) (hy : tL y) (w : World) (hu : Hid (jq w)) (hG : x.gap = false) (hO : vA spd bank oalt gr = 0) (hL : jn x = 0) (v1 : qf fx fy = true) (v2 : qf x.ex x.ey = true) (v3 : qf x.mx x.my = true) (hcr : 0 ≤ c ∧ c < 129600000) (ha1 : -200000 ≤ alt) (ha2 : alt ≤ 6000000) (hk : x.ty = 8) :
 Calls Tryz.prog 26 #[.agg #[.int .i64 fx, .int .i64 fy], .int .i64 c, .int .i64 alt, .agg x.cells.toArray, .agg y.cells.toArray, .agg #[.int .i64 spd, .int .i64 bank, .int .i64 oalt, .int .i64 gr]] w fun e w' => e = .returned (.tuple #[.agg (qg fx fy c alt x y spd bank oalt gr).1.cells.toArray, .int .i64 (qg fx fy c alt x y spd bank oalt gr).2]) ∧ Below w.heap.size w w' := by
 have HT : Hid (qg fx fy c alt x y spd bank oalt gr = jX fx fy x) := hide (by
  unfold qg
  rw [if_neg (by rw [hO]; simp), if_neg (by rw [hG]; simp), if_neg (by rw [hL]; simp), if_neg (by rw [v1, v2, v3]; simp), if_neg (by omega)]
  unfold vR
  rw [if_neg (show ¬ (x.ty = 1) by omega), if_neg (show ¬ (x.ty = 2 ∨ x.ty = 4) by omega), if_neg (show ¬ (x.ty = 3) by omega), if_neg (show ¬ (x.ty = 5 ∨ x.ty = 6) by omega), if_neg (show ¬ (x.ty = 7) by omega), if_neg (show ¬ (x.ty = 11) by omega), if_neg (show ¬ (x.ty = 12) by omega), if_neg (show ¬ (x.ty = 13) by omega), if_pos (show x.ty = 8 by omega)])
 have CH := fun W => ju spd bank oalt gr W
 have LC := fun W hW => zL x hx.leg W hW
 rw [hO] at CH
 rw [hL] at LC
 obtain ⟨_, _, _, hg1, hg2⟩ := vu hO
 have hq := vq hL
 have P1 := fun W => qo fx fy W
 rw [v1] at P1
 have P2 := fun W => qo x.ex x.ey W
 rw [v2] at P2
 have P3 := fun W => qo x.mx x.my W
 rw [v3] at P3
 have RC := fun W => zF c W
 rw [decide_eq_true (show 0 ≤ c ∧ c < 129600000 by omega)] at RC
 obtain ⟨⟨k1, k2⟩, ⟨k3, k4⟩, ⟨k5, k6⟩, ⟨k7, k8⟩, ⟨k9, k10⟩, ⟨k11, k12, k13⟩, hturn0⟩ := hq
 obtain ⟨q1, q2, q3, q4, q5, q6, q7, q8, q9, q10, q11, q12, q13, q14, q15, q16, q17⟩ := FW hk
 have XC := fun W => pJ fx fy x k5 k6 (by unfold qH; omega) W
 simp only [En.cells, hG] at XC
 have HK := hide hk
 have HG := hide hG
 clear hO hL v1 v2 v3 hturn0 hk hG
 have hM := qB w
 go_enter Tryz.func26, Tryz.ntmps26
 go_wp2_with (first | (go_at_call 23; refine cb hM (CH _) ?_; clear hM; intro W1 hM) | (go_at_call 54; (refine (LC _ (hide (qD hM hu.out))).mono ?_); rintro e W1 ⟨rfl, hb⟩; replace hM := qp hM hb; clear hb) | (go_at_call 16; (with_reducible refine cb hM (P1 _) ?_); clear hM; intro W1 hM) | (go_at_call 16; (with_reducible refine cb hM (P2 _) ?_); clear hM; intro W1 hM) | (go_at_call 16; (with_reducible refine cb hM (P3 _) ?_); clear hM; intro W1 hM) | (go_at_call 24; (with_reducible refine (RC _).mono ?_); rintro e W1 ⟨rfl, rfl⟩) | (go_at_call 59; (with_reducible refine cb hM (XC _) ?_); clear hM; intro W1 hM) | ((with_reducible refine lX ?_); refine mL ?_) | ((with_reducible refine sX ?_); refine mS ?_; clear hM; intro W hM) | ((with_reducible refine bX ?_); refine mB ?_; clear hM; intro g W hM) | ((with_reducible refine zX ?_); refine mB ?_; clear hM; intro g W hM))
 all_goals first
  | (exact absurd (show x.gap = true by assumption) (by rw [HG.out]; simp))
  | (exact absurd hG (show ¬ x.gap = true by assumption))
  | (refine' qR hM rfl rfl Tryz.isAgg69 Tryz.sizeOf69 rfl rfl ?_ ?_ ⟨?_, hM.below⟩; rotate_left 2; (· repeat constructor); (· rfl); (· refine' zN ?_ ?_; rotate_left 1; (· exact HT.out.trans kO); (· rfl)))
theorem Tn (fx fy c alt : Int) (x y : En) (spd bank oalt gr : Int) (hx : tL x) (hy : tL y) (w : World) (hu : Hid (jq w)) (hG : x.gap = false) (hO : vA spd bank oalt gr = 0) (hL : jn x = 0) (v1 : qf fx fy = true) (v2 : qf x.ex x.ey = true) (v3 : qf x.mx x.my = true) (hcr : 0 ≤ c ∧ c < 129600000) (ha1 : -200000 ≤ alt) (ha2 : alt ≤ 6000000) (hk : x.ty = 10) :
 Calls Tryz.prog 26 #[.agg #[.int .i64 fx, .int .i64 fy], .int .i64 c, .int .i64 alt, .agg x.cells.toArray, .agg y.cells.toArray, .agg #[.int .i64 spd, .int .i64 bank, .int .i64 oalt, .int .i64 gr]] w fun e w' => e = .returned (.tuple #[.agg (qg fx fy c alt x y spd bank oalt gr).1.cells.toArray, .int .i64 (qg fx fy c alt x y spd bank oalt gr).2]) ∧ Below w.heap.size w w' := by
 have HT : Hid (qg fx fy c alt x y spd bank oalt gr = vp fx fy x) := hide (by
  unfold qg
  rw [if_neg (by rw [hO]; simp), if_neg (by rw [hG]; simp), if_neg (by rw [hL]; simp), if_neg (by rw [v1, v2, v3]; simp), if_neg (by omega)]
  unfold vR
  rw [if_neg (show ¬ (x.ty = 1) by omega), if_neg (show ¬ (x.ty = 2 ∨ x.ty = 4) by omega), if_neg (show ¬ (x.ty = 3) by omega), if_neg (show ¬ (x.ty = 5 ∨ x.ty = 6) by omega), if_neg (show ¬ (x.ty = 7) by omega), if_neg (show ¬ (x.ty = 11) by omega), if_neg (show ¬ (x.ty = 12) by omega), if_neg (show ¬ (x.ty = 13) by omega), if_neg (show ¬ (x.ty = 8) by omega), if_pos (show x.ty = 10 by omega)])
 have CH := fun W => ju spd bank oalt gr W
 have LC := fun W hW => zL x hx.leg W hW
 rw [hO] at CH
 rw [hL] at LC
 obtain ⟨_, _, _, hg1, hg2⟩ := vu hO
 have hq := vq hL
 have P1 := fun W => qo fx fy W
 rw [v1] at P1
 have P2 := fun W => qo x.ex x.ey W
 rw [v2] at P2
 have P3 := fun W => qo x.mx x.my W
 rw [v3] at P3
 have RC := fun W => zF c W
 rw [decide_eq_true (show 0 ≤ c ∧ c < 129600000 by omega)] at RC
 obtain ⟨⟨k1, k2⟩, ⟨k3, k4⟩, ⟨k5, k6⟩, ⟨k7, k8⟩, ⟨k9, k10⟩, ⟨k11, k12, k13⟩, hturn0⟩ := hq
 obtain ⟨q1, q2, q3, q4, q5, q6, q7, q8, q9, q10, q11, q12, q13, q14, q15, q16, q17⟩ := CW hk
 have XC := fun W => fL fx fy x (by unfold qH; omega) (by unfold qH; omega) W
 simp only [En.cells, hG] at XC
 have HK := hide hk
 have HG := hide hG
 clear hO hL v1 v2 v3 hturn0 hk hG
 have hM := qB w
 go_enter Tryz.func26, Tryz.ntmps26
 go_wp2_with (first | (go_at_call 23; refine cb hM (CH _) ?_; clear hM; intro W1 hM) | (go_at_call 54; (refine (LC _ (hide (qD hM hu.out))).mono ?_); rintro e W1 ⟨rfl, hb⟩; replace hM := qp hM hb; clear hb) | (go_at_call 16; (with_reducible refine cb hM (P1 _) ?_); clear hM; intro W1 hM) | (go_at_call 16; (with_reducible refine cb hM (P2 _) ?_); clear hM; intro W1 hM) | (go_at_call 16; (with_reducible refine cb hM (P3 _) ?_); clear hM; intro W1 hM) | (go_at_call 24; (with_reducible refine (RC _).mono ?_); rintro e W1 ⟨rfl, rfl⟩) | (go_at_call 60; (with_reducible refine cb hM (XC _) ?_); clear hM; intro W1 hM) | ((with_reducible refine lX ?_); refine mL ?_) | ((with_reducible refine sX ?_); refine mS ?_; clear hM; intro W hM) | ((with_reducible refine bX ?_); refine mB ?_; clear hM; intro g W hM) | ((with_reducible refine zX ?_); refine mB ?_; clear hM; intro g W hM))
 all_goals first
  | (exact absurd (show x.gap = true by assumption) (by rw [HG.out]; simp))
  | (exact absurd hG (show ¬ x.gap = true by assumption))
  | (refine' qR hM rfl rfl Tryz.isAgg69 Tryz.sizeOf69 rfl rfl ?_ ?_ ⟨?_, hM.below⟩; rotate_left 2; (· repeat constructor); (· rfl); (· refine' zN ?_ ?_; rotate_left 1; (· exact HT.out.trans kO); (· rfl)))
theorem pV (fx fy c alt : Int) (x y : En) (spd bank oalt gr : Int) (hx : tL x) (hy : tL y) (w : World) (hu : Hid (jq w)) (hG : x.gap = false) (hO : vA spd bank oalt gr = 0) (hL : jn x = 0) (v1 : qf fx fy = true) (v2 : qf x.ex x.ey = true) (v3 : qf x.mx x.my = true) (hcr : 0 ≤ c ∧ c < 129600000) (ha1 : -200000 ≤ alt) (ha2 : alt ≤ 6000000) (hk : x.ty = 9) :
 Calls Tryz.prog 26 #[.agg #[.int .i64 fx, .int .i64 fy], .int .i64 c, .int .i64 alt, .agg x.cells.toArray, .agg y.cells.toArray, .agg #[.int .i64 spd, .int .i64 bank, .int .i64 oalt, .int .i64 gr]] w fun e w' => e = .returned (.tuple #[.agg (qg fx fy c alt x y spd bank oalt gr).1.cells.toArray, .int .i64 (qg fx fy c alt x y spd bank oalt gr).2]) ∧ Below w.heap.size w w' := by
 have HT : Hid (qg fx fy c alt x y spd bank oalt gr = yF fx fy x y) := hide (by
  unfold qg
  rw [if_neg (by rw [hO]; simp), if_neg (by rw [hG]; simp), if_neg (by rw [hL]; simp), if_neg (by rw [v1, v2, v3]; simp), if_neg (by omega)]
  unfold vR
  rw [if_neg (show ¬ (x.ty = 1) by omega), if_neg (show ¬ (x.ty = 2 ∨ x.ty = 4) by omega), if_neg (show ¬ (x.ty = 3) by omega), if_neg (show ¬ (x.ty = 5 ∨ x.ty = 6) by omega), if_neg (show ¬ (x.ty = 7) by omega), if_neg (show ¬ (x.ty = 11) by omega), if_neg (show ¬ (x.ty = 12) by omega), if_neg (show ¬ (x.ty = 13) by omega), if_neg (show ¬ (x.ty = 8) by omega), if_neg (show ¬ (x.ty = 10) by omega), if_pos (show x.ty = 9 by omega)])
 have CH := fun W => ju spd bank oalt gr W
 have LC := fun W hW => zL x hx.leg W hW
 rw [hO] at CH
 rw [hL] at LC
 obtain ⟨_, _, _, hg1, hg2⟩ := vu hO
 have hq := vq hL
 have P1 := fun W => qo fx fy W
 rw [v1] at P1
 have P2 := fun W => qo x.ex x.ey W
 rw [v2] at P2
 have P3 := fun W => qo x.mx x.my W
 rw [v3] at P3
 have RC := fun W => zF c W
 rw [decide_eq_true (show 0 ≤ c ∧ c < 129600000 by omega)] at RC
 obtain ⟨⟨k1, k2⟩, ⟨k3, k4⟩, ⟨k5, k6⟩, ⟨k7, k8⟩, ⟨k9, k10⟩, ⟨k11, k12, k13⟩, hturn0⟩ := hq
 obtain ⟨q1, q2, q3, q4, q5, q6, q7, q8, q9, q10, q11, q12, q13, q14, q15, q16, q17⟩ := FX hk
 have XC := fun W => fN fx fy x y (by unfold qH; omega) hy.crs hy.tyb W
 simp only [En.cells, hG] at XC
 have HK := hide hk
 have HG := hide hG
 clear hO hL v1 v2 v3 hturn0 hk hG
 have hM := qB w
 go_enter Tryz.func26, Tryz.ntmps26
 go_wp2_with (first | (go_at_call 23; refine cb hM (CH _) ?_; clear hM; intro W1 hM) | (go_at_call 54; (refine (LC _ (hide (qD hM hu.out))).mono ?_); rintro e W1 ⟨rfl, hb⟩; replace hM := qp hM hb; clear hb) | (go_at_call 16; (with_reducible refine cb hM (P1 _) ?_); clear hM; intro W1 hM) | (go_at_call 16; (with_reducible refine cb hM (P2 _) ?_); clear hM; intro W1 hM) | (go_at_call 16; (with_reducible refine cb hM (P3 _) ?_); clear hM; intro W1 hM) | (go_at_call 24; (with_reducible refine (RC _).mono ?_); rintro e W1 ⟨rfl, rfl⟩) | (go_at_call 61; (with_reducible refine cb hM (XC _) ?_); clear hM; intro W1 hM) | ((with_reducible refine lX ?_); refine mL ?_) | ((with_reducible refine sX ?_); refine mS ?_; clear hM; intro W hM) | ((with_reducible refine bX ?_); refine mB ?_; clear hM; intro g W hM) | ((with_reducible refine zX ?_); refine mB ?_; clear hM; intro g W hM))
 all_goals first
  | (exact absurd (show x.gap = true by assumption) (by rw [HG.out]; simp))
  | (exact absurd hG (show ¬ x.gap = true by assumption))
  | (refine' qR hM rfl rfl Tryz.isAgg69 Tryz.sizeOf69 rfl rfl ?_ ?_ ⟨?_, hM.below⟩; rotate_left 2; (· repeat constructor); (· rfl); (· refine' zN ?_ ?_; rotate_left 1; (· exact HT.out.trans kO); (· rfl)))
theorem Tp (fx fy c alt : Int) (x y : En) (spd bank oalt gr : Int) (hx : tL x) (hy : tL y) (w : World) (hu : Hid (jq w)) (hG : x.gap = false) (hO : vA spd bank oalt gr = 0) (hL : jn x = 0) (v1 : qf fx fy = true) (v2 : qf x.ex x.ey = true) (v3 : qf x.mx x.my = true) (hcr : 0 ≤ c ∧ c < 129600000) (ha1 : -200000 ≤ alt) (ha2 : alt ≤ 6000000) (hk : x.ty = 14) :
 Calls Tryz.prog 26 #[.agg #[.int .i64 fx, .int .i64 fy], .int .i64 c, .int .i64 alt, .agg x.cells.toArray, .agg y.cells.toArray, .agg #[.int .i64 spd, .int .i64 bank, .int .i64 oalt, .int .i64 gr]] w fun e w' => e = .returned (.tuple #[.agg (qg fx fy c alt x y spd bank oalt gr).1.cells.toArray, .int .i64 (qg fx fy c alt x y spd bank oalt gr).2]) ∧ Below w.heap.size w w' := by
 have HT : Hid (qg fx fy c alt x y spd bank oalt gr = (yO c x, 0)) := hide (by
  unfold qg
  rw [if_neg (by rw [hO]; simp), if_neg (by rw [hG]; simp), if_neg (by rw [hL]; simp), if_neg (by rw [v1, v2, v3]; simp), if_neg (by omega)]
  unfold vR
  rw [if_neg (show ¬ (x.ty = 1) by omega), if_neg (show ¬ (x.ty = 2 ∨ x.ty = 4) by omega), if_neg (show ¬ (x.ty = 3) by omega), if_neg (show ¬ (x.ty = 5 ∨ x.ty = 6) by omega), if_neg (show ¬ (x.ty = 7) by omega), if_neg (show ¬ (x.ty = 11) by omega), if_neg (show ¬ (x.ty = 12) by omega), if_neg (show ¬ (x.ty = 13) by omega), if_neg (show ¬ (x.ty = 8) by omega), if_neg (show ¬ (x.ty = 10) by omega), if_neg (show ¬ (x.ty = 9) by omega)])
 have CH := fun W => ju spd bank oalt gr W
 have LC := fun W hW => zL x hx.leg W hW
 rw [hO] at CH
 rw [hL] at LC
 obtain ⟨_, _, _, hg1, hg2⟩ := vu hO
 have hq := vq hL
 have P1 := fun W => qo fx fy W
 rw [v1] at P1
 have P2 := fun W => qo x.ex x.ey W
 rw [v2] at P2
 have P3 := fun W => qo x.mx x.my W
 rw [v3] at P3
 have RC := fun W => zF c W
 rw [decide_eq_true (show 0 ≤ c ∧ c < 129600000 by omega)] at RC
 obtain ⟨⟨k1, k2⟩, ⟨k3, k4⟩, ⟨k5, k6⟩, ⟨k7, k8⟩, ⟨k9, k10⟩, ⟨k11, k12, k13⟩, hturn0⟩ := hq
 obtain ⟨q1, q2, q3, q4, q5, q6, q7, q8, q9, q10, q11, q12, q13, q14, q15, q16, q17⟩ := Fc hk
 have HK := hide hk
 have HG := hide hG
 clear hO hL v1 v2 v3 hturn0 hk hG
 have hM := qB w
 go_enter Tryz.func26, Tryz.ntmps26
 go_wp2_with (first | (go_at_call 23; refine cb hM (CH _) ?_; clear hM; intro W1 hM) | (go_at_call 54; (refine (LC _ (hide (qD hM hu.out))).mono ?_); rintro e W1 ⟨rfl, hb⟩; replace hM := qp hM hb; clear hb) | (go_at_call 16; (with_reducible refine cb hM (P1 _) ?_); clear hM; intro W1 hM) | (go_at_call 16; (with_reducible refine cb hM (P2 _) ?_); clear hM; intro W1 hM) | (go_at_call 16; (with_reducible refine cb hM (P3 _) ?_); clear hM; intro W1 hM) | (go_at_call 24; (with_reducible refine (RC _).mono ?_); rintro e W1 ⟨rfl, rfl⟩) | ((with_reducible refine lX ?_); refine mL ?_) | ((with_reducible refine sX ?_); refine mS ?_; clear hM; intro W hM) | ((with_reducible refine bX ?_); refine mB ?_; clear hM; intro g W hM) | ((with_reducible refine zX ?_); refine mB ?_; clear hM; intro g W hM))
 all_goals first
  | (exact absurd (show x.gap = true by assumption) (by rw [HG.out]; simp))
  | (exact absurd hG (show ¬ x.gap = true by assumption))
  | (refine' qR hM rfl rfl Tryz.isAgg69 Tryz.sizeOf69 rfl rfl ?_ ?_ ⟨?_, hM.below⟩; rotate_left 2; (· repeat constructor); (· rfl); (· refine' zN ?_ ?_; rotate_left 1; (· exact HT.out); (· first | rfl | (unfold yO; rw [HK.out]; rfl))))
theorem Tq (fx fy c alt : Int) (x y : En) (spd bank oalt gr : Int) (hx : tL x) (hy : tL y) (w : World) (hu : Hid (jq w)) (hG : x.gap = false) (hO : vA spd bank oalt gr = 0) (hL : jn x = 0) (v1 : qf fx fy = true) (v2 : qf x.ex x.ey = true) (v3 : qf x.mx x.my = true) (hcr : 0 ≤ c ∧ c < 129600000) (ha1 : -200000 ≤ alt) (ha2 : alt ≤ 6000000) (hk : x.ty = 15) :
 Calls Tryz.prog 26 #[.agg #[.int .i64 fx, .int .i64 fy], .int .i64 c, .int .i64 alt, .agg x.cells.toArray, .agg y.cells.toArray, .agg #[.int .i64 spd, .int .i64 bank, .int .i64 oalt, .int .i64 gr]] w fun e w' => e = .returned (.tuple #[.agg (qg fx fy c alt x y spd bank oalt gr).1.cells.toArray, .int .i64 (qg fx fy c alt x y spd bank oalt gr).2]) ∧ Below w.heap.size w w' := by
 have HT : Hid (qg fx fy c alt x y spd bank oalt gr = (yO c x, 0)) := hide (by
  unfold qg
  rw [if_neg (by rw [hO]; simp), if_neg (by rw [hG]; simp), if_neg (by rw [hL]; simp), if_neg (by rw [v1, v2, v3]; simp), if_neg (by omega)]
  unfold vR
  rw [if_neg (show ¬ (x.ty = 1) by omega), if_neg (show ¬ (x.ty = 2 ∨ x.ty = 4) by omega), if_neg (show ¬ (x.ty = 3) by omega), if_neg (show ¬ (x.ty = 5 ∨ x.ty = 6) by omega), if_neg (show ¬ (x.ty = 7) by omega), if_neg (show ¬ (x.ty = 11) by omega), if_neg (show ¬ (x.ty = 12) by omega), if_neg (show ¬ (x.ty = 13) by omega), if_neg (show ¬ (x.ty = 8) by omega), if_neg (show ¬ (x.ty = 10) by omega), if_neg (show ¬ (x.ty = 9) by omega)])
 have CH := fun W => ju spd bank oalt gr W
 have LC := fun W hW => zL x hx.leg W hW
 rw [hO] at CH
 rw [hL] at LC
 obtain ⟨_, _, _, hg1, hg2⟩ := vu hO
 have hq := vq hL
 have P1 := fun W => qo fx fy W
 rw [v1] at P1
 have P2 := fun W => qo x.ex x.ey W
 rw [v2] at P2
 have P3 := fun W => qo x.mx x.my W
 rw [v3] at P3
 have RC := fun W => zF c W
 rw [decide_eq_true (show 0 ≤ c ∧ c < 129600000 by omega)] at RC
 obtain ⟨⟨k1, k2⟩, ⟨k3, k4⟩, ⟨k5, k6⟩, ⟨k7, k8⟩, ⟨k9, k10⟩, ⟨k11, k12, k13⟩, hturn0⟩ := hq
 obtain ⟨q1, q2, q3, q4, q5, q6, q7, q8, q9, q10, q11, q12, q13, q14, q15, q16, q17⟩ := Fe hk
 have HK := hide hk
 have HG := hide hG
 clear hO hL v1 v2 v3 hturn0 hk hG
 have hM := qB w
 go_enter Tryz.func26, Tryz.ntmps26
 go_wp2_with (first | (go_at_call 23; refine cb hM (CH _) ?_; clear hM; intro W1 hM) | (go_at_call 54; (refine (LC _ (hide (qD hM hu.out))).mono ?_); rintro e W1 ⟨rfl, hb⟩; replace hM := qp hM hb; clear hb) | (go_at_call 16; (with_reducible refine cb hM (P1 _) ?_); clear hM; intro W1 hM) | (go_at_call 16; (with_reducible refine cb hM (P2 _) ?_); clear hM; intro W1 hM) | (go_at_call 16; (with_reducible refine cb hM (P3 _) ?_); clear hM; intro W1 hM) | (go_at_call 24; (with_reducible refine (RC _).mono ?_); rintro e W1 ⟨rfl, rfl⟩) | ((with_reducible refine lX ?_); refine mL ?_) | ((with_reducible refine sX ?_); refine mS ?_; clear hM; intro W hM) | ((with_reducible refine bX ?_); refine mB ?_; clear hM; intro g W hM) | ((with_reducible refine zX ?_); refine mB ?_; clear hM; intro g W hM))
 all_goals first
  | (exact absurd (show x.gap = true by assumption) (by rw [HG.out]; simp))
  | (exact absurd hG (show ¬ x.gap = true by assumption))
  | (refine' qR hM rfl rfl Tryz.isAgg69 Tryz.sizeOf69 rfl rfl ?_ ?_ ⟨?_, hM.below⟩; rotate_left 2; (· repeat constructor); (· rfl); (· refine' zN ?_ ?_; rotate_left 1; (· exact HT.out); (· first | rfl | (unfold yO; rw [HK.out]; rfl))))
theorem Tr (fx fy c alt : Int) (x y : En) (spd bank oalt gr : Int) (hx : tL x) (hy : tL y) (w : World) (hu : Hid (jq w)) (hG : x.gap = false) (hO : vA spd bank oalt gr = 0) (hL : jn x = 0) (v1 : qf fx fy = true) (v2 : qf x.ex x.ey = true) (v3 : qf x.mx x.my = true) (hcr : 0 ≤ c ∧ c < 129600000) (ha1 : -200000 ≤ alt) (ha2 : alt ≤ 6000000) (hk : x.ty = 16) :
 Calls Tryz.prog 26 #[.agg #[.int .i64 fx, .int .i64 fy], .int .i64 c, .int .i64 alt, .agg x.cells.toArray, .agg y.cells.toArray, .agg #[.int .i64 spd, .int .i64 bank, .int .i64 oalt, .int .i64 gr]] w fun e w' => e = .returned (.tuple #[.agg (qg fx fy c alt x y spd bank oalt gr).1.cells.toArray, .int .i64 (qg fx fy c alt x y spd bank oalt gr).2]) ∧ Below w.heap.size w w' := by
 have HT : Hid (qg fx fy c alt x y spd bank oalt gr = (yO c x, 0)) := hide (by
  unfold qg
  rw [if_neg (by rw [hO]; simp), if_neg (by rw [hG]; simp), if_neg (by rw [hL]; simp), if_neg (by rw [v1, v2, v3]; simp), if_neg (by omega)]
  unfold vR
  rw [if_neg (show ¬ (x.ty = 1) by omega), if_neg (show ¬ (x.ty = 2 ∨ x.ty = 4) by omega), if_neg (show ¬ (x.ty = 3) by omega), if_neg (show ¬ (x.ty = 5 ∨ x.ty = 6) by omega), if_neg (show ¬ (x.ty = 7) by omega), if_neg (show ¬ (x.ty = 11) by omega), if_neg (show ¬ (x.ty = 12) by omega), if_neg (show ¬ (x.ty = 13) by omega), if_neg (show ¬ (x.ty = 8) by omega), if_neg (show ¬ (x.ty = 10) by omega), if_neg (show ¬ (x.ty = 9) by omega)])
 have CH := fun W => ju spd bank oalt gr W
 have LC := fun W hW => zL x hx.leg W hW
 rw [hO] at CH
 rw [hL] at LC
 obtain ⟨_, _, _, hg1, hg2⟩ := vu hO
 have hq := vq hL
 have P1 := fun W => qo fx fy W
 rw [v1] at P1
 have P2 := fun W => qo x.ex x.ey W
 rw [v2] at P2
 have P3 := fun W => qo x.mx x.my W
 rw [v3] at P3
 have RC := fun W => zF c W
 rw [decide_eq_true (show 0 ≤ c ∧ c < 129600000 by omega)] at RC
 obtain ⟨⟨k1, k2⟩, ⟨k3, k4⟩, ⟨k5, k6⟩, ⟨k7, k8⟩, ⟨k9, k10⟩, ⟨k11, k12, k13⟩, hturn0⟩ := hq
 obtain ⟨q1, q2, q3, q4, q5, q6, q7, q8, q9, q10, q11, q12, q13, q14, q15, q16, q17⟩ := Ff hk
 have HK := hide hk
 have HG := hide hG
 clear hO hL v1 v2 v3 hturn0 hk hG
 have hM := qB w
 go_enter Tryz.func26, Tryz.ntmps26
 go_wp2_with (first | (go_at_call 23; refine cb hM (CH _) ?_; clear hM; intro W1 hM) | (go_at_call 54; (refine (LC _ (hide (qD hM hu.out))).mono ?_); rintro e W1 ⟨rfl, hb⟩; replace hM := qp hM hb; clear hb) | (go_at_call 16; (with_reducible refine cb hM (P1 _) ?_); clear hM; intro W1 hM) | (go_at_call 16; (with_reducible refine cb hM (P2 _) ?_); clear hM; intro W1 hM) | (go_at_call 16; (with_reducible refine cb hM (P3 _) ?_); clear hM; intro W1 hM) | (go_at_call 24; (with_reducible refine (RC _).mono ?_); rintro e W1 ⟨rfl, rfl⟩) | ((with_reducible refine lX ?_); refine mL ?_) | ((with_reducible refine sX ?_); refine mS ?_; clear hM; intro W hM) | ((with_reducible refine bX ?_); refine mB ?_; clear hM; intro g W hM) | ((with_reducible refine zX ?_); refine mB ?_; clear hM; intro g W hM))
 all_goals first
  | (exact absurd (show x.gap = true by assumption) (by rw [HG.out]; simp))
  | (exact absurd hG (show ¬ x.gap = true by assumption))
  | (refine' qR hM rfl rfl Tryz.isAgg69 Tryz.sizeOf69 rfl rfl ?_ ?_ ⟨?_, hM.below⟩; rotate_left 2; (· repeat constructor); (· rfl); (· refine' zN ?_ ?_; rotate_left 1; (· exact HT.out); (· first | rfl | (unfold yO; rw [HK.out]; rfl))))
theorem Tt (fx fy c alt : Int) (x y : En) (spd bank oalt gr : Int) (hx : tL x) (hy : tL y) (w : World) (hu : Hid (jq w)) (hG : x.gap = false) (hO : vA spd bank oalt gr = 0) (hL : jn x = 0) (v1 : qf fx fy = true) (v2 : qf x.ex x.ey = true) (v3 : qf x.mx x.my = true) (hcr : 0 ≤ c ∧ c < 129600000) (ha1 : -200000 ≤ alt) (ha2 : alt ≤ 6000000) (hk : x.ty = 17) :
 Calls Tryz.prog 26 #[.agg #[.int .i64 fx, .int .i64 fy], .int .i64 c, .int .i64 alt, .agg x.cells.toArray, .agg y.cells.toArray, .agg #[.int .i64 spd, .int .i64 bank, .int .i64 oalt, .int .i64 gr]] w fun e w' => e = .returned (.tuple #[.agg (qg fx fy c alt x y spd bank oalt gr).1.cells.toArray, .int .i64 (qg fx fy c alt x y spd bank oalt gr).2]) ∧ Below w.heap.size w w' := by
 have HT : Hid (qg fx fy c alt x y spd bank oalt gr = (yO c x, 0)) := hide (by
  unfold qg
  rw [if_neg (by rw [hO]; simp), if_neg (by rw [hG]; simp), if_neg (by rw [hL]; simp), if_neg (by rw [v1, v2, v3]; simp), if_neg (by omega)]
  unfold vR
  rw [if_neg (show ¬ (x.ty = 1) by omega), if_neg (show ¬ (x.ty = 2 ∨ x.ty = 4) by omega), if_neg (show ¬ (x.ty = 3) by omega), if_neg (show ¬ (x.ty = 5 ∨ x.ty = 6) by omega), if_neg (show ¬ (x.ty = 7) by omega), if_neg (show ¬ (x.ty = 11) by omega), if_neg (show ¬ (x.ty = 12) by omega), if_neg (show ¬ (x.ty = 13) by omega), if_neg (show ¬ (x.ty = 8) by omega), if_neg (show ¬ (x.ty = 10) by omega), if_neg (show ¬ (x.ty = 9) by omega)])
 have CH := fun W => ju spd bank oalt gr W
 have LC := fun W hW => zL x hx.leg W hW
 rw [hO] at CH
 rw [hL] at LC
 obtain ⟨_, _, _, hg1, hg2⟩ := vu hO
 have hq := vq hL
 have P1 := fun W => qo fx fy W
 rw [v1] at P1
 have P2 := fun W => qo x.ex x.ey W
 rw [v2] at P2
 have P3 := fun W => qo x.mx x.my W
 rw [v3] at P3
 have RC := fun W => zF c W
 rw [decide_eq_true (show 0 ≤ c ∧ c < 129600000 by omega)] at RC
 obtain ⟨⟨k1, k2⟩, ⟨k3, k4⟩, ⟨k5, k6⟩, ⟨k7, k8⟩, ⟨k9, k10⟩, ⟨k11, k12, k13⟩, hturn0⟩ := hq
 obtain ⟨q1, q2, q3, q4, q5, q6, q7, q8, q9, q10, q11, q12, q13, q14, q15, q16, q17⟩ := Fg hk
 have HK := hide hk
 have HG := hide hG
 clear hO hL v1 v2 v3 hturn0 hk hG
 have hM := qB w
 go_enter Tryz.func26, Tryz.ntmps26
 go_wp2_with (first | (go_at_call 23; refine cb hM (CH _) ?_; clear hM; intro W1 hM) | (go_at_call 54; (refine (LC _ (hide (qD hM hu.out))).mono ?_); rintro e W1 ⟨rfl, hb⟩; replace hM := qp hM hb; clear hb) | (go_at_call 16; (with_reducible refine cb hM (P1 _) ?_); clear hM; intro W1 hM) | (go_at_call 16; (with_reducible refine cb hM (P2 _) ?_); clear hM; intro W1 hM) | (go_at_call 16; (with_reducible refine cb hM (P3 _) ?_); clear hM; intro W1 hM) | (go_at_call 24; (with_reducible refine (RC _).mono ?_); rintro e W1 ⟨rfl, rfl⟩) | (go_at_call 48; (with_reducible refine (yj _ ?_ _).mono ?_); (· first | assumption | (unfold qH; omega)); rintro e W1 ⟨rfl, rfl⟩) | ((with_reducible refine lX ?_); refine mL ?_) | ((with_reducible refine sX ?_); refine mS ?_; clear hM; intro W hM) | ((with_reducible refine bX ?_); refine mB ?_; clear hM; intro g W hM) | ((with_reducible refine zX ?_); refine mB ?_; clear hM; intro g W hM))
 all_goals first
  | (exact absurd (show x.gap = true by assumption) (by rw [HG.out]; simp))
  | (exact absurd hG (show ¬ x.gap = true by assumption))
  | (refine' qR hM rfl rfl Tryz.isAgg69 Tryz.sizeOf69 rfl rfl ?_ ?_ ⟨?_, hM.below⟩; rotate_left 2; (· repeat constructor); (· rfl); (· refine' zN ?_ ?_; rotate_left 1; (· exact HT.out); (· first | rfl | (unfold yO; rw [HK.out]; rfl))))
end Go.Proofs.YteanfgobpjdmnaaGreatDoor
