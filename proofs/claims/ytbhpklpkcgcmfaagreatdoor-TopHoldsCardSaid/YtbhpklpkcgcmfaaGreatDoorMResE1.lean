/-
  Resolve on legs of some types.
-/
import Derived.Test.YtbhpklpkcgcmfaaGreatDoorMResC
import Derived.Test.YtbhpklpkcgcmfaaGreatDoorMResD
set_option maxRecDepth 100000
set_option maxHeartbeats 16000000
namespace Go.Proofs.YtbhpklpkcgcmfaaGreatDoor
open Go.RowKit
set_option linter.unusedVariables false
set_option linter.unusedSimpArgs false
theorem resolve_t1 (fx fy c alt : Int) (x y : En) (spd bank oalt gr : Int) (hx : EnW x) (hy : EnW y) (w : World) (hu : Hid (usesAt w)) (hG : x.gap = false) (hO : optE spd bank oalt gr = 0) (hL : legF x = 0) (v1 : vldB fx fy = true) (v2 : vldB x.ex x.ey = true) (v3 : vldB x.mx x.my = true) (hcr : 0 ≤ c ∧ c < 129600000) (ha1 : -200000 ≤ alt) (ha2 : alt ≤ 6000000) (hk : x.ty = 1) :
 Calls Tryz.prog 53 #[.agg #[.int .i64 fx, .int .i64 fy], .int .i64 c, .int .i64 alt, .agg x.cells.toArray, .agg y.cells.toArray, .agg #[.int .i64 spd, .int .i64 bank, .int .i64 oalt, .int .i64 gr]] w fun e w' => e = .returned (.tuple #[.agg (resolveT fx fy c alt x y spd bank oalt gr).1.cells.toArray, .int .i64 (resolveT fx fy c alt x y spd bank oalt gr).2]) ∧ Below w.heap.size w w' := by
 have HT : Hid (resolveT fx fy c alt x y spd bank oalt gr = (straightF x.ex x.ey x.ex x.ey c, 0)) := hide (by
  unfold resolveT
  rw [if_neg (by rw [hO]; simp), if_neg (by rw [hG]; simp), if_neg (by rw [hL]; simp), if_neg (by rw [v1, v2, v3]; simp), if_neg (by omega)]
  unfold legT
  rw [if_pos (show x.ty = 1 by omega)])
 have CH := fun W => opts_any spd bank oalt gr W
 have LC := fun W hW => lcheck_any x hx.leg W hW
 rw [hO] at CH
 rw [hL] at LC
 obtain ⟨_, _, _, hg1, hg2⟩ := opt_ok hO
 have hq := leg_ok hL
 have P1 := fun W => pvalid_b fx fy W
 rw [v1] at P1
 have P2 := fun W => pvalid_b x.ex x.ey W
 rw [v2] at P2
 have P3 := fun W => pvalid_b x.mx x.my W
 rw [v3] at P3
 have RC := fun W => rcourse_ok c W
 rw [decide_eq_true (show 0 ≤ c ∧ c < 129600000 by omega)] at RC
 obtain ⟨⟨k1, k2⟩, ⟨k3, k4⟩, ⟨k5, k6⟩, ⟨k7, k8⟩, ⟨k9, k10⟩, ⟨k11, k12, k13⟩, hturn0⟩ := hq
 obtain ⟨q1, q2, q3, q4, q5, q6, q7, q8, q9, q10, q11, q12, q13, q14, q15, q16, q17⟩ := tyq1 hk
 have HK := hide hk
 have HG := hide hG
 clear hO hL v1 v2 v3 hturn0 hk hG
 have hM := mem_nil w
 go_enter Tryz.func53, Tryz.ntmps53
 go_wp2_with (first | (go_at_call 50; refine cb hM (CH _) ?_; clear hM; intro W1 hM) | (go_at_call 105; (refine (LC _ (hide (usesAt_mem hM hu.out))).mono ?_); rintro e W1 ⟨rfl, hb⟩; replace hM := mem_below hM hb; clear hb) | (go_at_call 46; (with_reducible refine cb hM (P1 _) ?_); clear hM; intro W1 hM) | (go_at_call 46; (with_reducible refine cb hM (P2 _) ?_); clear hM; intro W1 hM) | (go_at_call 46; (with_reducible refine cb hM (P3 _) ?_); clear hM; intro W1 hM) | (go_at_call 51; (with_reducible refine (RC _).mono ?_); rintro e W1 ⟨rfl, rfl⟩) | (go_at_call 52; refine (straight_any _ _ _ _ _ _).mono ?_; rintro e W1 ⟨rfl, hb⟩; replace hM := mem_below hM hb; clear hb) | ((with_reducible refine lX ?_); first | refine aL hM rfl rfl ?_ | refine aM hM rfl rfl ?_) | ((with_reducible refine sX ?_); refine aS hM rfl rfl rfl ?_; clear hM; intro W hM) | ((with_reducible refine bX ?_); refine aB hM rfl rfl ?_; clear hM; intro g W hM) | ((with_reducible refine zX ?_); refine aN hM rfl rfl ?_; clear hM; intro g W hM))
 all_goals first
  | (exact absurd (show x.gap = true by assumption) (by rw [HG.out]; simp))
  | (exact absurd hG (show ¬ x.gap = true by assumption))
  | (refine' end_m2 hM rfl rfl Tryz.isAgg77 Tryz.sizeOf77 rfl rfl ?_ ?_ ⟨?_, hM.below⟩; rotate_left 2; (· repeat constructor); (· rfl); (· refine' ret_tk ?_ ?_; rotate_left 1; (· exact HT.out); (· first | rfl | (unfold patternT; rw [HK.out]; rfl))))
theorem resolve_t2 (fx fy c alt : Int) (x y : En) (spd bank oalt gr : Int) (hx : EnW x) (hy : EnW y) (w : World) (hu : Hid (usesAt w)) (hG : x.gap = false) (hO : optE spd bank oalt gr = 0) (hL : legF x = 0) (v1 : vldB fx fy = true) (v2 : vldB x.ex x.ey = true) (v3 : vldB x.mx x.my = true) (hcr : 0 ≤ c ∧ c < 129600000) (ha1 : -200000 ≤ alt) (ha2 : alt ≤ 6000000) (hk : x.ty = 2) :
 Calls Tryz.prog 53 #[.agg #[.int .i64 fx, .int .i64 fy], .int .i64 c, .int .i64 alt, .agg x.cells.toArray, .agg y.cells.toArray, .agg #[.int .i64 spd, .int .i64 bank, .int .i64 oalt, .int .i64 gr]] w fun e w' => e = .returned (.tuple #[.agg (resolveT fx fy c alt x y spd bank oalt gr).1.cells.toArray, .int .i64 (resolveT fx fy c alt x y spd bank oalt gr).2]) ∧ Below w.heap.size w w' := by
 have HT : Hid (resolveT fx fy c alt x y spd bank oalt gr = (straightF fx fy x.ex x.ey c, 0)) := hide (by
  unfold resolveT
  rw [if_neg (by rw [hO]; simp), if_neg (by rw [hG]; simp), if_neg (by rw [hL]; simp), if_neg (by rw [v1, v2, v3]; simp), if_neg (by omega)]
  unfold legT
  rw [if_neg (show ¬ (x.ty = 1) by omega), if_pos (show x.ty = 2 ∨ x.ty = 4 by omega)])
 have CH := fun W => opts_any spd bank oalt gr W
 have LC := fun W hW => lcheck_any x hx.leg W hW
 rw [hO] at CH
 rw [hL] at LC
 obtain ⟨_, _, _, hg1, hg2⟩ := opt_ok hO
 have hq := leg_ok hL
 have P1 := fun W => pvalid_b fx fy W
 rw [v1] at P1
 have P2 := fun W => pvalid_b x.ex x.ey W
 rw [v2] at P2
 have P3 := fun W => pvalid_b x.mx x.my W
 rw [v3] at P3
 have RC := fun W => rcourse_ok c W
 rw [decide_eq_true (show 0 ≤ c ∧ c < 129600000 by omega)] at RC
 obtain ⟨⟨k1, k2⟩, ⟨k3, k4⟩, ⟨k5, k6⟩, ⟨k7, k8⟩, ⟨k9, k10⟩, ⟨k11, k12, k13⟩, hturn0⟩ := hq
 obtain ⟨q1, q2, q3, q4, q5, q6, q7, q8, q9, q10, q11, q12, q13, q14, q15, q16, q17⟩ := tyq2 hk
 have HK := hide hk
 have HG := hide hG
 clear hO hL v1 v2 v3 hturn0 hk hG
 have hM := mem_nil w
 go_enter Tryz.func53, Tryz.ntmps53
 go_wp2_with (first | (go_at_call 50; refine cb hM (CH _) ?_; clear hM; intro W1 hM) | (go_at_call 105; (refine (LC _ (hide (usesAt_mem hM hu.out))).mono ?_); rintro e W1 ⟨rfl, hb⟩; replace hM := mem_below hM hb; clear hb) | (go_at_call 46; (with_reducible refine cb hM (P1 _) ?_); clear hM; intro W1 hM) | (go_at_call 46; (with_reducible refine cb hM (P2 _) ?_); clear hM; intro W1 hM) | (go_at_call 46; (with_reducible refine cb hM (P3 _) ?_); clear hM; intro W1 hM) | (go_at_call 51; (with_reducible refine (RC _).mono ?_); rintro e W1 ⟨rfl, rfl⟩) | (go_at_call 52; refine (straight_any _ _ _ _ _ _).mono ?_; rintro e W1 ⟨rfl, hb⟩; replace hM := mem_below hM hb; clear hb) | ((with_reducible refine lX ?_); first | refine aL hM rfl rfl ?_ | refine aM hM rfl rfl ?_) | ((with_reducible refine sX ?_); refine aS hM rfl rfl rfl ?_; clear hM; intro W hM) | ((with_reducible refine bX ?_); refine aB hM rfl rfl ?_; clear hM; intro g W hM) | ((with_reducible refine zX ?_); refine aN hM rfl rfl ?_; clear hM; intro g W hM))
 all_goals first
  | (exact absurd (show x.gap = true by assumption) (by rw [HG.out]; simp))
  | (exact absurd hG (show ¬ x.gap = true by assumption))
  | (refine' end_m2 hM rfl rfl Tryz.isAgg77 Tryz.sizeOf77 rfl rfl ?_ ?_ ⟨?_, hM.below⟩; rotate_left 2; (· repeat constructor); (· rfl); (· refine' ret_tk ?_ ?_; rotate_left 1; (· exact HT.out); (· first | rfl | (unfold patternT; rw [HK.out]; rfl))))
theorem resolve_t4 (fx fy c alt : Int) (x y : En) (spd bank oalt gr : Int) (hx : EnW x) (hy : EnW y) (w : World) (hu : Hid (usesAt w)) (hG : x.gap = false) (hO : optE spd bank oalt gr = 0) (hL : legF x = 0) (v1 : vldB fx fy = true) (v2 : vldB x.ex x.ey = true) (v3 : vldB x.mx x.my = true) (hcr : 0 ≤ c ∧ c < 129600000) (ha1 : -200000 ≤ alt) (ha2 : alt ≤ 6000000) (hk : x.ty = 4) :
 Calls Tryz.prog 53 #[.agg #[.int .i64 fx, .int .i64 fy], .int .i64 c, .int .i64 alt, .agg x.cells.toArray, .agg y.cells.toArray, .agg #[.int .i64 spd, .int .i64 bank, .int .i64 oalt, .int .i64 gr]] w fun e w' => e = .returned (.tuple #[.agg (resolveT fx fy c alt x y spd bank oalt gr).1.cells.toArray, .int .i64 (resolveT fx fy c alt x y spd bank oalt gr).2]) ∧ Below w.heap.size w w' := by
 have HT : Hid (resolveT fx fy c alt x y spd bank oalt gr = (straightF fx fy x.ex x.ey c, 0)) := hide (by
  unfold resolveT
  rw [if_neg (by rw [hO]; simp), if_neg (by rw [hG]; simp), if_neg (by rw [hL]; simp), if_neg (by rw [v1, v2, v3]; simp), if_neg (by omega)]
  unfold legT
  rw [if_neg (show ¬ (x.ty = 1) by omega), if_pos (show x.ty = 2 ∨ x.ty = 4 by omega)])
 have CH := fun W => opts_any spd bank oalt gr W
 have LC := fun W hW => lcheck_any x hx.leg W hW
 rw [hO] at CH
 rw [hL] at LC
 obtain ⟨_, _, _, hg1, hg2⟩ := opt_ok hO
 have hq := leg_ok hL
 have P1 := fun W => pvalid_b fx fy W
 rw [v1] at P1
 have P2 := fun W => pvalid_b x.ex x.ey W
 rw [v2] at P2
 have P3 := fun W => pvalid_b x.mx x.my W
 rw [v3] at P3
 have RC := fun W => rcourse_ok c W
 rw [decide_eq_true (show 0 ≤ c ∧ c < 129600000 by omega)] at RC
 obtain ⟨⟨k1, k2⟩, ⟨k3, k4⟩, ⟨k5, k6⟩, ⟨k7, k8⟩, ⟨k9, k10⟩, ⟨k11, k12, k13⟩, hturn0⟩ := hq
 obtain ⟨q1, q2, q3, q4, q5, q6, q7, q8, q9, q10, q11, q12, q13, q14, q15, q16, q17⟩ := tyq4 hk
 have HK := hide hk
 have HG := hide hG
 clear hO hL v1 v2 v3 hturn0 hk hG
 have hM := mem_nil w
 go_enter Tryz.func53, Tryz.ntmps53
 go_wp2_with (first | (go_at_call 50; refine cb hM (CH _) ?_; clear hM; intro W1 hM) | (go_at_call 105; (refine (LC _ (hide (usesAt_mem hM hu.out))).mono ?_); rintro e W1 ⟨rfl, hb⟩; replace hM := mem_below hM hb; clear hb) | (go_at_call 46; (with_reducible refine cb hM (P1 _) ?_); clear hM; intro W1 hM) | (go_at_call 46; (with_reducible refine cb hM (P2 _) ?_); clear hM; intro W1 hM) | (go_at_call 46; (with_reducible refine cb hM (P3 _) ?_); clear hM; intro W1 hM) | (go_at_call 51; (with_reducible refine (RC _).mono ?_); rintro e W1 ⟨rfl, rfl⟩) | (go_at_call 52; refine (straight_any _ _ _ _ _ _).mono ?_; rintro e W1 ⟨rfl, hb⟩; replace hM := mem_below hM hb; clear hb) | ((with_reducible refine lX ?_); first | refine aL hM rfl rfl ?_ | refine aM hM rfl rfl ?_) | ((with_reducible refine sX ?_); refine aS hM rfl rfl rfl ?_; clear hM; intro W hM) | ((with_reducible refine bX ?_); refine aB hM rfl rfl ?_; clear hM; intro g W hM) | ((with_reducible refine zX ?_); refine aN hM rfl rfl ?_; clear hM; intro g W hM))
 all_goals first
  | (exact absurd (show x.gap = true by assumption) (by rw [HG.out]; simp))
  | (exact absurd hG (show ¬ x.gap = true by assumption))
  | (refine' end_m2 hM rfl rfl Tryz.isAgg77 Tryz.sizeOf77 rfl rfl ?_ ?_ ⟨?_, hM.below⟩; rotate_left 2; (· repeat constructor); (· rfl); (· refine' ret_tk ?_ ?_; rotate_left 1; (· exact HT.out); (· first | rfl | (unfold patternT; rw [HK.out]; rfl))))
theorem resolve_t3 (fx fy c alt : Int) (x y : En) (spd bank oalt gr : Int) (hx : EnW x) (hy : EnW y) (w : World) (hu : Hid (usesAt w)) (hG : x.gap = false) (hO : optE spd bank oalt gr = 0) (hL : legF x = 0) (v1 : vldB fx fy = true) (v2 : vldB x.ex x.ey = true) (v3 : vldB x.mx x.my = true) (hcr : 0 ≤ c ∧ c < 129600000) (ha1 : -200000 ≤ alt) (ha2 : alt ≤ 6000000) (hk : x.ty = 3) :
 Calls Tryz.prog 53 #[.agg #[.int .i64 fx, .int .i64 fy], .int .i64 c, .int .i64 alt, .agg x.cells.toArray, .agg y.cells.toArray, .agg #[.int .i64 spd, .int .i64 bank, .int .i64 oalt, .int .i64 gr]] w fun e w' => e = .returned (.tuple #[.agg (resolveT fx fy c alt x y spd bank oalt gr).1.cells.toArray, .int .i64 (resolveT fx fy c alt x y spd bank oalt gr).2]) ∧ Below w.heap.size w w' := by
 have HT : Hid (resolveT fx fy c alt x y spd bank oalt gr = toFixT fx fy c x) := hide (by
  unfold resolveT
  rw [if_neg (by rw [hO]; simp), if_neg (by rw [hG]; simp), if_neg (by rw [hL]; simp), if_neg (by rw [v1, v2, v3]; simp), if_neg (by omega)]
  unfold legT
  rw [if_neg (show ¬ (x.ty = 1) by omega), if_neg (show ¬ (x.ty = 2 ∨ x.ty = 4) by omega), if_pos (show x.ty = 3 by omega)])
 have CH := fun W => opts_any spd bank oalt gr W
 have LC := fun W hW => lcheck_any x hx.leg W hW
 rw [hO] at CH
 rw [hL] at LC
 obtain ⟨_, _, _, hg1, hg2⟩ := opt_ok hO
 have hq := leg_ok hL
 have P1 := fun W => pvalid_b fx fy W
 rw [v1] at P1
 have P2 := fun W => pvalid_b x.ex x.ey W
 rw [v2] at P2
 have P3 := fun W => pvalid_b x.mx x.my W
 rw [v3] at P3
 have RC := fun W => rcourse_ok c W
 rw [decide_eq_true (show 0 ≤ c ∧ c < 129600000 by omega)] at RC
 obtain ⟨⟨k1, k2⟩, ⟨k3, k4⟩, ⟨k5, k6⟩, ⟨k7, k8⟩, ⟨k9, k10⟩, ⟨k11, k12, k13⟩, hturn0⟩ := hq
 obtain ⟨q1, q2, q3, q4, q5, q6, q7, q8, q9, q10, q11, q12, q13, q14, q15, q16, q17⟩ := tyq3 hk
 have XC := fun W => tofix_any fx fy c x k3 k4 W
 simp only [En.cells, hG] at XC
 have HK := hide hk
 have HG := hide hG
 clear hO hL v1 v2 v3 hturn0 hk hG
 have hM := mem_nil w
 go_enter Tryz.func53, Tryz.ntmps53
 go_wp2_with (first | (go_at_call 50; refine cb hM (CH _) ?_; clear hM; intro W1 hM) | (go_at_call 105; (refine (LC _ (hide (usesAt_mem hM hu.out))).mono ?_); rintro e W1 ⟨rfl, hb⟩; replace hM := mem_below hM hb; clear hb) | (go_at_call 46; (with_reducible refine cb hM (P1 _) ?_); clear hM; intro W1 hM) | (go_at_call 46; (with_reducible refine cb hM (P2 _) ?_); clear hM; intro W1 hM) | (go_at_call 46; (with_reducible refine cb hM (P3 _) ?_); clear hM; intro W1 hM) | (go_at_call 51; (with_reducible refine (RC _).mono ?_); rintro e W1 ⟨rfl, rfl⟩) | (go_at_call 106; (with_reducible refine cb hM (XC _) ?_); clear hM; intro W1 hM) | ((with_reducible refine lX ?_); first | refine aL hM rfl rfl ?_ | refine aM hM rfl rfl ?_) | ((with_reducible refine sX ?_); refine aS hM rfl rfl rfl ?_; clear hM; intro W hM) | ((with_reducible refine bX ?_); refine aB hM rfl rfl ?_; clear hM; intro g W hM) | ((with_reducible refine zX ?_); refine aN hM rfl rfl ?_; clear hM; intro g W hM))
 all_goals first
  | (exact absurd (show x.gap = true by assumption) (by rw [HG.out]; simp))
  | (exact absurd hG (show ¬ x.gap = true by assumption))
  | (refine' end_m2 hM rfl rfl Tryz.isAgg77 Tryz.sizeOf77 rfl rfl ?_ ?_ ⟨?_, hM.below⟩; rotate_left 2; (· repeat constructor); (· rfl); (· refine' ret_tk ?_ ?_; rotate_left 1; (· exact HT.out.trans pair_eta); (· rfl)))
end Go.Proofs.YtbhpklpkcgcmfaaGreatDoor
/-
  Resolve on legs of some types.
-/
set_option maxRecDepth 100000
set_option maxHeartbeats 16000000
namespace Go.Proofs.YtbhpklpkcgcmfaaGreatDoor
open Go.RowKit
set_option linter.unusedVariables false
set_option linter.unusedSimpArgs false
theorem resolve_t5 (fx fy c alt : Int) (x y : En) (spd bank oalt gr : Int) (hx : EnW x) (hy : EnW y) (w : World) (hu : Hid (usesAt w)) (hG : x.gap = false) (hO : optE spd bank oalt gr = 0) (hL : legF x = 0) (v1 : vldB fx fy = true) (v2 : vldB x.ex x.ey = true) (v3 : vldB x.mx x.my = true) (hcr : 0 ≤ c ∧ c < 129600000) (ha1 : -200000 ≤ alt) (ha2 : alt ≤ 6000000) (hk : x.ty = 5) :
 Calls Tryz.prog 53 #[.agg #[.int .i64 fx, .int .i64 fy], .int .i64 c, .int .i64 alt, .agg x.cells.toArray, .agg y.cells.toArray, .agg #[.int .i64 spd, .int .i64 bank, .int .i64 oalt, .int .i64 gr]] w fun e w' => e = .returned (.tuple #[.agg (resolveT fx fy c alt x y spd bank oalt gr).1.cells.toArray, .int .i64 (resolveT fx fy c alt x y spd bank oalt gr).2]) ∧ Below w.heap.size w w' := by
 have HT : Hid (resolveT fx fy c alt x y spd bank oalt gr = aroundT fx fy x) := hide (by
  unfold resolveT
  rw [if_neg (by rw [hO]; simp), if_neg (by rw [hG]; simp), if_neg (by rw [hL]; simp), if_neg (by rw [v1, v2, v3]; simp), if_neg (by omega)]
  unfold legT
  rw [if_neg (show ¬ (x.ty = 1) by omega), if_neg (show ¬ (x.ty = 2 ∨ x.ty = 4) by omega), if_neg (show ¬ (x.ty = 3) by omega), if_pos (show x.ty = 5 ∨ x.ty = 6 by omega)])
 have CH := fun W => opts_any spd bank oalt gr W
 have LC := fun W hW => lcheck_any x hx.leg W hW
 rw [hO] at CH
 rw [hL] at LC
 obtain ⟨_, _, _, hg1, hg2⟩ := opt_ok hO
 have hq := leg_ok hL
 have P1 := fun W => pvalid_b fx fy W
 rw [v1] at P1
 have P2 := fun W => pvalid_b x.ex x.ey W
 rw [v2] at P2
 have P3 := fun W => pvalid_b x.mx x.my W
 rw [v3] at P3
 have RC := fun W => rcourse_ok c W
 rw [decide_eq_true (show 0 ≤ c ∧ c < 129600000 by omega)] at RC
 obtain ⟨⟨k1, k2⟩, ⟨k3, k4⟩, ⟨k5, k6⟩, ⟨k7, k8⟩, ⟨k9, k10⟩, ⟨k11, k12, k13⟩, hturn0⟩ := hq
 have hturn : x.tn = 1 ∨ x.tn = 2 := hturn0 (by rw [hk]; rfl)
 obtain ⟨q1, q2, q3, q4, q5, q6, q7, q8, q9, q10, q11, q12, q13, q14, q15, q16, q17⟩ := tyq5 hk
 have XC := fun W => around_any fx fy x hturn k7 k8 W
 simp only [En.cells, hG] at XC
 have HK := hide hk
 have HG := hide hG
 clear hO hL v1 v2 v3 hturn0 hk hG
 have hM := mem_nil w
 go_enter Tryz.func53, Tryz.ntmps53
 go_wp2_with (first | (go_at_call 50; refine cb hM (CH _) ?_; clear hM; intro W1 hM) | (go_at_call 105; (refine (LC _ (hide (usesAt_mem hM hu.out))).mono ?_); rintro e W1 ⟨rfl, hb⟩; replace hM := mem_below hM hb; clear hb) | (go_at_call 46; (with_reducible refine cb hM (P1 _) ?_); clear hM; intro W1 hM) | (go_at_call 46; (with_reducible refine cb hM (P2 _) ?_); clear hM; intro W1 hM) | (go_at_call 46; (with_reducible refine cb hM (P3 _) ?_); clear hM; intro W1 hM) | (go_at_call 51; (with_reducible refine (RC _).mono ?_); rintro e W1 ⟨rfl, rfl⟩) | (go_at_call 107; (with_reducible refine cb hM (XC _) ?_); clear hM; intro W1 hM) | ((with_reducible refine lX ?_); first | refine aL hM rfl rfl ?_ | refine aM hM rfl rfl ?_) | ((with_reducible refine sX ?_); refine aS hM rfl rfl rfl ?_; clear hM; intro W hM) | ((with_reducible refine bX ?_); refine aB hM rfl rfl ?_; clear hM; intro g W hM) | ((with_reducible refine zX ?_); refine aN hM rfl rfl ?_; clear hM; intro g W hM))
 all_goals first
  | (exact absurd (show x.gap = true by assumption) (by rw [HG.out]; simp))
  | (exact absurd hG (show ¬ x.gap = true by assumption))
  | (refine' end_m2 hM rfl rfl Tryz.isAgg77 Tryz.sizeOf77 rfl rfl ?_ ?_ ⟨?_, hM.below⟩; rotate_left 2; (· repeat constructor); (· rfl); (· refine' ret_tk ?_ ?_; rotate_left 1; (· exact HT.out.trans pair_eta); (· rfl)))
theorem resolve_t6 (fx fy c alt : Int) (x y : En) (spd bank oalt gr : Int) (hx : EnW x) (hy : EnW y) (w : World) (hu : Hid (usesAt w)) (hG : x.gap = false) (hO : optE spd bank oalt gr = 0) (hL : legF x = 0) (v1 : vldB fx fy = true) (v2 : vldB x.ex x.ey = true) (v3 : vldB x.mx x.my = true) (hcr : 0 ≤ c ∧ c < 129600000) (ha1 : -200000 ≤ alt) (ha2 : alt ≤ 6000000) (hk : x.ty = 6) :
 Calls Tryz.prog 53 #[.agg #[.int .i64 fx, .int .i64 fy], .int .i64 c, .int .i64 alt, .agg x.cells.toArray, .agg y.cells.toArray, .agg #[.int .i64 spd, .int .i64 bank, .int .i64 oalt, .int .i64 gr]] w fun e w' => e = .returned (.tuple #[.agg (resolveT fx fy c alt x y spd bank oalt gr).1.cells.toArray, .int .i64 (resolveT fx fy c alt x y spd bank oalt gr).2]) ∧ Below w.heap.size w w' := by
 have HT : Hid (resolveT fx fy c alt x y spd bank oalt gr = aroundT fx fy x) := hide (by
  unfold resolveT
  rw [if_neg (by rw [hO]; simp), if_neg (by rw [hG]; simp), if_neg (by rw [hL]; simp), if_neg (by rw [v1, v2, v3]; simp), if_neg (by omega)]
  unfold legT
  rw [if_neg (show ¬ (x.ty = 1) by omega), if_neg (show ¬ (x.ty = 2 ∨ x.ty = 4) by omega), if_neg (show ¬ (x.ty = 3) by omega), if_pos (show x.ty = 5 ∨ x.ty = 6 by omega)])
 have CH := fun W => opts_any spd bank oalt gr W
 have LC := fun W hW => lcheck_any x hx.leg W hW
 rw [hO] at CH
 rw [hL] at LC
 obtain ⟨_, _, _, hg1, hg2⟩ := opt_ok hO
 have hq := leg_ok hL
 have P1 := fun W => pvalid_b fx fy W
 rw [v1] at P1
 have P2 := fun W => pvalid_b x.ex x.ey W
 rw [v2] at P2
 have P3 := fun W => pvalid_b x.mx x.my W
 rw [v3] at P3
 have RC := fun W => rcourse_ok c W
 rw [decide_eq_true (show 0 ≤ c ∧ c < 129600000 by omega)] at RC
 obtain ⟨⟨k1, k2⟩, ⟨k3, k4⟩, ⟨k5, k6⟩, ⟨k7, k8⟩, ⟨k9, k10⟩, ⟨k11, k12, k13⟩, hturn0⟩ := hq
 have hturn : x.tn = 1 ∨ x.tn = 2 := hturn0 (by rw [hk]; rfl)
 obtain ⟨q1, q2, q3, q4, q5, q6, q7, q8, q9, q10, q11, q12, q13, q14, q15, q16, q17⟩ := tyq6 hk
 have XC := fun W => around_any fx fy x hturn k7 k8 W
 simp only [En.cells, hG] at XC
 have HK := hide hk
 have HG := hide hG
 clear hO hL v1 v2 v3 hturn0 hk hG
 have hM := mem_nil w
 go_enter Tryz.func53, Tryz.ntmps53
 go_wp2_with (first | (go_at_call 50; refine cb hM (CH _) ?_; clear hM; intro W1 hM) | (go_at_call 105; (refine (LC _ (hide (usesAt_mem hM hu.out))).mono ?_); rintro e W1 ⟨rfl, hb⟩; replace hM := mem_below hM hb; clear hb) | (go_at_call 46; (with_reducible refine cb hM (P1 _) ?_); clear hM; intro W1 hM) | (go_at_call 46; (with_reducible refine cb hM (P2 _) ?_); clear hM; intro W1 hM) | (go_at_call 46; (with_reducible refine cb hM (P3 _) ?_); clear hM; intro W1 hM) | (go_at_call 51; (with_reducible refine (RC _).mono ?_); rintro e W1 ⟨rfl, rfl⟩) | (go_at_call 107; (with_reducible refine cb hM (XC _) ?_); clear hM; intro W1 hM) | ((with_reducible refine lX ?_); first | refine aL hM rfl rfl ?_ | refine aM hM rfl rfl ?_) | ((with_reducible refine sX ?_); refine aS hM rfl rfl rfl ?_; clear hM; intro W hM) | ((with_reducible refine bX ?_); refine aB hM rfl rfl ?_; clear hM; intro g W hM) | ((with_reducible refine zX ?_); refine aN hM rfl rfl ?_; clear hM; intro g W hM))
 all_goals first
  | (exact absurd (show x.gap = true by assumption) (by rw [HG.out]; simp))
  | (exact absurd hG (show ¬ x.gap = true by assumption))
  | (refine' end_m2 hM rfl rfl Tryz.isAgg77 Tryz.sizeOf77 rfl rfl ?_ ?_ ⟨?_, hM.below⟩; rotate_left 2; (· repeat constructor); (· rfl); (· refine' ret_tk ?_ ?_; rotate_left 1; (· exact HT.out.trans pair_eta); (· rfl)))
theorem resolve_t7 (fx fy c alt : Int) (x y : En) (spd bank oalt gr : Int) (hx : EnW x) (hy : EnW y) (w : World) (hu : Hid (usesAt w)) (hG : x.gap = false) (hO : optE spd bank oalt gr = 0) (hL : legF x = 0) (v1 : vldB fx fy = true) (v2 : vldB x.ex x.ey = true) (v3 : vldB x.mx x.my = true) (hcr : 0 ≤ c ∧ c < 129600000) (ha1 : -200000 ≤ alt) (ha2 : alt ≤ 6000000) (hk : x.ty = 7) :
 Calls Tryz.prog 53 #[.agg #[.int .i64 fx, .int .i64 fy], .int .i64 c, .int .i64 alt, .agg x.cells.toArray, .agg y.cells.toArray, .agg #[.int .i64 spd, .int .i64 bank, .int .i64 oalt, .int .i64 gr]] w fun e w' => e = .returned (.tuple #[.agg (resolveT fx fy c alt x y spd bank oalt gr).1.cells.toArray, .int .i64 (resolveT fx fy c alt x y spd bank oalt gr).2]) ∧ Below w.heap.size w w' := by
 have HT : Hid (resolveT fx fy c alt x y spd bank oalt gr = climbT fx fy alt x gr) := hide (by
  unfold resolveT
  rw [if_neg (by rw [hO]; simp), if_neg (by rw [hG]; simp), if_neg (by rw [hL]; simp), if_neg (by rw [v1, v2, v3]; simp), if_neg (by omega)]
  unfold legT
  rw [if_neg (show ¬ (x.ty = 1) by omega), if_neg (show ¬ (x.ty = 2 ∨ x.ty = 4) by omega), if_neg (show ¬ (x.ty = 3) by omega), if_neg (show ¬ (x.ty = 5 ∨ x.ty = 6) by omega), if_pos (show x.ty = 7 by omega)])
 have CH := fun W => opts_any spd bank oalt gr W
 have LC := fun W hW => lcheck_any x hx.leg W hW
 rw [hO] at CH
 rw [hL] at LC
 obtain ⟨_, _, _, hg1, hg2⟩ := opt_ok hO
 have hq := leg_ok hL
 have P1 := fun W => pvalid_b fx fy W
 rw [v1] at P1
 have P2 := fun W => pvalid_b x.ex x.ey W
 rw [v2] at P2
 have P3 := fun W => pvalid_b x.mx x.my W
 rw [v3] at P3
 have RC := fun W => rcourse_ok c W
 rw [decide_eq_true (show 0 ≤ c ∧ c < 129600000 by omega)] at RC
 obtain ⟨⟨k1, k2⟩, ⟨k3, k4⟩, ⟨k5, k6⟩, ⟨k7, k8⟩, ⟨k9, k10⟩, ⟨k11, k12, k13⟩, hturn0⟩ := hq
 obtain ⟨q1, q2, q3, q4, q5, q6, q7, q8, q9, q10, q11, q12, q13, q14, q15, q16, q17⟩ := tyq7 hk
 have XC := fun W => climb_any fx fy alt x spd bank oalt gr ha1 ha2 k11 (by omega) hg1 hg2 (by unfold I64; omega) W
 simp only [En.cells, hG] at XC
 have HK := hide hk
 have HG := hide hG
 clear hO hL v1 v2 v3 hturn0 hk hG
 have hM := mem_nil w
 go_enter Tryz.func53, Tryz.ntmps53
 go_wp2_with (first | (go_at_call 50; refine cb hM (CH _) ?_; clear hM; intro W1 hM) | (go_at_call 105; (refine (LC _ (hide (usesAt_mem hM hu.out))).mono ?_); rintro e W1 ⟨rfl, hb⟩; replace hM := mem_below hM hb; clear hb) | (go_at_call 46; (with_reducible refine cb hM (P1 _) ?_); clear hM; intro W1 hM) | (go_at_call 46; (with_reducible refine cb hM (P2 _) ?_); clear hM; intro W1 hM) | (go_at_call 46; (with_reducible refine cb hM (P3 _) ?_); clear hM; intro W1 hM) | (go_at_call 51; (with_reducible refine (RC _).mono ?_); rintro e W1 ⟨rfl, rfl⟩) | (go_at_call 108; (with_reducible refine cb hM (XC _) ?_); clear hM; intro W1 hM) | ((with_reducible refine lX ?_); first | refine aL hM rfl rfl ?_ | refine aM hM rfl rfl ?_) | ((with_reducible refine sX ?_); refine aS hM rfl rfl rfl ?_; clear hM; intro W hM) | ((with_reducible refine bX ?_); refine aB hM rfl rfl ?_; clear hM; intro g W hM) | ((with_reducible refine zX ?_); refine aN hM rfl rfl ?_; clear hM; intro g W hM))
 all_goals first
  | (exact absurd (show x.gap = true by assumption) (by rw [HG.out]; simp))
  | (exact absurd hG (show ¬ x.gap = true by assumption))
  | (refine' end_m2 hM rfl rfl Tryz.isAgg77 Tryz.sizeOf77 rfl rfl ?_ ?_ ⟨?_, hM.below⟩; rotate_left 2; (· repeat constructor); (· rfl); (· refine' ret_tk ?_ ?_; rotate_left 1; (· exact HT.out.trans pair_eta); (· rfl)))
theorem resolve_t11 (fx fy c alt : Int) (x y : En) (spd bank oalt gr : Int) (hx : EnW x) (hy : EnW y) (w : World) (hu : Hid (usesAt w)) (hG : x.gap = false) (hO : optE spd bank oalt gr = 0) (hL : legF x = 0) (v1 : vldB fx fy = true) (v2 : vldB x.ex x.ey = true) (v3 : vldB x.mx x.my = true) (hcr : 0 ≤ c ∧ c < 129600000) (ha1 : -200000 ≤ alt) (ha2 : alt ≤ 6000000) (hk : x.ty = 11) :
 Calls Tryz.prog 53 #[.agg #[.int .i64 fx, .int .i64 fy], .int .i64 c, .int .i64 alt, .agg x.cells.toArray, .agg y.cells.toArray, .agg #[.int .i64 spd, .int .i64 bank, .int .i64 oalt, .int .i64 gr]] w fun e w' => e = .returned (.tuple #[.agg (resolveT fx fy c alt x y spd bank oalt gr).1.cells.toArray, .int .i64 (resolveT fx fy c alt x y spd bank oalt gr).2]) ∧ Below w.heap.size w w' := by
 have HT : Hid (resolveT fx fy c alt x y spd bank oalt gr = climbT x.ex x.ey alt x gr) := hide (by
  unfold resolveT
  rw [if_neg (by rw [hO]; simp), if_neg (by rw [hG]; simp), if_neg (by rw [hL]; simp), if_neg (by rw [v1, v2, v3]; simp), if_neg (by omega)]
  unfold legT
  rw [if_neg (show ¬ (x.ty = 1) by omega), if_neg (show ¬ (x.ty = 2 ∨ x.ty = 4) by omega), if_neg (show ¬ (x.ty = 3) by omega), if_neg (show ¬ (x.ty = 5 ∨ x.ty = 6) by omega), if_neg (show ¬ (x.ty = 7) by omega), if_pos (show x.ty = 11 by omega)])
 have CH := fun W => opts_any spd bank oalt gr W
 have LC := fun W hW => lcheck_any x hx.leg W hW
 rw [hO] at CH
 rw [hL] at LC
 obtain ⟨_, _, _, hg1, hg2⟩ := opt_ok hO
 have hq := leg_ok hL
 have P1 := fun W => pvalid_b fx fy W
 rw [v1] at P1
 have P2 := fun W => pvalid_b x.ex x.ey W
 rw [v2] at P2
 have P3 := fun W => pvalid_b x.mx x.my W
 rw [v3] at P3
 have RC := fun W => rcourse_ok c W
 rw [decide_eq_true (show 0 ≤ c ∧ c < 129600000 by omega)] at RC
 obtain ⟨⟨k1, k2⟩, ⟨k3, k4⟩, ⟨k5, k6⟩, ⟨k7, k8⟩, ⟨k9, k10⟩, ⟨k11, k12, k13⟩, hturn0⟩ := hq
 obtain ⟨q1, q2, q3, q4, q5, q6, q7, q8, q9, q10, q11, q12, q13, q14, q15, q16, q17⟩ := tyq11 hk
 have XC := fun W => climb_any x.ex x.ey alt x spd bank oalt gr ha1 ha2 k11 (by omega) hg1 hg2 (by unfold I64; omega) W
 simp only [En.cells, hG] at XC
 have HK := hide hk
 have HG := hide hG
 clear hO hL v1 v2 v3 hturn0 hk hG
 have hM := mem_nil w
 go_enter Tryz.func53, Tryz.ntmps53
 go_wp2_with (first | (go_at_call 50; refine cb hM (CH _) ?_; clear hM; intro W1 hM) | (go_at_call 105; (refine (LC _ (hide (usesAt_mem hM hu.out))).mono ?_); rintro e W1 ⟨rfl, hb⟩; replace hM := mem_below hM hb; clear hb) | (go_at_call 46; (with_reducible refine cb hM (P1 _) ?_); clear hM; intro W1 hM) | (go_at_call 46; (with_reducible refine cb hM (P2 _) ?_); clear hM; intro W1 hM) | (go_at_call 46; (with_reducible refine cb hM (P3 _) ?_); clear hM; intro W1 hM) | (go_at_call 51; (with_reducible refine (RC _).mono ?_); rintro e W1 ⟨rfl, rfl⟩) | (go_at_call 108; (with_reducible refine cb hM (XC _) ?_); clear hM; intro W1 hM) | ((with_reducible refine lX ?_); first | refine aL hM rfl rfl ?_ | refine aM hM rfl rfl ?_) | ((with_reducible refine sX ?_); refine aS hM rfl rfl rfl ?_; clear hM; intro W hM) | ((with_reducible refine bX ?_); refine aB hM rfl rfl ?_; clear hM; intro g W hM) | ((with_reducible refine zX ?_); refine aN hM rfl rfl ?_; clear hM; intro g W hM))
 all_goals first
  | (exact absurd (show x.gap = true by assumption) (by rw [HG.out]; simp))
  | (exact absurd hG (show ¬ x.gap = true by assumption))
  | (refine' end_m2 hM rfl rfl Tryz.isAgg77 Tryz.sizeOf77 rfl rfl ?_ ?_ ⟨?_, hM.below⟩; rotate_left 2; (· repeat constructor); (· rfl); (· refine' ret_tk ?_ ?_; rotate_left 1; (· exact HT.out.trans pair_eta); (· rfl)))
end Go.Proofs.YtbhpklpkcgcmfaaGreatDoor
