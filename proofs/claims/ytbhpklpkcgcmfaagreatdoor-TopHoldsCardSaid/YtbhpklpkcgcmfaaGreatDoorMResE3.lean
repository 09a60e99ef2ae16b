/-
  Resolve on legs of some types.
-/
import Derived.Test.YtbhpklpkcgcmfaaGreatDoorMResD
import Derived.Test.YtbhpklpkcgcmfaaGreatDoorMResC
set_option maxRecDepth 100000
set_option maxHeartbeats 16000000
namespace Go.Proofs.YtbhpklpkcgcmfaaGreatDoor
open Go.RowKit
set_option linter.unusedVariables false
set_option linter.unusedSimpArgs false
theorem resolve_t12 (fx fy c alt : Int) (x y : En) (spd bank oalt gr : Int) (hx : EnW x) (hy : EnW y) (w : World) (hu : Hid (usesAt w)) (hG : x.gap = false) (hO : optE spd bank oalt gr = 0) (hL : legF x = 0) (v1 : vldB fx fy = true) (v2 : vldB x.ex x.ey = true) (v3 : vldB x.mx x.my = true) (hcr : 0 ≤ c ∧ c < 129600000) (ha1 : -200000 ≤ alt) (ha2 : alt ≤ 6000000) (hk : x.ty = 12) :
 Calls Tryz.prog 53 #[.agg #[.int .i64 fx, .int .i64 fy], .int .i64 c, .int .i64 alt, .agg x.cells.toArray, .agg y.cells.toArray, .agg #[.int .i64 spd, .int .i64 bank, .int .i64 oalt, .int .i64 gr]] w fun e w' => e = .returned (.tuple #[.agg (resolveT fx fy c alt x y spd bank oalt gr).1.cells.toArray, .int .i64 (resolveT fx fy c alt x y spd bank oalt gr).2]) ∧ Below w.heap.size w w' := by
 have HT : Hid (resolveT fx fy c alt x y spd bank oalt gr = rayT x.ex x.ey x.crs x.dst) := hide (by
  unfold resolveT
  rw [if_neg (by rw [hO]; simp), if_neg (by rw [hG]; simp), if_neg (by rw [hL]; simp), if_neg (by rw [v1, v2, v3]; simp), if_neg (by omega)]
  unfold legT
  rw [if_neg (show ¬ (x.ty = 1) by omega), if_neg (show ¬ (x.ty = 2 ∨ x.ty = 4) by omega), if_neg (show ¬ (x.ty = 3) by omega), if_neg (show ¬ (x.ty = 5 ∨ x.ty = 6) by omega), if_neg (show ¬ (x.ty = 7) by omega), if_neg (show ¬ (x.ty = 11) by omega), if_pos (show x.ty = 12 by omega)])
 have CH := fun W => opts_any spd bank oalt gr W
 have LC := fun W hW => lcheck_any x hx.leg W hW
 rw [hO] at CH
 rw [hL] at LC
 obtain ⟨_, _, _, hg1, hg2⟩ := opt_ok hO
 have hq := leg_ok hL
 have P1 := fun W => pvalid_b fx fy W
 rw [v1] at P1
 have P2 := fun W => pvalid_b x.ex x.ey W
 rw [v2] at P2
 have P3 := fun W => pvalid_b x.mx x.my W
 rw [v3] at P3
 have RC := fun W => rcourse_ok c W
 rw [decide_eq_true (show 0 ≤ c ∧ c < 129600000 by omega)] at RC
 obtain ⟨⟨k1, k2⟩, ⟨k3, k4⟩, ⟨k5, k6⟩, ⟨k7, k8⟩, ⟨k9, k10⟩, ⟨k11, k12, k13⟩, hturn0⟩ := hq
 obtain ⟨q1, q2, q3, q4, q5, q6, q7, q8, q9, q10, q11, q12, q13, q14, q15, q16, q17⟩ := tyq12 hk
 have HK := hide hk
 have HG := hide hG
 clear hO hL v1 v2 v3 hturn0 hk hG
 have hM := mem_nil w
 go_enter Tryz.func53, Tryz.ntmps53
 go_wp2_with (first | (go_at_call 50; refine cb hM (CH _) ?_; clear hM; intro W1 hM) | (go_at_call 105; (refine (LC _ (hide (usesAt_mem hM hu.out))).mono ?_); rintro e W1 ⟨rfl, hb⟩; replace hM := mem_below hM hb; clear hb) | (go_at_call 46; (with_reducible refine cb hM (P1 _) ?_); clear hM; intro W1 hM) | (go_at_call 46; (with_reducible refine cb hM (P2 _) ?_); clear hM; intro W1 hM) | (go_at_call 46; (with_reducible refine cb hM (P3 _) ?_); clear hM; intro W1 hM) | (go_at_call 51; (with_reducible refine (RC _).mono ?_); rintro e W1 ⟨rfl, rfl⟩) | (go_at_call 109; refine (rray_t _ _ _ _ ?_ ?_ _).mono ?_; (· first | assumption | (unfold I64; omega)); (· first | assumption | (unfold I64; omega)); rintro e W1 ⟨rfl, hb⟩; replace hM := mem_below hM hb; clear hb) | ((with_reducible refine lX ?_); first | refine aL hM rfl rfl ?_ | refine aM hM rfl rfl ?_) | ((with_reducible refine sX ?_); refine aS hM rfl rfl rfl ?_; clear hM; intro W hM) | ((with_reducible refine bX ?_); refine aB hM rfl rfl ?_; clear hM; intro g W hM) | ((with_reducible refine zX ?_); refine aN hM rfl rfl ?_; clear hM; intro g W hM))
 all_goals first
  | (exact absurd (show x.gap = true by assumption) (by rw [HG.out]; simp))
  | (exact absurd hG (show ¬ x.gap = true by assumption))
  | (refine' end_m2 hM rfl rfl Tryz.isAgg77 Tryz.sizeOf77 rfl rfl ?_ ?_ ⟨?_, hM.below⟩; rotate_left 2; (· repeat constructor); (· rfl); (· refine' ret_tk ?_ ?_; rotate_left 1; (· exact HT.out.trans pair_eta); (· rfl)))
theorem resolve_t13 (fx fy c alt : Int) (x y : En) (spd bank oalt gr : Int) (hx : EnW x) (hy : EnW y) (w : World) (hu : Hid (usesAt w)) (hG : x.gap = false) (hO : optE spd bank oalt gr = 0) (hL : legF x = 0) (v1 : vldB fx fy = true) (v2 : vldB x.ex x.ey = true) (v3 : vldB x.mx x.my = true) (hcr : 0 ≤ c ∧ c < 129600000) (ha1 : -200000 ≤ alt) (ha2 : alt ≤ 6000000) (hk : x.ty = 13) :
 Calls Tryz.prog 53 #[.agg #[.int .i64 fx, .int .i64 fy], .int .i64 c, .int .i64 alt, .agg x.cells.toArray, .agg y.cells.toArray, .agg #[.int .i64 spd, .int .i64 bank, .int .i64 oalt, .int .i64 gr]] w fun e w' => e = .returned (.tuple #[.agg (resolveT fx fy c alt x y spd bank oalt gr).1.cells.toArray, .int .i64 (resolveT fx fy c alt x y spd bank oalt gr).2]) ∧ Below w.heap.size w w' := by
 have HT : Hid (resolveT fx fy c alt x y spd bank oalt gr = openT x.ex x.ey x.crs) := hide (by
  unfold resolveT
  rw [if_neg (by rw [hO]; simp), if_neg (by rw [hG]; simp), if_neg (by rw [hL]; simp), if_neg (by rw [v1, v2, v3]; simp), if_neg (by omega)]
  unfold legT
  rw [if_neg (show ¬ (x.ty = 1) by omega), if_neg (show ¬ (x.ty = 2 ∨ x.ty = 4) by omega), if_neg (show ¬ (x.ty = 3) by omega), if_neg (show ¬ (x.ty = 5 ∨ x.ty = 6) by omega), if_neg (show ¬ (x.ty = 7) by omega), if_neg (show ¬ (x.ty = 11) by omega), if_neg (show ¬ (x.ty = 12) by omega), if_pos (show x.ty = 13 by omega)])
 have CH := fun W => opts_any spd bank oalt gr W
 have LC := fun W hW => lcheck_any x hx.leg W hW
 rw [hO] at CH
 rw [hL] at LC
 obtain ⟨_, _, _, hg1, hg2⟩ := opt_ok hO
 have hq := leg_ok hL
 have P1 := fun W => pvalid_b fx fy W
 rw [v1] at P1
 have P2 := fun W => pvalid_b x.ex x.ey W
 rw [v2] at P2
 have P3 := fun W => pvalid_b x.mx x.my W
 rw [v3] at P3
 have RC := fun W => rcourse_ok c W
 rw [decide_eq_true (show 0 ≤ c ∧ c < 129600000 by omega)] at RC
 obtain ⟨⟨k1, k2⟩, ⟨k3, k4⟩, ⟨k5, k6⟩, ⟨k7, k8⟩, ⟨k9, k10⟩, ⟨k11, k12, k13⟩, hturn0⟩ := hq
 obtain ⟨q1, q2, q3, q4, q5, q6, q7, q8, q9, q10, q11, q12, q13, q14, q15, q16, q17⟩ := tyq13 hk
 have HK := hide hk
 have HG := hide hG
 clear hO hL v1 v2 v3 hturn0 hk hG
 have XC := fun W => rray_t x.ex x.ey x.crs 300000 (by unfold I64; omega) (by unfold I64; omega) W
 obtain ⟨T0, E0, hT⟩ : ∃ T0 E0, rayT x.ex x.ey x.crs 300000 = (T0, E0) := ⟨_, _, rfl⟩
 have HU := HT.out
 unfold openT at HU
 rw [hT] at XC HU
 dsimp only at XC HU
 clear hT HT
 by_cases h0 : E0 = 0
 · subst h0
   have HT := hide HU
   clear HU
   have hM := mem_nil w
   go_enter Tryz.func53, Tryz.ntmps53
   go_wp2_with (first | (go_at_call 50; refine cb hM (CH _) ?_; clear hM; intro W1 hM) | (go_at_call 105; (refine (LC _ (hide (usesAt_mem hM hu.out))).mono ?_); rintro e W1 ⟨rfl, hb⟩; replace hM := mem_below hM hb; clear hb) | (go_at_call 46; (with_reducible refine cb hM (P1 _) ?_); clear hM; intro W1 hM) | (go_at_call 46; (with_reducible refine cb hM (P2 _) ?_); clear hM; intro W1 hM) | (go_at_call 46; (with_reducible refine cb hM (P3 _) ?_); clear hM; intro W1 hM) | (go_at_call 51; (with_reducible refine (RC _).mono ?_); rintro e W1 ⟨rfl, rfl⟩) | (go_at_call 109; (with_reducible refine cb hM (XC _) ?_); clear hM; intro W1 hM) | ((with_reducible refine lX ?_); first | refine aL hM rfl rfl ?_ | refine aM hM rfl rfl ?_) | ((with_reducible refine sX ?_); refine aS hM rfl rfl rfl ?_; clear hM; intro W hM) | ((with_reducible refine bX ?_); refine aB hM rfl rfl ?_; clear hM; intro g W hM) | ((with_reducible refine zX ?_); refine aN hM rfl rfl ?_; clear hM; intro g W hM))
   all_goals first
    | (exact absurd (show x.gap = true by assumption) (by rw [HG.out]; simp))
    | (exact absurd hG (show ¬ x.gap = true by assumption))
    | (refine' end_m2 hM rfl rfl Tryz.isAgg77 Tryz.sizeOf77 rfl rfl ?_ ?_ ⟨?_, hM.below⟩; rotate_left 2; (· repeat constructor); (· rfl); (· refine' ret_tk ?_ ?_; rotate_left 1; (· exact HT.out); (· rfl)))
 · have HT := hide (HU.trans (if_neg h0))
   have hne : (E0 == 0) = false := by simpa using h0
   clear HU h0
   have hM := mem_nil w
   go_enter Tryz.func53, Tryz.ntmps53
   go_wp2_with (first | (go_at_call 50; refine cb hM (CH _) ?_; clear hM; intro W1 hM) | (go_at_call 105; (refine (LC _ (hide (usesAt_mem hM hu.out))).mono ?_); rintro e W1 ⟨rfl, hb⟩; replace hM := mem_below hM hb; clear hb) | (go_at_call 46; (with_reducible refine cb hM (P1 _) ?_); clear hM; intro W1 hM) | (go_at_call 46; (with_reducible refine cb hM (P2 _) ?_); clear hM; intro W1 hM) | (go_at_call 46; (with_reducible refine cb hM (P3 _) ?_); clear hM; intro W1 hM) | (go_at_call 51; (with_reducible refine (RC _).mono ?_); rintro e W1 ⟨rfl, rfl⟩) | (go_at_call 109; (with_reducible refine cb hM (XC _) ?_); clear hM; intro W1 hM) | ((with_reducible refine lX ?_); first | refine aL hM rfl rfl ?_ | refine aM hM rfl rfl ?_) | ((with_reducible refine sX ?_); refine aS hM rfl rfl rfl ?_; clear hM; intro W hM) | ((with_reducible refine bX ?_); refine aB hM rfl rfl ?_; clear hM; intro g W hM) | ((with_reducible refine zX ?_); refine aN hM rfl rfl ?_; clear hM; intro g W hM))
   all_goals first
    | (exact absurd (show x.gap = true by assumption) (by rw [HG.out]; simp))
    | (exact absurd hG (show ¬ x.gap = true by assumption))
    | (refine' end_m2 hM rfl rfl Tryz.isAgg77 Tryz.sizeOf77 rfl rfl ?_ ?_ ⟨?_, hM.below⟩; rotate_left 2; (· repeat constructor); (· rfl); (· refine' ret_tk ?_ ?_; rotate_left 1; (· exact HT.out); (· rfl)))
theorem resolve_t8 (fx fy c alt : Int) (x y : En) (spd bank oalt gr : Int) (hx : EnW x) (hy : EnW y) (w : World) (hu : Hid (usesAt w)) (hG : x.gap = false) (hO : optE spd bank oalt gr = 0) (hL : legF x = 0) (v1 : vldB fx fy = true) (v2 : vldB x.ex x.ey = true) (v3 : vldB x.mx x.my = true) (hcr : 0 ≤ c ∧ c < 129600000) (ha1 : -200000 ≤ alt) (ha2 : alt ≤ 6000000) (hk : x.ty = 8) :
 Calls Tryz.prog 53 #[.agg #[.int .i64 fx, .int .i64 fy], .int .i64 c, .int .i64 alt, .agg x.cells.toArray, .agg y.cells.toArray, .agg #[.int .i64 spd, .int .i64 bank, .int .i64 oalt, .int .i64 gr]] w fun e w' => e = .returned (.tuple #[.agg (resolveT fx fy c alt x y spd bank oalt gr).1.cells.toArray, .int .i64 (resolveT fx fy c alt x y spd bank oalt gr).2]) ∧ Below w.heap.size w w' := by
 have HT : Hid (resolveT fx fy c alt x y spd bank oalt gr = toDistT fx fy x) := hide (by
  unfold resolveT
  rw [if_neg (by rw [hO]; simp), if_neg (by rw [hG]; simp), if_neg (by rw [hL]; simp), if_neg (by rw [v1, v2, v3]; simp), if_neg (by omega)]
  unfold legT
  rw [if_neg (show ¬ (x.ty = 1) by omega), if_neg (show ¬ (x.ty = 2 ∨ x.ty = 4) by omega), if_neg (show ¬ (x.ty = 3) by omega), if_neg (show ¬ (x.ty = 5 ∨ x.ty = 6) by omega), if_neg (show ¬ (x.ty = 7) by omega), if_neg (show ¬ (x.ty = 11) by omega), if_neg (show ¬ (x.ty = 12) by omega), if_neg (show ¬ (x.ty = 13) by omega), if_pos (show x.ty = 8 by omega)])
 have CH := fun W => opts_any spd bank oalt gr W
 have LC := fun W hW => lcheck_any x hx.leg W hW
 rw [hO] at CH
 rw [hL] at LC
 obtain ⟨_, _, _, hg1, hg2⟩ := opt_ok hO
 have hq := leg_ok hL
 have P1 := fun W => pvalid_b fx fy W
 rw [v1] at P1
 have P2 := fun W => pvalid_b x.ex x.ey W
 rw [v2] at P2
 have P3 := fun W => pvalid_b x.mx x.my W
 rw [v3] at P3
 have RC := fun W => rcourse_ok c W
 rw [decide_eq_true (show 0 ≤ c ∧ c < 129600000 by omega)] at RC
 obtain ⟨⟨k1, k2⟩, ⟨k3, k4⟩, ⟨k5, k6⟩, ⟨k7, k8⟩, ⟨k9, k10⟩, ⟨k11, k12, k13⟩, hturn0⟩ := hq
 obtain ⟨q1, q2, q3, q4, q5, q6, q7, q8, q9, q10, q11, q12, q13, q14, q15, q16, q17⟩ := tyq8 hk
 have XC := fun W => todist_any fx fy x k5 k6 (by unfold I64; omega) W
 simp only [En.cells, hG] at XC
 have HK := hide hk
 have HG := hide hG
 clear hO hL v1 v2 v3 hturn0 hk hG
 have hM := mem_nil w
 go_enter Tryz.func53, Tryz.ntmps53
 go_wp2_with (first | (go_at_call 50; refine cb hM (CH _) ?_; clear hM; intro W1 hM) | (go_at_call 105; (refine (LC _ (hide (usesAt_mem hM hu.out))).mono ?_); rintro e W1 ⟨rfl, hb⟩; replace hM := mem_below hM hb; clear hb) | (go_at_call 46; (with_reducible refine cb hM (P1 _) ?_); clear hM; intro W1 hM) | (go_at_call 46; (with_reducible refine cb hM (P2 _) ?_); clear hM; intro W1 hM) | (go_at_call 46; (with_reducible refine cb hM (P3 _) ?_); clear hM; intro W1 hM) | (go_at_call 51; (with_reducible refine (RC _).mono ?_); rintro e W1 ⟨rfl, rfl⟩) | (go_at_call 110; (with_reducible refine cb hM (XC _) ?_); clear hM; intro W1 hM) | ((with_reducible refine lX ?_); first | refine aL hM rfl rfl ?_ | refine aM hM rfl rfl ?_) | ((with_reducible refine sX ?_); refine aS hM rfl rfl rfl ?_; clear hM; intro W hM) | ((with_reducible refine bX ?_); refine aB hM rfl rfl ?_; clear hM; intro g W hM) | ((with_reducible refine zX ?_); refine aN hM rfl rfl ?_; clear hM; intro g W hM))
 all_goals first
  | (exact absurd (show x.gap = true by assumption) (by rw [HG.out]; simp))
  | (exact absurd hG (show ¬ x.gap = true by assumption))
  | (refine' end_m2 hM rfl rfl Tryz.isAgg77 Tryz.sizeOf77 rfl rfl ?_ ?_ ⟨?_, hM.below⟩; rotate_left 2; (· repeat constructor); (· rfl); (· refine' ret_tk ?_ ?_; rotate_left 1; (· exact HT.out.trans pair_eta); (· rfl)))
theorem resolve_t10 (fx fy c alt : Int) (x y : En) (spd bank oalt gr : Int) (hx : EnW x) (hy : EnW y) (w : World) (hu : Hid (usesAt w)) (hG : x.gap = false) (hO : optE spd bank oalt gr = 0) (hL : legF x = 0) (v1 : vldB fx fy = true) (v2 : vldB x.ex x.ey = true) (v3 : vldB x.mx x.my = true) (hcr : 0 ≤ c ∧ c < 129600000) (ha1 : -200000 ≤ alt) (ha2 : alt ≤ 6000000) (hk : x.ty = 10) :
 Calls Tryz.prog 53 #[.agg #[.int .i64 fx, .int .i64 fy], .int .i64 c, .int .i64 alt, .agg x.cells.toArray, .agg y.cells.toArray, .agg #[.int .i64 spd, .int .i64 bank, .int .i64 oalt, .int .i64 gr]] w fun e w' => e = .returned (.tuple #[.agg (resolveT fx fy c alt x y spd bank oalt gr).1.cells.toArray, .int .i64 (resolveT fx fy c alt x y spd bank oalt gr).2]) ∧ Below w.heap.size w w' := by
 have HT : Hid (resolveT fx fy c alt x y spd bank oalt gr = toRadT fx fy x) := hide (by
  unfold resolveT
  rw [if_neg (by rw [hO]; simp), if_neg (by rw [hG]; simp), if_neg (by rw [hL]; simp), if_neg (by rw [v1, v2, v3]; simp), if_neg (by omega)]
  unfold legT
  rw [if_neg (show ¬ (x.ty = 1) by omega), if_neg (show ¬ (x.ty = 2 ∨ x.ty = 4) by omega), if_neg (show ¬ (x.ty = 3) by omega), if_neg (show ¬ (x.ty = 5 ∨ x.ty = 6) by omega), if_neg (show ¬ (x.ty = 7) by omega), if_neg (show ¬ (x.ty = 11) by omega), if_neg (show ¬ (x.ty = 12) by omega), if_neg (show ¬ (x.ty = 13) by omega), if_neg (show ¬ (x.ty = 8) by omega), if_pos (show x.ty = 10 by omega)])
 have CH := fun W => opts_any spd bank oalt gr W
 have LC := fun W hW => lcheck_any x hx.leg W hW
 rw [hO] at CH
 rw [hL] at LC
 obtain ⟨_, _, _, hg1, hg2⟩ := opt_ok hO
 have hq := leg_ok hL
 have P1 := fun W => pvalid_b fx fy W
 rw [v1] at P1
 have P2 := fun W => pvalid_b x.ex x.ey W
 rw [v2] at P2
 have P3 := fun W => pvalid_b x.mx x.my W
 rw [v3] at P3
 have RC := fun W => rcourse_ok c W
 rw [decide_eq_true (show 0 ≤ c ∧ c < 129600000 by omega)] at RC
 obtain ⟨⟨k1, k2⟩, ⟨k3, k4⟩, ⟨k5, k6⟩, ⟨k7, k8⟩, ⟨k9, k10⟩, ⟨k11, k12, k13⟩, hturn0⟩ := hq
 obtain ⟨q1, q2, q3, q4, q5, q6, q7, q8, q9, q10, q11, q12, q13, q14, q15, q16, q17⟩ := tyq10 hk
 have XC := fun W => torad_any fx fy x (by unfold I64; omega) (by unfold I64; omega) W
 simp only [En.cells, hG] at XC
 have HK := hide hk
 have HG := hide hG
 clear hO hL v1 v2 v3 hturn0 hk hG
 have hM := mem_nil w
 go_enter Tryz.func53, Tryz.ntmps53
 go_wp2_with (first | (go_at_call 50; refine cb hM (CH _) ?_; clear hM; intro W1 hM) | (go_at_call 105; (refine (LC _ (hide (usesAt_mem hM hu.out))).mono ?_); rintro e W1 ⟨rfl, hb⟩; replace hM := mem_below hM hb; clear hb) | (go_at_call 46; (with_reducible refine cb hM (P1 _) ?_); clear hM; intro W1 hM) | (go_at_call 46; (with_reducible refine cb hM (P2 _) ?_); clear hM; intro W1 hM) | (go_at_call 46; (with_reducible refine cb hM (P3 _) ?_); clear hM; intro W1 hM) | (go_at_call 51; (with_reducible refine (RC _).mono ?_); rintro e W1 ⟨rfl, rfl⟩) | (go_at_call 111; (with_reducible refine cb hM (XC _) ?_); clear hM; intro W1 hM) | ((with_reducible refine lX ?_); first | refine aL hM rfl rfl ?_ | refine aM hM rfl rfl ?_) | ((with_reducible refine sX ?_); refine aS hM rfl rfl rfl ?_; clear hM; intro W hM) | ((with_reducible refine bX ?_); refine aB hM rfl rfl ?_; clear hM; intro g W hM) | ((with_reducible refine zX ?_); refine aN hM rfl rfl ?_; clear hM; intro g W hM))
 all_goals first
  | (exact absurd (show x.gap = true by assumption) (by rw [HG.out]; simp))
  | (exact absurd hG (show ¬ x.gap = true by assumption))
  | (refine' end_m2 hM rfl rfl Tryz.isAgg77 Tryz.sizeOf77 rfl rfl ?_ ?_ ⟨?_, hM.below⟩; rotate_left 2; (· repeat constructor); (· rfl); (· refine' ret_tk ?_ ?_; rotate_left 1; (· exact HT.out.trans pair_eta); (· rfl)))
end Go.Proofs.YtbhpklpkcgcmfaaGreatDoor
/-
  Resolve on legs of some types.
-/
set_option maxRecDepth 100000
set_option maxHeartbeats 16000000
namespace Go.Proofs.YtbhpklpkcgcmfaaGreatDoor
open Go.RowKit
set_option linter.unusedVariables false
set_option linter.unusedSimpArgs false
theorem resolve_t9 (fx fy c alt : Int) (x y : En) (spd bank oalt gr : Int) (hx : EnW x) (hy : EnW y) (w : World) (hu : Hid (usesAt w)) (hG : x.gap = false) (hO : optE spd bank oalt gr = 0) (hL : legF x = 0) (v1 : vldB fx fy = true) (v2 : vldB x.ex x.ey = true) (v3 : vldB x.mx x.my = true) (hcr : 0 ≤ c ∧ c < 129600000) (ha1 : -200000 ≤ alt) (ha2 : alt ≤ 6000000) (hk : x.ty = 9) :
 Calls Tryz.prog 53 #[.agg #[.int .i64 fx, .int .i64 fy], .int .i64 c, .int .i64 alt, .agg x.cells.toArray, .agg y.cells.toArray, .agg #[.int .i64 spd, .int .i64 bank, .int .i64 oalt, .int .i64 gr]] w fun e w' => e = .returned (.tuple #[.agg (resolveT fx fy c alt x y spd bank oalt gr).1.cells.toArray, .int .i64 (resolveT fx fy c alt x y spd bank oalt gr).2]) ∧ Below w.heap.size w w' := by
 have HT : Hid (resolveT fx fy c alt x y spd bank oalt gr = interT fx fy x y) := hide (by
  unfold resolveT
  rw [if_neg (by rw [hO]; simp), if_neg (by rw [hG]; simp), if_neg (by rw [hL]; simp), if_neg (by rw [v1, v2, v3]; simp), if_neg (by omega)]
  unfold legT
  rw [if_neg (show ¬ (x.ty = 1) by omega), if_neg (show ¬ (x.ty = 2 ∨ x.ty = 4) by omega), if_neg (show ¬ (x.ty = 3) by omega), if_neg (show ¬ (x.ty = 5 ∨ x.ty = 6) by omega), if_neg (show ¬ (x.ty = 7) by omega), if_neg (show ¬ (x.ty = 11) by omega), if_neg (show ¬ (x.ty = 12) by omega), if_neg (show ¬ (x.ty = 13) by omega), if_neg (show ¬ (x.ty = 8) by omega), if_neg (show ¬ (x.ty = 10) by omega), if_pos (show x.ty = 9 by omega)])
 have CH := fun W => opts_any spd bank oalt gr W
 have LC := fun W hW => lcheck_any x hx.leg W hW
 rw [hO] at CH
 rw [hL] at LC
 obtain ⟨_, _, _, hg1, hg2⟩ := opt_ok hO
 have hq := leg_ok hL
 have P1 := fun W => pvalid_b fx fy W
 rw [v1] at P1
 have P2 := fun W => pvalid_b x.ex x.ey W
 rw [v2] at P2
 have P3 := fun W => pvalid_b x.mx x.my W
 rw [v3] at P3
 have RC := fun W => rcourse_ok c W
 rw [decide_eq_true (show 0 ≤ c ∧ c < 129600000 by omega)] at RC
 obtain ⟨⟨k1, k2⟩, ⟨k3, k4⟩, ⟨k5, k6⟩, ⟨k7, k8⟩, ⟨k9, k10⟩, ⟨k11, k12, k13⟩, hturn0⟩ := hq
 obtain ⟨q1, q2, q3, q4, q5, q6, q7, q8, q9, q10, q11, q12, q13, q14, q15, q16, q17⟩ := tyq9 hk
 have XC := fun W => inter_any fx fy x y (by unfold I64; omega) hy.crs hy.tyb W
 simp only [En.cells, hG] at XC
 have HK := hide hk
 have HG := hide hG
 clear hO hL v1 v2 v3 hturn0 hk hG
 have hM := mem_nil w
 go_enter Tryz.func53, Tryz.ntmps53
 go_wp2_with (first | (go_at_call 50; refine cb hM (CH _) ?_; clear hM; intro W1 hM) | (go_at_call 105; (refine (LC _ (hide (usesAt_mem hM hu.out))).mono ?_); rintro e W1 ⟨rfl, hb⟩; replace hM := mem_below hM hb; clear hb) | (go_at_call 46; (with_reducible refine cb hM (P1 _) ?_); clear hM; intro W1 hM) | (go_at_call 46; (with_reducible refine cb hM (P2 _) ?_); clear hM; intro W1 hM) | (go_at_call 46; (with_reducible refine cb hM (P3 _) ?_); clear hM; intro W1 hM) | (go_at_call 51; (with_reducible refine (RC _).mono ?_); rintro e W1 ⟨rfl, rfl⟩) | (go_at_call 112; (with_reducible refine cb hM (XC _) ?_); clear hM; intro W1 hM) | ((with_reducible refine lX ?_); first | refine aL hM rfl rfl ?_ | refine aM hM rfl rfl ?_) | ((with_reducible refine sX ?_); refine aS hM rfl rfl rfl ?_; clear hM; intro W hM) | ((with_reducible refine bX ?_); refine aB hM rfl rfl ?_; clear hM; intro g W hM) | ((with_reducible refine zX ?_); refine aN hM rfl rfl ?_; clear hM; intro g W hM))
 all_goals first
  | (exact absurd (show x.gap = true by assumption) (by rw [HG.out]; simp))
  | (exact absurd hG (show ¬ x.gap = true by assumption))
  | (refine' end_m2 hM rfl rfl Tryz.isAgg77 Tryz.sizeOf77 rfl rfl ?_ ?_ ⟨?_, hM.below⟩; rotate_left 2; (· repeat constructor); (· rfl); (· refine' ret_tk ?_ ?_; rotate_left 1; (· exact HT.out.trans pair_eta); (· rfl)))
theorem resolve_t14 (fx fy c alt : Int) (x y : En) (spd bank oalt gr : Int) (hx : EnW x) (hy : EnW y) (w : World) (hu : Hid (usesAt w)) (hG : x.gap = false) (hO : optE spd bank oalt gr = 0) (hL : legF x = 0) (v1 : vldB fx fy = true) (v2 : vldB x.ex x.ey = true) (v3 : vldB x.mx x.my = true) (hcr : 0 ≤ c ∧ c < 129600000) (ha1 : -200000 ≤ alt) (ha2 : alt ≤ 6000000) (hk : x.ty = 14) :
 Calls Tryz.prog 53 #[.agg #[.int .i64 fx, .int .i64 fy], .int .i64 c, .int .i64 alt, .agg x.cells.toArray, .agg y.cells.toArray, .agg #[.int .i64 spd, .int .i64 bank, .int .i64 oalt, .int .i64 gr]] w fun e w' => e = .returned (.tuple #[.agg (resolveT fx fy c alt x y spd bank oalt gr).1.cells.toArray, .int .i64 (resolveT fx fy c alt x y spd bank oalt gr).2]) ∧ Below w.heap.size w w' := by
 have HT : Hid (resolveT fx fy c alt x y spd bank oalt gr = (patternT c x, 0)) := hide (by
  unfold resolveT
  rw [if_neg (by rw [hO]; simp), if_neg (by rw [hG]; simp), if_neg (by rw [hL]; simp), if_neg (by rw [v1, v2, v3]; simp), if_neg (by omega)]
  unfold legT
  rw [if_neg (show ¬ (x.ty = 1) by omega), if_neg (show ¬ (x.ty = 2 ∨ x.ty = 4) by omega), if_neg (show ¬ (x.ty = 3) by omega), if_neg (show ¬ (x.ty = 5 ∨ x.ty = 6) by omega), if_neg (show ¬ (x.ty = 7) by omega), if_neg (show ¬ (x.ty = 11) by omega), if_neg (show ¬ (x.ty = 12) by omega), if_neg (show ¬ (x.ty = 13) by omega), if_neg (show ¬ (x.ty = 8) by omega), if_neg (show ¬ (x.ty = 10) by omega), if_neg (show ¬ (x.ty = 9) by omega)])
 have CH := fun W => opts_any spd bank oalt gr W
 have LC := fun W hW => lcheck_any x hx.leg W hW
 rw [hO] at CH
 rw [hL] at LC
 obtain ⟨_, _, _, hg1, hg2⟩ := opt_ok hO
 have hq := leg_ok hL
 have P1 := fun W => pvalid_b fx fy W
 rw [v1] at P1
 have P2 := fun W => pvalid_b x.ex x.ey W
 rw [v2] at P2
 have P3 := fun W => pvalid_b x.mx x.my W
 rw [v3] at P3
 have RC := fun W => rcourse_ok c W
 rw [decide_eq_true (show 0 ≤ c ∧ c < 129600000 by omega)] at RC
 obtain ⟨⟨k1, k2⟩, ⟨k3, k4⟩, ⟨k5, k6⟩, ⟨k7, k8⟩, ⟨k9, k10⟩, ⟨k11, k12, k13⟩, hturn0⟩ := hq
 obtain ⟨q1, q2, q3, q4, q5, q6, q7, q8, q9, q10, q11, q12, q13, q14, q15, q16, q17⟩ := tyq14 hk
 have HK := hide hk
 have HG := hide hG
 clear hO hL v1 v2 v3 hturn0 hk hG
 have hM := mem_nil w
 go_enter Tryz.func53, Tryz.ntmps53
 go_wp2_with (first | (go_at_call 50; refine cb hM (CH _) ?_; clear hM; intro W1 hM) | (go_at_call 105; (refine (LC _ (hide (usesAt_mem hM hu.out))).mono ?_); rintro e W1 ⟨rfl, hb⟩; replace hM := mem_below hM hb; clear hb) | (go_at_call 46; (with_reducible refine cb hM (P1 _) ?_); clear hM; intro W1 hM) | (go_at_call 46; (with_reducible refine cb hM (P2 _) ?_); clear hM; intro W1 hM) | (go_at_call 46; (with_reducible refine cb hM (P3 _) ?_); clear hM; intro W1 hM) | (go_at_call 51; (with_reducible refine (RC _).mono ?_); rintro e W1 ⟨rfl, rfl⟩) | ((with_reducible refine lX ?_); first | refine aL hM rfl rfl ?_ | refine aM hM rfl rfl ?_) | ((with_reducible refine sX ?_); refine aS hM rfl rfl rfl ?_; clear hM; intro W hM) | ((with_reducible refine bX ?_); refine aB hM rfl rfl ?_; clear hM; intro g W hM) | ((with_reducible refine zX ?_); refine aN hM rfl rfl ?_; clear hM; intro g W hM))
 all_goals first
  | (exact absurd (show x.gap = true by assumption) (by rw [HG.out]; simp))
  | (exact absurd hG (show ¬ x.gap = true by assumption))
  | (refine' end_m2 hM rfl rfl Tryz.isAgg77 Tryz.sizeOf77 rfl rfl ?_ ?_ ⟨?_, hM.below⟩; rotate_left 2; (· repeat constructor); (· rfl); (· refine' ret_tk ?_ ?_; rotate_left 1; (· exact HT.out); (· first | rfl | (unfold patternT; rw [HK.out]; rfl))))
theorem resolve_t15 (fx fy c alt : Int) (x y : En) (spd bank oalt gr : Int) (hx : EnW x) (hy : EnW y) (w : World) (hu : Hid (usesAt w)) (hG : x.gap = false) (hO : optE spd bank oalt gr = 0) (hL : legF x = 0) (v1 : vldB fx fy = true) (v2 : vldB x.ex x.ey = true) (v3 : vldB x.mx x.my = true) (hcr : 0 ≤ c ∧ c < 129600000) (ha1 : -200000 ≤ alt) (ha2 : alt ≤ 6000000) (hk : x.ty = 15) :
 Calls Tryz.prog 53 #[.agg #[.int .i64 fx, .int .i64 fy], .int .i64 c, .int .i64 alt, .agg x.cells.toArray, .agg y.cells.toArray, .agg #[.int .i64 spd, .int .i64 bank, .int .i64 oalt, .int .i64 gr]] w fun e w' => e = .returned (.tuple #[.agg (resolveT fx fy c alt x y spd bank oalt gr).1.cells.toArray, .int .i64 (resolveT fx fy c alt x y spd bank oalt gr).2]) ∧ Below w.heap.size w w' := by
 have HT : Hid (resolveT fx fy c alt x y spd bank oalt gr = (patternT c x, 0)) := hide (by
  unfold resolveT
  rw [if_neg (by rw [hO]; simp), if_neg (by rw [hG]; simp), if_neg (by rw [hL]; simp), if_neg (by rw [v1, v2, v3]; simp), if_neg (by omega)]
  unfold legT
  rw [if_neg (show ¬ (x.ty = 1) by omega), if_neg (show ¬ (x.ty = 2 ∨ x.ty = 4) by omega), if_neg (show ¬ (x.ty = 3) by omega), if_neg (show ¬ (x.ty = 5 ∨ x.ty = 6) by omega), if_neg (show ¬ (x.ty = 7) by omega), if_neg (show ¬ (x.ty = 11) by omega), if_neg (show ¬ (x.ty = 12) by omega), if_neg (show ¬ (x.ty = 13) by omega), if_neg (show ¬ (x.ty = 8) by omega), if_neg (show ¬ (x.ty = 10) by omega), if_neg (show ¬ (x.ty = 9) by omega)])
 have CH := fun W => opts_any spd bank oalt gr W
 have LC := fun W hW => lcheck_any x hx.leg W hW
 rw [hO] at CH
 rw [hL] at LC
 obtain ⟨_, _, _, hg1, hg2⟩ := opt_ok hO
 have hq := leg_ok hL
 have P1 := fun W => pvalid_b fx fy W
 rw [v1] at P1
 have P2 := fun W => pvalid_b x.ex x.ey W
 rw [v2] at P2
 have P3 := fun W => pvalid_b x.mx x.my W
 rw [v3] at P3
 have RC := fun W => rcourse_ok c W
 rw [decide_eq_true (show 0 ≤ c ∧ c < 129600000 by omega)] at RC
 obtain ⟨⟨k1, k2⟩, ⟨k3, k4⟩, ⟨k5, k6⟩, ⟨k7, k8⟩, ⟨k9, k10⟩, ⟨k11, k12, k13⟩, hturn0⟩ := hq
 obtain ⟨q1, q2, q3, q4, q5, q6, q7, q8, q9, q10, q11, q12, q13, q14, q15, q16, q17⟩ := tyq15 hk
 have HK := hide hk
 have HG := hide hG
 clear hO hL v1 v2 v3 hturn0 hk hG
 have hM := mem_nil w
 go_enter Tryz.func53, Tryz.ntmps53
 go_wp2_with (first | (go_at_call 50; refine cb hM (CH _) ?_; clear hM; intro W1 hM) | (go_at_call 105; (refine (LC _ (hide (usesAt_mem hM hu.out))).mono ?_); rintro e W1 ⟨rfl, hb⟩; replace hM := mem_below hM hb; clear hb) | (go_at_call 46; (with_reducible refine cb hM (P1 _) ?_); clear hM; intro W1 hM) | (go_at_call 46; (with_reducible refine cb hM (P2 _) ?_); clear hM; intro W1 hM) | (go_at_call 46; (with_reducible refine cb hM (P3 _) ?_); clear hM; intro W1 hM) | (go_at_call 51; (with_reducible refine (RC _).mono ?_); rintro e W1 ⟨rfl, rfl⟩) | ((with_reducible refine lX ?_); first | refine aL hM rfl rfl ?_ | refine aM hM rfl rfl ?_) | ((with_reducible refine sX ?_); refine aS hM rfl rfl rfl ?_; clear hM; intro W hM) | ((with_reducible refine bX ?_); refine aB hM rfl rfl ?_; clear hM; intro g W hM) | ((with_reducible refine zX ?_); refine aN hM rfl rfl ?_; clear hM; intro g W hM))
 all_goals first
  | (exact absurd (show x.gap = true by assumption) (by rw [HG.out]; simp))
  | (exact absurd hG (show ¬ x.gap = true by assumption))
  | (refine' end_m2 hM rfl rfl Tryz.isAgg77 Tryz.sizeOf77 rfl rfl ?_ ?_ ⟨?_, hM.below⟩; rotate_left 2; (· repeat constructor); (· rfl); (· refine' ret_tk ?_ ?_; rotate_left 1; (· exact HT.out); (· first | rfl | (unfold patternT; rw [HK.out]; rfl))))
theorem resolve_t16 (fx fy c alt : Int) (x y : En) (spd bank oalt gr : Int) (hx : EnW x) (hy : EnW y) (w : World) (hu : Hid (usesAt w)) (hG : x.gap = false) (hO : optE spd bank oalt gr = 0) (hL : legF x = 0) (v1 : vldB fx fy = true) (v2 : vldB x.ex x.ey = true) (v3 : vldB x.mx x.my = true) (hcr : 0 ≤ c ∧ c < 129600000) (ha1 : -200000 ≤ alt) (ha2 : alt ≤ 6000000) (hk : x.ty = 16) :
 Calls Tryz.prog 53 #[.agg #[.int .i64 fx, .int .i64 fy], .int .i64 c, .int .i64 alt, .agg x.cells.toArray, .agg y.cells.toArray, .agg #[.int .i64 spd, .int .i64 bank, .int .i64 oalt, .int .i64 gr]] w fun e w' => e = .returned (.tuple #[.agg (resolveT fx fy c alt x y spd bank oalt gr).1.cells.toArray, .int .i64 (resolveT fx fy c alt x y spd bank oalt gr).2]) ∧ Below w.heap.size w w' := by
 have HT : Hid (resolveT fx fy c alt x y spd bank oalt gr = (patternT c x, 0)) := hide (by
  unfold resolveT
  rw [if_neg (by rw [hO]; simp), if_neg (by rw [hG]; simp), if_neg (by rw [hL]; simp), if_neg (by rw [v1, v2, v3]; simp), if_neg (by omega)]
  unfold legT
  rw [if_neg (show ¬ (x.ty = 1) by omega), if_neg (show ¬ (x.ty = 2 ∨ x.ty = 4) by omega), if_neg (show ¬ (x.ty = 3) by omega), if_neg (show ¬ (x.ty = 5 ∨ x.ty = 6) by omega), if_neg (show ¬ (x.ty = 7) by omega), if_neg (show ¬ (x.ty = 11) by omega), if_neg (show ¬ (x.ty = 12) by omega), if_neg (show ¬ (x.ty = 13) by omega), if_neg (show ¬ (x.ty = 8) by omega), if_neg (show ¬ (x.ty = 10) by omega), if_neg (show ¬ (x.ty = 9) by omega)])
 have CH := fun W => opts_any spd bank oalt gr W
 have LC := fun W hW => lcheck_any x hx.leg W hW
 rw [hO] at CH
 rw [hL] at LC
 obtain ⟨_, _, _, hg1, hg2⟩ := opt_ok hO
 have hq := leg_ok hL
 have P1 := fun W => pvalid_b fx fy W
 rw [v1] at P1
 have P2 := fun W => pvalid_b x.ex x.ey W
 rw [v2] at P2
 have P3 := fun W => pvalid_b x.mx x.my W
 rw [v3] at P3
 have RC := fun W => rcourse_ok c W
 rw [decide_eq_true (show 0 ≤ c ∧ c < 129600000 by omega)] at RC
 obtain ⟨⟨k1, k2⟩, ⟨k3, k4⟩, ⟨k5, k6⟩, ⟨k7, k8⟩, ⟨k9, k10⟩, ⟨k11, k12, k13⟩, hturn0⟩ := hq
 obtain ⟨q1, q2, q3, q4, q5, q6, q7, q8, q9, q10, q11, q12, q13, q14, q15, q16, q17⟩ := tyq16 hk
 have HK := hide hk
 have HG := hide hG
 clear hO hL v1 v2 v3 hturn0 hk hG
 have hM := mem_nil w
 go_enter Tryz.func53, Tryz.ntmps53
 go_wp2_with (first | (go_at_call 50; refine cb hM (CH _) ?_; clear hM; intro W1 hM) | (go_at_call 105; (refine (LC _ (hide (usesAt_mem hM hu.out))).mono ?_); rintro e W1 ⟨rfl, hb⟩; replace hM := mem_below hM hb; clear hb) | (go_at_call 46; (with_reducible refine cb hM (P1 _) ?_); clear hM; intro W1 hM) | (go_at_call 46; (with_reducible refine cb hM (P2 _) ?_); clear hM; intro W1 hM) | (go_at_call 46; (with_reducible refine cb hM (P3 _) ?_); clear hM; intro W1 hM) | (go_at_call 51; (with_reducible refine (RC _).mono ?_); rintro e W1 ⟨rfl, rfl⟩) | ((with_reducible refine lX ?_); first | refine aL hM rfl rfl ?_ | refine aM hM rfl rfl ?_) | ((with_reducible refine sX ?_); refine aS hM rfl rfl rfl ?_; clear hM; intro W hM) | ((with_reducible refine bX ?_); refine aB hM rfl rfl ?_; clear hM; intro g W hM) | ((with_reducible refine zX ?_); refine aN hM rfl rfl ?_; clear hM; intro g W hM))
 all_goals first
  | (exact absurd (show x.gap = true by assumption) (by rw [HG.out]; simp))
  | (exact absurd hG (show ¬ x.gap = true by assumption))
  | (refine' end_m2 hM rfl rfl Tryz.isAgg77 Tryz.sizeOf77 rfl rfl ?_ ?_ ⟨?_, hM.below⟩; rotate_left 2; (· repeat constructor); (· rfl); (· refine' ret_tk ?_ ?_; rotate_left 1; (· exact HT.out); (· first | rfl | (unfold patternT; rw [HK.out]; rfl))))
theorem resolve_t17 (fx fy c alt : Int) (x y : En) (spd bank oalt gr : Int) (hx : EnW x) (hy : EnW y) (w : World) (hu : Hid (usesAt w)) (hG : x.gap = false) (hO : optE spd bank oalt gr = 0) (hL : legF x = 0) (v1 : vldB fx fy = true) (v2 : vldB x.ex x.ey = true) (v3 : vldB x.mx x.my = true) (hcr : 0 ≤ c ∧ c < 129600000) (ha1 : -200000 ≤ alt) (ha2 : alt ≤ 6000000) (hk : x.ty = 17) :
 Calls Tryz.prog 53 #[.agg #[.int .i64 fx, .int .i64 fy], .int .i64 c, .int .i64 alt, .agg x.cells.toArray, .agg y.cells.toArray, .agg #[.int .i64 spd, .int .i64 bank, .int .i64 oalt, .int .i64 gr]] w fun e w' => e = .returned (.tuple #[.agg (resolveT fx fy c alt x y spd bank oalt gr).1.cells.toArray, .int .i64 (resolveT fx fy c alt x y spd bank oalt gr).2]) ∧ Below w.heap.size w w' := by
 have HT : Hid (resolveT fx fy c alt x y spd bank oalt gr = (patternT c x, 0)) := hide (by
  unfold resolveT
  rw [if_neg (by rw [hO]; simp), if_neg (by rw [hG]; simp), if_neg (by rw [hL]; simp), if_neg (by rw [v1, v2, v3]; simp), if_neg (by omega)]
  unfold legT
  rw [if_neg (show ¬ (x.ty = 1) by omega), if_neg (show ¬ (x.ty = 2 ∨ x.ty = 4) by omega), if_neg (show ¬ (x.ty = 3) by omega), if_neg (show ¬ (x.ty = 5 ∨ x.ty = 6) by omega), if_neg (show ¬ (x.ty = 7) by omega), if_neg (show ¬ (x.ty = 11) by omega), if_neg (show ¬ (x.ty = 12) by omega), if_neg (show ¬ (x.ty = 13) by omega), if_neg (show ¬ (x.ty = 8) by omega), if_neg (show ¬ (x.ty = 10) by omega), if_neg (show ¬ (x.ty = 9) by omega)])
 have CH := fun W => opts_any spd bank oalt gr W
 have LC := fun W hW => lcheck_any x hx.leg W hW
 rw [hO] at CH
 rw [hL] at LC
 obtain ⟨_, _, _, hg1, hg2⟩ := opt_ok hO
 have hq := leg_ok hL
 have P1 := fun W => pvalid_b fx fy W
 rw [v1] at P1
 have P2 := fun W => pvalid_b x.ex x.ey W
 rw [v2] at P2
 have P3 := fun W => pvalid_b x.mx x.my W
 rw [v3] at P3
 have RC := fun W => rcourse_ok c W
 rw [decide_eq_true (show 0 ≤ c ∧ c < 129600000 by omega)] at RC
 obtain ⟨⟨k1, k2⟩, ⟨k3, k4⟩, ⟨k5, k6⟩, ⟨k7, k8⟩, ⟨k9, k10⟩, ⟨k11, k12, k13⟩, hturn0⟩ := hq
 obtain ⟨q1, q2, q3, q4, q5, q6, q7, q8, q9, q10, q11, q12, q13, q14, q15, q16, q17⟩ := tyq17 hk
 have HK := hide hk
 have HG := hide hG
 clear hO hL v1 v2 v3 hturn0 hk hG
 have hM := mem_nil w
 go_enter Tryz.func53, Tryz.ntmps53
 go_wp2_with (first | (go_at_call 50; refine cb hM (CH _) ?_; clear hM; intro W1 hM) | (go_at_call 105; (refine (LC _ (hide (usesAt_mem hM hu.out))).mono ?_); rintro e W1 ⟨rfl, hb⟩; replace hM := mem_below hM hb; clear hb) | (go_at_call 46; (with_reducible refine cb hM (P1 _) ?_); clear hM; intro W1 hM) | (go_at_call 46; (with_reducible refine cb hM (P2 _) ?_); clear hM; intro W1 hM) | (go_at_call 46; (with_reducible refine cb hM (P3 _) ?_); clear hM; intro W1 hM) | (go_at_call 51; (with_reducible refine (RC _).mono ?_); rintro e W1 ⟨rfl, rfl⟩) | (go_at_call 113; (with_reducible refine (norm_any _ ?_ _).mono ?_); (· first | assumption | (unfold I64; omega)); rintro e W1 ⟨rfl, rfl⟩) | ((with_reducible refine lX ?_); first | refine aL hM rfl rfl ?_ | refine aM hM rfl rfl ?_) | ((with_reducible refine sX ?_); refine aS hM rfl rfl rfl ?_; clear hM; intro W hM) | ((with_reducible refine bX ?_); refine aB hM rfl rfl ?_; clear hM; intro g W hM) | ((with_reducible refine zX ?_); refine aN hM rfl rfl ?_; clear hM; intro g W hM))
 all_goals first
  | (exact absurd (show x.gap = true by assumption) (by rw [HG.out]; simp))
  | (exact absurd hG (show ¬ x.gap = true by assumption))
  | (refine' end_m2 hM rfl rfl Tryz.isAgg77 Tryz.sizeOf77 rfl rfl ?_ ?_ ⟨?_, hM.below⟩; rotate_left 2; (· repeat constructor); (· rfl); (· refine' ret_tk ?_ ?_; rotate_left 1; (· exact HT.out); (· first | rfl | (unfold patternT; rw [HK.out]; rfl))))
end Go.Proofs.YtbhpklpkcgcmfaaGreatDoor
