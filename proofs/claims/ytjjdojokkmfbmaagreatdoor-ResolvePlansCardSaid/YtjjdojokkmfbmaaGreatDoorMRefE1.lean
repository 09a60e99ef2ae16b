/-
  Resolve of the reference on legs of some types.
-/
import Derived.Test.YtjjdojokkmfbmaaGreatDoorMHasU
import Derived.Test.YtjjdojokkmfbmaaGreatDoorMRefB
import Derived.Test.YtjjdojokkmfbmaaGreatDoorMResD
set_option maxRecDepth 100000
set_option maxHeartbeats 16000000
namespace Go.Proofs.YtjjdojokkmfbmaaGreatDoor
open Go.RowKit
set_option linter.unusedVariables false
set_option linter.unusedSimpArgs false
theorem qresolve_t1 (fx fy c alt : Int) (x y : En) (spd bank oalt gr : Int) (hx : EnW x) (hy : EnW y) (w : World) (hG : x.gap = false) (hO : optE spd bank oalt gr = 0) (hL : legF x = 0) (v1 : vldB fx fy = true) (v2 : vldB x.ex x.ey = true) (v3 : vldB x.mx x.my = true) (hcr : 0 ≤ c ∧ c < 129600000) (ha1 : -200000 ≤ alt) (ha2 : alt ≤ 6000000) (hk : x.ty = 1) :
    Calls Tryz.prog 15 #[.agg #[.int .i64 fx, .int .i64 fy], .int .i64 c, .int .i64 alt, .agg x.cells.toArray, .agg y.cells.toArray, .agg #[.int .i64 spd, .int .i64 bank, .int .i64 oalt, .int .i64 gr]] w fun e w' => e = .returned (.tuple #[.agg (resolveT fx fy c alt x y spd bank oalt gr).1.cells.toArray, .int .i64 (resolveT fx fy c alt x y spd bank oalt gr).2]) ∧ Below w.heap.size w w' := by
  have HT : Hid (resolveT fx fy c alt x y spd bank oalt gr = (straightF x.ex x.ey x.ex x.ey c, 0)) := hide (by
    unfold resolveT
    rw [if_neg (by rw [hO]; simp), if_neg (by rw [hG]; simp), if_neg (by rw [hL]; simp), if_neg (by rw [v1, v2, v3]; simp), if_neg (by omega)]
    unfold legT
    rw [if_pos (show x.ty = 1 by omega)])
  have CH := fun W => ropts_any spd bank oalt gr W
  have LC := fun W => rlcheck_any x hx.leg W
  rw [hO] at CH
  rw [hL] at LC
  obtain ⟨_, _, _, hg1, hg2⟩ := opt_ok hO
  have hq := leg_ok hL
  have P1 := fun W => rpvalid_b fx fy W
  rw [v1] at P1
  have P2 := fun W => rpvalid_b x.ex x.ey W
  rw [v2] at P2
  have P3 := fun W => rpvalid_b x.mx x.my W
  rw [v3] at P3
  have c1 : decide (c < 0) = false := decide_eq_false (by omega)
  have c2 : decide (129600000 ≤ c) = false := decide_eq_false (by omega)
  have c3 : decide (alt < -200000) = false := decide_eq_false (by omega)
  have c4 : decide (6000000 < alt) = false := decide_eq_false (by omega)
  obtain ⟨⟨k1, k2⟩, ⟨k3, k4⟩, ⟨k5, k6⟩, ⟨k7, k8⟩, ⟨k9, k10⟩, ⟨k11, k12, k13⟩, hturn0⟩ := hq
  obtain ⟨q1, q2, q3, q4, q5, q6, q7, q8, q9, q10, q11, q12, q13, q14, q15, q16, q17⟩ := tyq1 hk
  have HK := hide hk
  have HG := hide hG
  clear hO hL v1 v2 v3 hturn0 hk hG
  have hM := mem_nil w
  go_enter Tryz.func15, Tryz.ntmps15
  go_wp2_with (first | (go_at_call 13; refine cb hM (CH _) ?_; clear hM; intro W1 hM) | (go_at_call 35; (refine (LC _).mono ?_); rintro e W1 ⟨rfl, hb⟩; replace hM := mem_below hM hb; clear hb) | (go_at_call 36; (with_reducible refine cb hM (P1 _) ?_); clear hM; intro W1 hM) | (go_at_call 36; (with_reducible refine cb hM (P2 _) ?_); clear hM; intro W1 hM) | (go_at_call 36; (with_reducible refine cb hM (P3 _) ?_); clear hM; intro W1 hM) | (go_at_call 37; refine (qstraight_any _ _ _ _ _ _).mono ?_; rintro e W1 ⟨rfl, hb⟩; replace hM := mem_below hM hb; clear hb) | ((with_reducible refine lX ?_); first | refine aL hM rfl rfl ?_ | refine aM hM rfl rfl ?_) | ((with_reducible refine sX ?_); refine aS hM rfl rfl rfl ?_; clear hM; intro W hM) | ((with_reducible refine bX ?_); refine aB hM rfl rfl ?_; clear hM; intro g W hM) | ((with_reducible refine zX ?_); refine aN hM rfl rfl ?_; clear hM; intro g W hM))
  all_goals first
    | (exact absurd (show x.gap = true by assumption) (by rw [HG.out]; simp))
    | (exact absurd hG (show ¬ x.gap = true by assumption))
    | (refine' end_m2 hM rfl rfl Tryz.isAgg44 Tryz.sizeOf44 rfl rfl ?_ ?_ ⟨?_, hM.below⟩; rotate_left 2; (· repeat constructor); (· rfl); (· refine' ret_tk ?_ ?_; rotate_left 1; (· exact HT.out); (· first | rfl | (unfold patternT; rw [HK.out]; rfl))))
theorem qresolve_t2 (fx fy c alt : Int) (x y : En) (spd bank oalt gr : Int) (hx : EnW x) (hy : EnW y) (w : World) (hG : x.gap = false) (hO : optE spd bank oalt gr = 0) (hL : legF x = 0) (v1 : vldB fx fy = true) (v2 : vldB x.ex x.ey = true) (v3 : vldB x.mx x.my = true) (hcr : 0 ≤ c ∧ c < 129600000) (ha1 : -200000 ≤ alt) (ha2 : alt ≤ 6000000) (hk : x.ty = 2) :
    Calls Tryz.prog 15 #[.agg #[.int .i64 fx, .int .i64 fy], .int .i64 c, .int .i64 alt, .agg x.cells.toArray, .agg y.cells.toArray, .agg #[.int .i64 spd, .int .i64 bank, .int .i64 oalt, .int .i64 gr]] w fun e w' => e = .returned (.tuple #[.agg (resolveT fx fy c alt x y spd bank oalt gr).1.cells.toArray, .int .i64 (resolveT fx fy c alt x y spd bank oalt gr).2]) ∧ Below w.heap.size w w' := by
  have HT : Hid (resolveT fx fy c alt x y spd bank oalt gr = (straightF fx fy x.ex x.ey c, 0)) := hide (by
    unfold resolveT
    rw [if_neg (by rw [hO]; simp), if_neg (by rw [hG]; simp), if_neg (by rw [hL]; simp), if_neg (by rw [v1, v2, v3]; simp), if_neg (by omega)]
    unfold legT
    rw [if_neg (show ¬ (x.ty = 1) by omega), if_pos (show x.ty = 2 ∨ x.ty = 4 by omega)])
  have CH := fun W => ropts_any spd bank oalt gr W
  have LC := fun W => rlcheck_any x hx.leg W
  rw [hO] at CH
  rw [hL] at LC
  obtain ⟨_, _, _, hg1, hg2⟩ := opt_ok hO
  have hq := leg_ok hL
  have P1 := fun W => rpvalid_b fx fy W
  rw [v1] at P1
  have P2 := fun W => rpvalid_b x.ex x.ey W
  rw [v2] at P2
  have P3 := fun W => rpvalid_b x.mx x.my W
  rw [v3] at P3
  have c1 : decide (c < 0) = false := decide_eq_false (by omega)
  have c2 : decide (129600000 ≤ c) = false := decide_eq_false (by omega)
  have c3 : decide (alt < -200000) = false := decide_eq_false (by omega)
  have c4 : decide (6000000 < alt) = false := decide_eq_false (by omega)
  obtain ⟨⟨k1, k2⟩, ⟨k3, k4⟩, ⟨k5, k6⟩, ⟨k7, k8⟩, ⟨k9, k10⟩, ⟨k11, k12, k13⟩, hturn0⟩ := hq
  obtain ⟨q1, q2, q3, q4, q5, q6, q7, q8, q9, q10, q11, q12, q13, q14, q15, q16, q17⟩ := tyq2 hk
  have HK := hide hk
  have HG := hide hG
  clear hO hL v1 v2 v3 hturn0 hk hG
  have hM := mem_nil w
  go_enter Tryz.func15, Tryz.ntmps15
  go_wp2_with (first | (go_at_call 13; refine cb hM (CH _) ?_; clear hM; intro W1 hM) | (go_at_call 35; (refine (LC _).mono ?_); rintro e W1 ⟨rfl, hb⟩; replace hM := mem_below hM hb; clear hb) | (go_at_call 36; (with_reducible refine cb hM (P1 _) ?_); clear hM; intro W1 hM) | (go_at_call 36; (with_reducible refine cb hM (P2 _) ?_); clear hM; intro W1 hM) | (go_at_call 36; (with_reducible refine cb hM (P3 _) ?_); clear hM; intro W1 hM) | (go_at_call 37; refine (qstraight_any _ _ _ _ _ _).mono ?_; rintro e W1 ⟨rfl, hb⟩; replace hM := mem_below hM hb; clear hb) | ((with_reducible refine lX ?_); first | refine aL hM rfl rfl ?_ | refine aM hM rfl rfl ?_) | ((with_reducible refine sX ?_); refine aS hM rfl rfl rfl ?_; clear hM; intro W hM) | ((with_reducible refine bX ?_); refine aB hM rfl rfl ?_; clear hM; intro g W hM) | ((with_reducible refine zX ?_); refine aN hM rfl rfl ?_; clear hM; intro g W hM))
  all_goals first
    | (exact absurd (show x.gap = true by assumption) (by rw [HG.out]; simp))
    | (exact absurd hG (show ¬ x.gap = true by assumption))
    | (refine' end_m2 hM rfl rfl Tryz.isAgg44 Tryz.sizeOf44 rfl rfl ?_ ?_ ⟨?_, hM.below⟩; rotate_left 2; (· repeat constructor); (· rfl); (· refine' ret_tk ?_ ?_; rotate_left 1; (· exact HT.out); (· first | rfl | (unfold patternT; rw [HK.out]; rfl))))
theorem qresolve_t4 (fx fy c alt : Int) (x y : En) (spd bank oalt gr : Int) (hx : EnW x) (hy : EnW y) (w : World) (hG : x.gap = false) (hO : optE spd bank oalt gr = 0) (hL : legF x = 0) (v1 : vldB fx fy = true) (v2 : vldB x.ex x.ey = true) (v3 : vldB x.mx x.my = true) (hcr : 0 ≤ c ∧ c < 129600000) (ha1 : -200000 ≤ alt) (ha2 : alt ≤ 6000000) (hk : x.ty = 4) :
    Calls Tryz.prog 15 #[.agg #[.int .i64 fx, .int .i64 fy], .int .i64 c, .int .i64 alt, .agg x.cells.toArray, .agg y.cells.toArray, .agg #[.int .i64 spd, .int .i64 bank, .int .i64 oalt, .int .i64 gr]] w fun e w' => e = .returned (.tuple #[.agg (resolveT fx fy c alt x y spd bank oalt gr).1.cells.toArray, .int .i64 (resolveT fx fy c alt x y spd bank oalt gr).2]) ∧ Below w.heap.size w w' := by
  have HT : Hid (resolveT fx fy c alt x y spd bank oalt gr = (straightF fx fy x.ex x.ey c, 0)) := hide (by
    unfold resolveT
    rw [if_neg (by rw [hO]; simp), if_neg (by rw [hG]; simp), if_neg (by rw [hL]; simp), if_neg (by rw [v1, v2, v3]; simp), if_neg (by omega)]
    unfold legT
    rw [if_neg (show ¬ (x.ty = 1) by omega), if_pos (show x.ty = 2 ∨ x.ty = 4 by omega)])
  have CH := fun W => ropts_any spd bank oalt gr W
  have LC := fun W => rlcheck_any x hx.leg W
  rw [hO] at CH
  rw [hL] at LC
  obtain ⟨_, _, _, hg1, hg2⟩ := opt_ok hO
  have hq := leg_ok hL
  have P1 := fun W => rpvalid_b fx fy W
  rw [v1] at P1
  have P2 := fun W => rpvalid_b x.ex x.ey W
  rw [v2] at P2
  have P3 := fun W => rpvalid_b x.mx x.my W
  rw [v3] at P3
  have c1 : decide (c < 0) = false := decide_eq_false (by omega)
  have c2 : decide (129600000 ≤ c) = false := decide_eq_false (by omega)
  have c3 : decide (alt < -200000) = false := decide_eq_false (by omega)
  have c4 : decide (6000000 < alt) = false := decide_eq_false (by omega)
  obtain ⟨⟨k1, k2⟩, ⟨k3, k4⟩, ⟨k5, k6⟩, ⟨k7, k8⟩, ⟨k9, k10⟩, ⟨k11, k12, k13⟩, hturn0⟩ := hq
  obtain ⟨q1, q2, q3, q4, q5, q6, q7, q8, q9, q10, q11, q12, q13, q14, q15, q16, q17⟩ := tyq4 hk
  have HK := hide hk
  have HG := hide hG
  clear hO hL v1 v2 v3 hturn0 hk hG
  have hM := mem_nil w
  go_enter Tryz.func15, Tryz.ntmps15
  go_wp2_with (first | (go_at_call 13; refine cb hM (CH _) ?_; clear hM; intro W1 hM) | (go_at_call 35; (refine (LC _).mono ?_); rintro e W1 ⟨rfl, hb⟩; replace hM := mem_below hM hb; clear hb) | (go_at_call 36; (with_reducible refine cb hM (P1 _) ?_); clear hM; intro W1 hM) | (go_at_call 36; (with_reducible refine cb hM (P2 _) ?_); clear hM; intro W1 hM) | (go_at_call 36; (with_reducible refine cb hM (P3 _) ?_); clear hM; intro W1 hM) | (go_at_call 37; refine (qstraight_any _ _ _ _ _ _).mono ?_; rintro e W1 ⟨rfl, hb⟩; replace hM := mem_below hM hb; clear hb) | ((with_reducible refine lX ?_); first | refine aL hM rfl rfl ?_ | refine aM hM rfl rfl ?_) | ((with_reducible refine sX ?_); refine aS hM rfl rfl rfl ?_; clear hM; intro W hM) | ((with_reducible refine bX ?_); refine aB hM rfl rfl ?_; clear hM; intro g W hM) | ((with_reducible refine zX ?_); refine aN hM rfl rfl ?_; clear hM; intro g W hM))
  all_goals first
    | (exact absurd (show x.gap = true by assumption) (by rw [HG.out]; simp))
    | (exact absurd hG (show ¬ x.gap = true by assumption))
    | (refine' end_m2 hM rfl rfl Tryz.isAgg44 Tryz.sizeOf44 rfl rfl ?_ ?_ ⟨?_, hM.below⟩; rotate_left 2; (· repeat constructor); (· rfl); (· refine' ret_tk ?_ ?_; rotate_left 1; (· exact HT.out); (· first | rfl | (unfold patternT; rw [HK.out]; rfl))))
theorem qresolve_t3 (fx fy c alt : Int) (x y : En) (spd bank oalt gr : Int) (hx : EnW x) (hy : EnW y) (w : World) (hG : x.gap = false) (hO : optE spd bank oalt gr = 0) (hL : legF x = 0) (v1 : vldB fx fy = true) (v2 : vldB x.ex x.ey = true) (v3 : vldB x.mx x.my = true) (hcr : 0 ≤ c ∧ c < 129600000) (ha1 : -200000 ≤ alt) (ha2 : alt ≤ 6000000) (hk : x.ty = 3) :
    Calls Tryz.prog 15 #[.agg #[.int .i64 fx, .int .i64 fy], .int .i64 c, .int .i64 alt, .agg x.cells.toArray, .agg y.cells.toArray, .agg #[.int .i64 spd, .int .i64 bank, .int .i64 oalt, .int .i64 gr]] w fun e w' => e = .returned (.tuple #[.agg (resolveT fx fy c alt x y spd bank oalt gr).1.cells.toArray, .int .i64 (resolveT fx fy c alt x y spd bank oalt gr).2]) ∧ Below w.heap.size w w' := by
  have HT : Hid (resolveT fx fy c alt x y spd bank oalt gr = toFixT fx fy c x) := hide (by
    unfold resolveT
    rw [if_neg (by rw [hO]; simp), if_neg (by rw [hG]; simp), if_neg (by rw [hL]; simp), if_neg (by rw [v1, v2, v3]; simp), if_neg (by omega)]
    unfold legT
    rw [if_neg (show ¬ (x.ty = 1) by omega), if_neg (show ¬ (x.ty = 2 ∨ x.ty = 4) by omega), if_pos (show x.ty = 3 by omega)])
  have CH := fun W => ropts_any spd bank oalt gr W
  have LC := fun W => rlcheck_any x hx.leg W
  rw [hO] at CH
  rw [hL] at LC
  obtain ⟨_, _, _, hg1, hg2⟩ := opt_ok hO
  have hq := leg_ok hL
  have P1 := fun W => rpvalid_b fx fy W
  rw [v1] at P1
  have P2 := fun W => rpvalid_b x.ex x.ey W
  rw [v2] at P2
  have P3 := fun W => rpvalid_b x.mx x.my W
  rw [v3] at P3
  have c1 : decide (c < 0) = false := decide_eq_false (by omega)
  have c2 : decide (129600000 ≤ c) = false := decide_eq_false (by omega)
  have c3 : decide (alt < -200000) = false := decide_eq_false (by omega)
  have c4 : decide (6000000 < alt) = false := decide_eq_false (by omega)
  obtain ⟨⟨k1, k2⟩, ⟨k3, k4⟩, ⟨k5, k6⟩, ⟨k7, k8⟩, ⟨k9, k10⟩, ⟨k11, k12, k13⟩, hturn0⟩ := hq
  obtain ⟨q1, q2, q3, q4, q5, q6, q7, q8, q9, q10, q11, q12, q13, q14, q15, q16, q17⟩ := tyq3 hk
  have XC := fun W => qonto_any fx fy c x k3 k4 W
  simp only [En.cells, hG] at XC
  have HK := hide hk
  have HG := hide hG
  clear hO hL v1 v2 v3 hturn0 hk hG
  have hM := mem_nil w
  go_enter Tryz.func15, Tryz.ntmps15
  go_wp2_with (first | (go_at_call 13; refine cb hM (CH _) ?_; clear hM; intro W1 hM) | (go_at_call 35; (refine (LC _).mono ?_); rintro e W1 ⟨rfl, hb⟩; replace hM := mem_below hM hb; clear hb) | (go_at_call 36; (with_reducible refine cb hM (P1 _) ?_); clear hM; intro W1 hM) | (go_at_call 36; (with_reducible refine cb hM (P2 _) ?_); clear hM; intro W1 hM) | (go_at_call 36; (with_reducible refine cb hM (P3 _) ?_); clear hM; intro W1 hM) | (go_at_call 38; (with_reducible refine cb hM (XC _) ?_); clear hM; intro W1 hM) | ((with_reducible refine lX ?_); first | refine aL hM rfl rfl ?_ | refine aM hM rfl rfl ?_) | ((with_reducible refine sX ?_); refine aS hM rfl rfl rfl ?_; clear hM; intro W hM) | ((with_reducible refine bX ?_); refine aB hM rfl rfl ?_; clear hM; intro g W hM) | ((with_reducible refine zX ?_); refine aN hM rfl rfl ?_; clear hM; intro g W hM))
  all_goals first
    | (exact absurd (show x.gap = true by assumption) (by rw [HG.out]; simp))
    | (exact absurd hG (show ¬ x.gap = true by assumption))
    | (refine' end_m2 hM rfl rfl Tryz.isAgg44 Tryz.sizeOf44 rfl rfl ?_ ?_ ⟨?_, hM.below⟩; rotate_left 2; (· repeat constructor); (· rfl); (· refine' ret_tk ?_ ?_; rotate_left 1; (· exact HT.out.trans pair_eta); (· rfl)))
end Go.Proofs.YtjjdojokkmfbmaaGreatDoor
/-
  Resolve of the reference on legs of some types.
-/
set_option maxRecDepth 100000
set_option maxHeartbeats 16000000
namespace Go.Proofs.YtjjdojokkmfbmaaGreatDoor
open Go.RowKit
set_option linter.unusedVariables false
set_option linter.unusedSimpArgs false
theorem qresolve_t5 (fx fy c alt : Int) (x y : En) (spd bank oalt gr : Int) (hx : EnW x) (hy : EnW y) (w : World) (hG : x.gap = false) (hO : optE spd bank oalt gr = 0) (hL : legF x = 0) (v1 : vldB fx fy = true) (v2 : vldB x.ex x.ey = true) (v3 : vldB x.mx x.my = true) (hcr : 0 ≤ c ∧ c < 129600000) (ha1 : -200000 ≤ alt) (ha2 : alt ≤ 6000000) (hk : x.ty = 5) :
    Calls Tryz.prog 15 #[.agg #[.int .i64 fx, .int .i64 fy], .int .i64 c, .int .i64 alt, .agg x.cells.toArray, .agg y.cells.toArray, .agg #[.int .i64 spd, .int .i64 bank, .int .i64 oalt, .int .i64 gr]] w fun e w' => e = .returned (.tuple #[.agg (resolveT fx fy c alt x y spd bank oalt gr).1.cells.toArray, .int .i64 (resolveT fx fy c alt x y spd bank oalt gr).2]) ∧ Below w.heap.size w w' := by
  have HT : Hid (resolveT fx fy c alt x y spd bank oalt gr = aroundT fx fy x) := hide (by
    unfold resolveT
    rw [if_neg (by rw [hO]; simp), if_neg (by rw [hG]; simp), if_neg (by rw [hL]; simp), if_neg (by rw [v1, v2, v3]; simp), if_neg (by omega)]
    unfold legT
    rw [if_neg (show ¬ (x.ty = 1) by omega), if_neg (show ¬ (x.ty = 2 ∨ x.ty = 4) by omega), if_neg (show ¬ (x.ty = 3) by omega), if_pos (show x.ty = 5 ∨ x.ty = 6 by omega)])
  have CH := fun W => ropts_any spd bank oalt gr W
  have LC := fun W => rlcheck_any x hx.leg W
  rw [hO] at CH
  rw [hL] at LC
  obtain ⟨_, _, _, hg1, hg2⟩ := opt_ok hO
  have hq := leg_ok hL
  have P1 := fun W => rpvalid_b fx fy W
  rw [v1] at P1
  have P2 := fun W => rpvalid_b x.ex x.ey W
  rw [v2] at P2
  have P3 := fun W => rpvalid_b x.mx x.my W
  rw [v3] at P3
  have c1 : decide (c < 0) = false := decide_eq_false (by omega)
  have c2 : decide (129600000 ≤ c) = false := decide_eq_false (by omega)
  have c3 : decide (alt < -200000) = false := decide_eq_false (by omega)
  have c4 : decide (6000000 < alt) = false := decide_eq_false (by omega)
  obtain ⟨⟨k1, k2⟩, ⟨k3, k4⟩, ⟨k5, k6⟩, ⟨k7, k8⟩, ⟨k9, k10⟩, ⟨k11, k12, k13⟩, hturn0⟩ := hq
  have hturn : x.tn = 1 ∨ x.tn = 2 := hturn0 (by rw [hk]; rfl)
  obtain ⟨q1, q2, q3, q4, q5, q6, q7, q8, q9, q10, q11, q12, q13, q14, q15, q16, q17⟩ := tyq5 hk
  have XC := fun W => qarc_any fx fy x hturn k7 k8 W
  simp only [En.cells, hG] at XC
  have HK := hide hk
  have HG := hide hG
  clear hO hL v1 v2 v3 hturn0 hk hG
  have hM := mem_nil w
  go_enter Tryz.func15, Tryz.ntmps15
  go_wp2_with (first | (go_at_call 13; refine cb hM (CH _) ?_; clear hM; intro W1 hM) | (go_at_call 35; (refine (LC _).mono ?_); rintro e W1 ⟨rfl, hb⟩; replace hM := mem_below hM hb; clear hb) | (go_at_call 36; (with_reducible refine cb hM (P1 _) ?_); clear hM; intro W1 hM) | (go_at_call 36; (with_reducible refine cb hM (P2 _) ?_); clear hM; intro W1 hM) | (go_at_call 36; (with_reducible refine cb hM (P3 _) ?_); clear hM; intro W1 hM) | (go_at_call 39; (with_reducible refine cb hM (XC _) ?_); clear hM; intro W1 hM) | ((with_reducible refine lX ?_); first | refine aL hM rfl rfl ?_ | refine aM hM rfl rfl ?_) | ((with_reducible refine sX ?_); refine aS hM rfl rfl rfl ?_; clear hM; intro W hM) | ((with_reducible refine bX ?_); refine aB hM rfl rfl ?_; clear hM; intro g W hM) | ((with_reducible refine zX ?_); refine aN hM rfl rfl ?_; clear hM; intro g W hM))
  all_goals first
    | (exact absurd (show x.gap = true by assumption) (by rw [HG.out]; simp))
    | (exact absurd hG (show ¬ x.gap = true by assumption))
    | (refine' end_m2 hM rfl rfl Tryz.isAgg44 Tryz.sizeOf44 rfl rfl ?_ ?_ ⟨?_, hM.below⟩; rotate_left 2; (· repeat constructor); (· rfl); (· refine' ret_tk ?_ ?_; rotate_left 1; (· exact HT.out.trans pair_eta); (· rfl)))
theorem qresolve_t6 (fx fy c alt : Int) (x y : En) (spd bank oalt gr : Int) (hx : EnW x) (hy : EnW y) (w : World) (hG : x.gap = false) (hO : optE spd bank oalt gr = 0) (hL : legF x = 0) (v1 : vldB fx fy = true) (v2 : vldB x.ex x.ey = true) (v3 : vldB x.mx x.my = true) (hcr : 0 ≤ c ∧ c < 129600000) (ha1 : -200000 ≤ alt) (ha2 : alt ≤ 6000000) (hk : x.ty = 6) :
    Calls Tryz.prog 15 #[.agg #[.int .i64 fx, .int .i64 fy], .int .i64 c, .int .i64 alt, .agg x.cells.toArray, .agg y.cells.toArray, .agg #[.int .i64 spd, .int .i64 bank, .int .i64 oalt, .int .i64 gr]] w fun e w' => e = .returned (.tuple #[.agg (resolveT fx fy c alt x y spd bank oalt gr).1.cells.toArray, .int .i64 (resolveT fx fy c alt x y spd bank oalt gr).2]) ∧ Below w.heap.size w w' := by
  have HT : Hid (resolveT fx fy c alt x y spd bank oalt gr = aroundT fx fy x) := hide (by
    unfold resolveT
    rw [if_neg (by rw [hO]; simp), if_neg (by rw [hG]; simp), if_neg (by rw [hL]; simp), if_neg (by rw [v1, v2, v3]; simp), if_neg (by omega)]
    unfold legT
    rw [if_neg (show ¬ (x.ty = 1) by omega), if_neg (show ¬ (x.ty = 2 ∨ x.ty = 4) by omega), if_neg (show ¬ (x.ty = 3) by omega), if_pos (show x.ty = 5 ∨ x.ty = 6 by omega)])
  have CH := fun W => ropts_any spd bank oalt gr W
  have LC := fun W => rlcheck_any x hx.leg W
  rw [hO] at CH
  rw [hL] at LC
  obtain ⟨_, _, _, hg1, hg2⟩ := opt_ok hO
  have hq := leg_ok hL
  have P1 := fun W => rpvalid_b fx fy W
  rw [v1] at P1
  have P2 := fun W => rpvalid_b x.ex x.ey W
  rw [v2] at P2
  have P3 := fun W => rpvalid_b x.mx x.my W
  rw [v3] at P3
  have c1 : decide (c < 0) = false := decide_eq_false (by omega)
  have c2 : decide (129600000 ≤ c) = false := decide_eq_false (by omega)
  have c3 : decide (alt < -200000) = false := decide_eq_false (by omega)
  have c4 : decide (6000000 < alt) = false := decide_eq_false (by omega)
  obtain ⟨⟨k1, k2⟩, ⟨k3, k4⟩, ⟨k5, k6⟩, ⟨k7, k8⟩, ⟨k9, k10⟩, ⟨k11, k12, k13⟩, hturn0⟩ := hq
  have hturn : x.tn = 1 ∨ x.tn = 2 := hturn0 (by rw [hk]; rfl)
  obtain ⟨q1, q2, q3, q4, q5, q6, q7, q8, q9, q10, q11, q12, q13, q14, q15, q16, q17⟩ := tyq6 hk
  have XC := fun W => qarc_any fx fy x hturn k7 k8 W
  simp only [En.cells, hG] at XC
  have HK := hide hk
  have HG := hide hG
  clear hO hL v1 v2 v3 hturn0 hk hG
  have hM := mem_nil w
  go_enter Tryz.func15, Tryz.ntmps15
  go_wp2_with (first | (go_at_call 13; refine cb hM (CH _) ?_; clear hM; intro W1 hM) | (go_at_call 35; (refine (LC _).mono ?_); rintro e W1 ⟨rfl, hb⟩; replace hM := mem_below hM hb; clear hb) | (go_at_call 36; (with_reducible refine cb hM (P1 _) ?_); clear hM; intro W1 hM) | (go_at_call 36; (with_reducible refine cb hM (P2 _) ?_); clear hM; intro W1 hM) | (go_at_call 36; (with_reducible refine cb hM (P3 _) ?_); clear hM; intro W1 hM) | (go_at_call 39; (with_reducible refine cb hM (XC _) ?_); clear hM; intro W1 hM) | ((with_reducible refine lX ?_); first | refine aL hM rfl rfl ?_ | refine aM hM rfl rfl ?_) | ((with_reducible refine sX ?_); refine aS hM rfl rfl rfl ?_; clear hM; intro W hM) | ((with_reducible refine bX ?_); refine aB hM rfl rfl ?_; clear hM; intro g W hM) | ((with_reducible refine zX ?_); refine aN hM rfl rfl ?_; clear hM; intro g W hM))
  all_goals first
    | (exact absurd (show x.gap = true by assumption) (by rw [HG.out]; simp))
    | (exact absurd hG (show ¬ x.gap = true by assumption))
    | (refine' end_m2 hM rfl rfl Tryz.isAgg44 Tryz.sizeOf44 rfl rfl ?_ ?_ ⟨?_, hM.below⟩; rotate_left 2; (· repeat constructor); (· rfl); (· refine' ret_tk ?_ ?_; rotate_left 1; (· exact HT.out.trans pair_eta); (· rfl)))
theorem qresolve_t7 (fx fy c alt : Int) (x y : En) (spd bank oalt gr : Int) (hx : EnW x) (hy : EnW y) (w : World) (hG : x.gap = false) (hO : optE spd bank oalt gr = 0) (hL : legF x = 0) (v1 : vldB fx fy = true) (v2 : vldB x.ex x.ey = true) (v3 : vldB x.mx x.my = true) (hcr : 0 ≤ c ∧ c < 129600000) (ha1 : -200000 ≤ alt) (ha2 : alt ≤ 6000000) (hk : x.ty = 7) :
    Calls Tryz.prog 15 #[.agg #[.int .i64 fx, .int .i64 fy], .int .i64 c, .int .i64 alt, .agg x.cells.toArray, .agg y.cells.toArray, .agg #[.int .i64 spd, .int .i64 bank, .int .i64 oalt, .int .i64 gr]] w fun e w' => e = .returned (.tuple #[.agg (resolveT fx fy c alt x y spd bank oalt gr).1.cells.toArray, .int .i64 (resolveT fx fy c alt x y spd bank oalt gr).2]) ∧ Below w.heap.size w w' := by
  have HT : Hid (resolveT fx fy c alt x y spd bank oalt gr = climbT fx fy alt x gr) := hide (by
    unfold resolveT
    rw [if_neg (by rw [hO]; simp), if_neg (by rw [hG]; simp), if_neg (by rw [hL]; simp), if_neg (by rw [v1, v2, v3]; simp), if_neg (by omega)]
    unfold legT
    rw [if_neg (show ¬ (x.ty = 1) by omega), if_neg (show ¬ (x.ty = 2 ∨ x.ty = 4) by omega), if_neg (show ¬ (x.ty = 3) by omega), if_neg (show ¬ (x.ty = 5 ∨ x.ty = 6) by omega), if_pos (show x.ty = 7 by omega)])
  have CH := fun W => ropts_any spd bank oalt gr W
  have LC := fun W => rlcheck_any x hx.leg W
  rw [hO] at CH
  rw [hL] at LC
  obtain ⟨_, _, _, hg1, hg2⟩ := opt_ok hO
  have hq := leg_ok hL
  have P1 := fun W => rpvalid_b fx fy W
  rw [v1] at P1
  have P2 := fun W => rpvalid_b x.ex x.ey W
  rw [v2] at P2
  have P3 := fun W => rpvalid_b x.mx x.my W
  rw [v3] at P3
  have c1 : decide (c < 0) = false := decide_eq_false (by omega)
  have c2 : decide (129600000 ≤ c) = false := decide_eq_false (by omega)
  have c3 : decide (alt < -200000) = false := decide_eq_false (by omega)
  have c4 : decide (6000000 < alt) = false := decide_eq_false (by omega)
  obtain ⟨⟨k1, k2⟩, ⟨k3, k4⟩, ⟨k5, k6⟩, ⟨k7, k8⟩, ⟨k9, k10⟩, ⟨k11, k12, k13⟩, hturn0⟩ := hq
  obtain ⟨q1, q2, q3, q4, q5, q6, q7, q8, q9, q10, q11, q12, q13, q14, q15, q16, q17⟩ := tyq7 hk
  have HK := hide hk
  have HG := hide hG
  clear hO hL v1 v2 v3 hturn0 hk hG
  have NB := climbN_bd ha1 (show x.lo ≤ 6000000 by omega) hg1
  have XN := fun W => qclimb_any alt x.lo gr ha1 ha2 k11 (by omega) hg1 hg2 W
  obtain ⟨N, hN⟩ : ∃ N, climbN alt x.lo gr = N := ⟨_, rfl⟩
  rw [hN] at XN NB
  have HT0 : Hid (resolveT fx fy c alt x y spd bank oalt gr = if N > 8000000 then (Tk.zero, 2) else rayT fx fy x.crs N) := hide (by rw [HT.out]; unfold climbT; rw [hN])
  clear hN HT
  by_cases h8 : N > 8000000
  · have XA := fun W => qalong_far fx fy x.crs N h8 W
    have HT := hide (HT0.out.trans (if_pos h8))
    clear h8 HT0
    have hM := mem_nil w
    go_enter Tryz.func15, Tryz.ntmps15
    go_upto_region 26 with (first | (go_at_call 13; refine cb hM (CH _) ?_; clear hM; intro W1 hM) | (go_at_call 35; (refine (LC _).mono ?_); rintro e W1 ⟨rfl, hb⟩; replace hM := mem_below hM hb; clear hb) | (go_at_call 36; (with_reducible refine cb hM (P1 _) ?_); clear hM; intro W1 hM) | (go_at_call 36; (with_reducible refine cb hM (P2 _) ?_); clear hM; intro W1 hM) | (go_at_call 36; (with_reducible refine cb hM (P3 _) ?_); clear hM; intro W1 hM) | ((with_reducible refine lX ?_); first | refine aL hM rfl rfl ?_ | refine aM hM rfl rfl ?_) | ((with_reducible refine sX ?_); refine aS hM rfl rfl rfl ?_; clear hM; intro W hM) | ((with_reducible refine bX ?_); refine aB hM rfl rfl ?_; clear hM; intro g W hM) | ((with_reducible refine zX ?_); refine aN hM rfl rfl ?_; clear hM; intro g W hM))
    all_goals first
      | (exact absurd (show x.gap = true by assumption) (by rw [HG.out]; simp))
      | (
          refine' region_del hM (by kernel_rfl) (.tmp 12) rfl ?_ ?_; rotate_left 1; (· repeat constructor); (clear hM; intro W hM hK hne)
          first | refine kL 0 hM hK ?_ | refine kM 0 hM hK ?_
          try simp only [pS, pN, sA, sB, sC]
          refine kP 1 hM hK ?_
          try simp only [pS, pN, sA, sB, sC]
          first | refine kL 2 hM hK ?_ | refine kM 2 hM hK ?_
          try simp only [pS, pN, sA, sB, sC]
          refine kP 3 hM hK ?_
          try simp only [pS, pN, sA, sB, sC]
          refine kP 4 hM hK ?_
          try simp only [pS, pN, sA, sB, sC]
          refine kP 5 hM hK ?_
          try simp only [pS, pN, sA, sB, sC]
          first | refine kL 6 hM hK ?_ | refine kM 6 hM hK ?_
          try simp only [pS, pN, sA, sB, sC]
          refine kP 7 hM hK ?_
          try simp only [pS, pN, sA, sB, sC]
          first | refine kL 8 hM hK ?_ | refine kM 8 hM hK ?_
          try simp only [pS, pN, sA, sB, sC]
          refine tk_call (i := 9) (nthQ rfl) (by kernel_rfl) rfl (fun K' hK' => ?_)
          go_wp2_with (first | (go_at_call 41; (with_reducible refine cb hM (XN _) ?_); clear hM; intro W1 hM) | (go_at_call 40; (with_reducible refine cb hM (XA _) ?_); clear hM; intro W1 hM))
          refine hK'.out _ _ (held_of hM hK) ?_
          clear hK' K'
          try simp only [pS, pN, sA, sB, sC]
          refine tk_call (i := 10) (nthQ rfl) (by kernel_rfl) rfl (fun K' hK' => ?_)
          go_wp2_with (first | (go_at_call 41; (with_reducible refine cb hM (XN _) ?_); clear hM; intro W1 hM) | (go_at_call 40; (with_reducible refine cb hM (XA _) ?_); clear hM; intro W1 hM))
          refine hK'.out _ _ (held_of hM hK) ?_
          clear hK' K'
          try simp only [pS, pN, sA, sB, sC]
          refine kP 11 hM hK ?_
          try simp only [pS, pN, sA, sB, sC]
          refine kP 12 hM hK ?_
          try simp only [pS, pN, sA, sB, sC]
          refine' tk_store hM (i := 13) (nthQ rfl) (by kernel_rfl) rfl rfl rfl ?_ ?_ ?_ ?_ ?_ ?_ ?_ hK hne ?_; rotate_left 6; (· constructor); (· repeat constructor); (· repeat constructor); (· repeat constructor); (· exact szT rfl); (· rfl); (· exact onecells rfl); (clear hM hK; intro W hM hK)
          try simp only [pS, pN, sA, sB, sC]
          refine kP 14 hM hK ?_
          try simp only [pS, pN, sA, sB, sC]
          refine tk_done (by kernel_rfl) ?_
          go_wp2_with (first | (go_at_call 13; refine cb hM (CH _) ?_; clear hM; intro W1 hM) | (go_at_call 35; (refine (LC _).mono ?_); rintro e W1 ⟨rfl, hb⟩; replace hM := mem_below hM hb; clear hb) | (go_at_call 36; (with_reducible refine cb hM (P1 _) ?_); clear hM; intro W1 hM) | (go_at_call 36; (with_reducible refine cb hM (P2 _) ?_); clear hM; intro W1 hM) | (go_at_call 36; (with_reducible refine cb hM (P3 _) ?_); clear hM; intro W1 hM) | ((with_reducible refine lX ?_); first | refine aL hM rfl rfl ?_ | refine aM hM rfl rfl ?_) | ((with_reducible refine sX ?_); refine aS hM rfl rfl rfl ?_; clear hM; intro W hM) | ((with_reducible refine bX ?_); refine aB hM rfl rfl ?_; clear hM; intro g W hM) | ((with_reducible refine zX ?_); refine aN hM rfl rfl ?_; clear hM; intro g W hM))
          all_goals
            (refine' end_m2 hM rfl rfl Tryz.isAgg44 Tryz.sizeOf44 rfl rfl ?_ ?_ ⟨?_, hM.below⟩; rotate_left 2; (· repeat constructor); (· rfl); (· refine' ret_tk ?_ ?_; rotate_left 1; (· exact HT.out); (· rfl)))
        )
  · have XA := fun W => qalong_any fx fy x.crs N (by unfold I64; omega) (by unfold I64; omega) (by omega) W
    obtain ⟨T0, E0, hT⟩ : ∃ T0 E0, rayT fx fy x.crs N = (T0, E0) := ⟨_, _, rfl⟩
    have HT := hide ((HT0.out.trans (if_neg h8)).trans hT)
    rw [hT] at XA
    dsimp only at XA
    clear h8 HT0 hT
    have hM := mem_nil w
    go_enter Tryz.func15, Tryz.ntmps15
    go_upto_region 26 with (first | (go_at_call 13; refine cb hM (CH _) ?_; clear hM; intro W1 hM) | (go_at_call 35; (refine (LC _).mono ?_); rintro e W1 ⟨rfl, hb⟩; replace hM := mem_below hM hb; clear hb) | (go_at_call 36; (with_reducible refine cb hM (P1 _) ?_); clear hM; intro W1 hM) | (go_at_call 36; (with_reducible refine cb hM (P2 _) ?_); clear hM; intro W1 hM) | (go_at_call 36; (with_reducible refine cb hM (P3 _) ?_); clear hM; intro W1 hM) | ((with_reducible refine lX ?_); first | refine aL hM rfl rfl ?_ | refine aM hM rfl rfl ?_) | ((with_reducible refine sX ?_); refine aS hM rfl rfl rfl ?_; clear hM; intro W hM) | ((with_reducible refine bX ?_); refine aB hM rfl rfl ?_; clear hM; intro g W hM) | ((with_reducible refine zX ?_); refine aN hM rfl rfl ?_; clear hM; intro g W hM))
    all_goals first
      | (exact absurd (show x.gap = true by assumption) (by rw [HG.out]; simp))
      | (
          refine' region_del hM (by kernel_rfl) (.tmp 12) rfl ?_ ?_; rotate_left 1; (· repeat constructor); (clear hM; intro W hM hK hne)
          first | refine kL 0 hM hK ?_ | refine kM 0 hM hK ?_
          try simp only [pS, pN, sA, sB, sC]
          refine kP 1 hM hK ?_
          try simp only [pS, pN, sA, sB, sC]
          first | refine kL 2 hM hK ?_ | refine kM 2 hM hK ?_
          try simp only [pS, pN, sA, sB, sC]
          refine kP 3 hM hK ?_
          try simp only [pS, pN, sA, sB, sC]
          refine kP 4 hM hK ?_
          try simp only [pS, pN, sA, sB, sC]
          refine kP 5 hM hK ?_
          try simp only [pS, pN, sA, sB, sC]
          first | refine kL 6 hM hK ?_ | refine kM 6 hM hK ?_
          try simp only [pS, pN, sA, sB, sC]
          refine kP 7 hM hK ?_
          try simp only [pS, pN, sA, sB, sC]
          first | refine kL 8 hM hK ?_ | refine kM 8 hM hK ?_
          try simp only [pS, pN, sA, sB, sC]
          refine tk_call (i := 9) (nthQ rfl) (by kernel_rfl) rfl (fun K' hK' => ?_)
          go_wp2_with (first | (go_at_call 41; (with_reducible refine cb hM (XN _) ?_); clear hM; intro W1 hM) | (go_at_call 40; (with_reducible refine cb hM (XA _) ?_); clear hM; intro W1 hM))
          refine hK'.out _ _ (held_of hM hK) ?_
          clear hK' K'
          try simp only [pS, pN, sA, sB, sC]
          refine tk_call (i := 10) (nthQ rfl) (by kernel_rfl) rfl (fun K' hK' => ?_)
          go_wp2_with (first | (go_at_call 41; (with_reducible refine cb hM (XN _) ?_); clear hM; intro W1 hM) | (go_at_call 40; (with_reducible refine cb hM (XA _) ?_); clear hM; intro W1 hM))
          refine hK'.out _ _ (held_of hM hK) ?_
          clear hK' K'
          try simp only [pS, pN, sA, sB, sC]
          refine kP 11 hM hK ?_
          try simp only [pS, pN, sA, sB, sC]
          refine kP 12 hM hK ?_
          try simp only [pS, pN, sA, sB, sC]
          refine' tk_store hM (i := 13) (nthQ rfl) (by kernel_rfl) rfl rfl rfl ?_ ?_ ?_ ?_ ?_ ?_ ?_ hK hne ?_; rotate_left 6; (· constructor); (· repeat constructor); (· repeat constructor); (· repeat constructor); (· exact szT rfl); (· rfl); (· exact onecells rfl); (clear hM hK; intro W hM hK)
          try simp only [pS, pN, sA, sB, sC]
          refine kP 14 hM hK ?_
          try simp only [pS, pN, sA, sB, sC]
          refine tk_done (by kernel_rfl) ?_
          go_wp2_with (first | (go_at_call 13; refine cb hM (CH _) ?_; clear hM; intro W1 hM) | (go_at_call 35; (refine (LC _).mono ?_); rintro e W1 ⟨rfl, hb⟩; replace hM := mem_below hM hb; clear hb) | (go_at_call 36; (with_reducible refine cb hM (P1 _) ?_); clear hM; intro W1 hM) | (go_at_call 36; (with_reducible refine cb hM (P2 _) ?_); clear hM; intro W1 hM) | (go_at_call 36; (with_reducible refine cb hM (P3 _) ?_); clear hM; intro W1 hM) | ((with_reducible refine lX ?_); first | refine aL hM rfl rfl ?_ | refine aM hM rfl rfl ?_) | ((with_reducible refine sX ?_); refine aS hM rfl rfl rfl ?_; clear hM; intro W hM) | ((with_reducible refine bX ?_); refine aB hM rfl rfl ?_; clear hM; intro g W hM) | ((with_reducible refine zX ?_); refine aN hM rfl rfl ?_; clear hM; intro g W hM))
          all_goals
            (refine' end_m2 hM rfl rfl Tryz.isAgg44 Tryz.sizeOf44 rfl rfl ?_ ?_ ⟨?_, hM.below⟩; rotate_left 2; (· repeat constructor); (· rfl); (· refine' ret_tk ?_ ?_; rotate_left 1; (· exact HT.out); (· rfl)))
        )
end Go.Proofs.YtjjdojokkmfbmaaGreatDoor
