/-
  The walks of Around, by boxes.
-/
import Derived.Test.YtbhpklpkcgcmfaaGreatDoorMLaws
import Derived.Test.YtbhpklpkcgcmfaaGreatDoorMLineD
import Derived.Test.YtbhpklpkcgcmfaaGreatDoorMMem
import Derived.Test.YtbhpklpkcgcmfaaGreatDoorMWide
namespace Go.Proofs.YtbhpklpkcgcmfaaGreatDoor
open Go.RowKit
set_option linter.unusedVariables false
set_option linter.unusedSimpArgs false
theorem around_no {ax ay cx cy bx b_y : Int} {right : Bool} (h : (vldB ax ay && vldB cx cy && vldB bx b_y) = false) : aroundF ax ay cx cy bx b_y right = (zeros5, 1) := by unfold aroundF; rw [h]; rfl
theorem around_far {ax ay cx cy bx b_y : Int} {right : Bool} (h : (vldB ax ay && vldB cx cy && vldB bx b_y) = true) (h2 : distF cx cy ax ay = 0 ∨ distF cx cy bx b_y = 0 ∨ distF cx cy ax ay - distF cx cy bx b_y > 8 ∨ distF cx cy bx b_y - distF cx cy ax ay > 8) : aroundF ax ay cx cy bx b_y right = (zeros5, 10) := by
 unfold aroundF; rw [h, if_neg (by simp), if_pos h2]
theorem dist_self (ax ay : Int) : distF ax ay ax ay = 0 := by
 unfold distF dist2
 rw [Int.sub_self, Int.sub_self]
 split
 · decide +kernel
 · rfl
theorem around_in {ax ay cx cy bx b_y : Int} {right : Bool} (h : (vldB ax ay && vldB cx cy && vldB bx b_y) = true) (h2 : ¬ (distF cx cy ax ay = 0 ∨ distF cx cy bx b_y = 0 ∨ distF cx cy ax ay - distF cx cy bx b_y > 8 ∨ distF cx cy bx b_y - distF cx cy ax ay > 8)) :
 aroundF ax ay cx cy bx b_y right = ([cx, cy, distF cx cy ax ay, (courseF cx cy ax ay).1, arSweep right (courseF cx cy ax ay).1 (courseF cx cy bx b_y).1], 0) := by
 have hv : (vldB ax ay = true ∧ vldB cx cy = true) ∧ vldB bx b_y = true := by simpa using h
 have e1 : ¬ (cx = ax ∧ cy = ay) := fun e => h2 (.inl (by rw [← e.1, ← e.2]; exact dist_self cx cy))
 have e2 : ¬ (cx = bx ∧ cy = b_y) := fun e => h2 (.inr (.inl (by rw [← e.1, ← e.2]; exact dist_self cx cy)))
 unfold aroundF
 rw [h, if_neg (by simp), if_neg h2]
 unfold courseF
 rw [hv.1.1, hv.1.2, hv.2, if_neg (by simp), if_neg e1, if_neg (by simp), if_neg e2]
theorem arSweep_eq (right : Bool) (x y : Int) : arSweep right x y = if right = true then (if sweepF right x y = 0 then 129600000 else sweepF right x y) else -(if sweepF right x y = 0 then 129600000 else sweepF right x y) := by
 rcases right with _ | _ <;> rfl
theorem courseF_i (ax ay bx b_y : Int) : I64 (courseF ax ay bx b_y).1 := by
 have h := courseF_bd ax ay bx b_y
 unfold I64
 omega
set_option maxRecDepth 100000 in
set_option maxHeartbeats 8000000 in
theorem around_s (ax ay cx cy bx b_y b : Int) (right : Bool) (hb : b = 1 ∧ right = false ∨ b = 2 ∧ right = true) (w : World) (v0 v1 v2 v3 v4 e0 : Int) (hR : ([v0, v1, v2, v3, v4], e0) = aroundF ax ay cx cy bx b_y right) :
 Calls Tryz.prog 123 #[.agg #[.int .i64 ax, .int .i64 ay], .agg #[.int .i64 cx, .int .i64 cy], .agg #[.int .i64 bx, .int .i64 b_y], .int .u8 b] w fun e w' => e = .returned (.tuple #[.agg #[.int .i64 v0, .int .i64 v1, .int .i64 v2, .int .i64 v3, .int .i64 v4], .int .i64 e0]) ∧ Below w.heap.size w w' := by
 have SWF : ∀ (x y : Int), I64 x → I64 y → ∀ W, Calls Tryz.prog 99 #[.int .i64 x, .int .i64 y, .int .u8 b] W fun e w' => e = .returned (.int .i64 (sweepF right x y)) ∧ W = w' := by
  rcases hb with ⟨rfl, rfl⟩ | ⟨rfl, rfl⟩
  · exact fun x y hx hy W => sweep_left x y hx hy W
  · exact fun x y hx hy W => sweep_right x y hx hy W
 by_cases hv : (vldB ax ay && vldB cx cy && vldB bx b_y) = false
 · have hcs : vldB ax ay = false ∨ (vldB ax ay = true ∧ vldB cx cy = false) ∨ (vldB ax ay = true ∧ vldB cx cy = true ∧ vldB bx b_y = false) := by
    revert hv
    rcases vldB ax ay with _ | _ <;> rcases vldB cx cy with _ | _ <;> rcases vldB bx b_y with _ | _ <;> simp
   rw [around_no hv] at hR
   obtain ⟨⟨rfl, rfl, rfl, rfl, rfl⟩, rfl⟩ : (v0 = 0 ∧ v1 = 0 ∧ v2 = 0 ∧ v3 = 0 ∧ v4 = 0) ∧ e0 = 1 := by simpa [zeros5] using hR
   clear hR hv
   have PV0 := fun W => pvalid_b ax ay W
   have PV1 := fun W => pvalid_b cx cy W
   have PV2 := fun W => pvalid_b bx b_y W
   clear SWF
   rcases hb with ⟨rfl, rfl⟩ | ⟨rfl, rfl⟩ <;> rcases hcs with h0 | ⟨h0, h1⟩ | ⟨h0, h1, h2⟩
   all_goals (
    rw [h0] at PV0
    try rw [h1] at PV1
    try rw [h2] at PV2
    clear h0
    try clear h1
    try clear h2
    have hM := mem_nil w
    go_enter Tryz.func123, Tryz.ntmps123
    go_wp2_with (first | (go_at_call 46; (with_reducible refine cb hM (PV0 _) ?_); clear hM; intro W1 hM) | (go_at_call 46; (with_reducible refine cb hM (PV1 _) ?_); clear hM; intro W1 hM) | (go_at_call 46; (with_reducible refine cb hM (PV2 _) ?_); clear hM; intro W1 hM) | ((with_reducible refine lX ?_); first | refine aL hM rfl rfl ?_ | refine aM hM rfl rfl ?_) | ((with_reducible refine sX ?_); refine aS hM rfl rfl rfl ?_; clear hM; intro W hM) | ((with_reducible refine bX ?_); refine aB hM rfl rfl ?_; clear hM; intro g W hM) | ((with_reducible refine zX ?_); refine aN hM rfl rfl ?_; clear hM; intro g W hM))
    all_goals
     (refine' end_m2 hM rfl rfl Tryz.isAgg46 Tryz.sizeOf46 rfl rfl ?_ ?_ ⟨?_, hM.below⟩; rotate_left 2; (· repeat constructor); (· rfl); (· rfl))
    )
 have h3 : (vldB ax ay && vldB cx cy && vldB bx b_y) = true := (by revert hv; rcases (vldB ax ay && vldB cx cy && vldB bx b_y) with _ | _ <;> simp)
 clear hv
 have h4 : (vldB ax ay = true ∧ vldB cx cy = true) ∧ vldB bx b_y = true := by simpa using h3
 have PV0 := fun W => pvalid_b ax ay W
 have PV1 := fun W => pvalid_b cx cy W
 have PV2 := fun W => pvalid_b bx b_y W
 rw [h4.1.1] at PV0
 rw [h4.1.2] at PV1
 rw [h4.2] at PV2
 clear h4
 have DA := fun W => dist_any cx cy ax ay W
 have DB := fun W => dist_any cx cy bx b_y W
 have bA := distF_bd cx cy ax ay
 have bB := distF_bd cx cy bx b_y
 have XA := fun W => course_any cx cy ax ay W
 have XB := fun W => course_any cx cy bx b_y W
 by_cases hf : distF cx cy ax ay = 0 ∨ distF cx cy bx b_y = 0 ∨ distF cx cy ax ay - distF cx cy bx b_y > 8 ∨ distF cx cy bx b_y - distF cx cy ax ay > 8
 · rw [around_far h3 hf] at hR
   obtain ⟨⟨rfl, rfl, rfl, rfl, rfl⟩, rfl⟩ : (v0 = 0 ∧ v1 = 0 ∧ v2 = 0 ∧ v3 = 0 ∧ v4 = 0) ∧ e0 = 10 := by simpa [zeros5] using hR
   clear hR h3 XA XB
   generalize distF cx cy ax ay = m at *
   generalize distF cx cy bx b_y = n at *
   have AB := fun W => abs_any (m - n) (by unfold I64; omega) (by omega) W
   obtain ⟨k, hk⟩ : ∃ k : Int, ((m - n).natAbs : Int) = k := ⟨_, rfl⟩
   rw [hk] at AB
   have hcs : (m == 0) = true ∨ (m == 0) = false ∧ (n == 0) = true ∨ (m == 0) = false ∧ (n == 0) = false ∧ 8 < k := by
    rcases hm : (m == 0) with _ | _
    · rcases hn : (n == 0) with _ | _
      · have m0 : m ≠ 0 := by simpa using hm
        have n0 : n ≠ 0 := by simpa using hn
        exact .inr (.inr ⟨rfl, rfl, by omega⟩)
      · exact .inr (.inl ⟨rfl, rfl⟩)
    · exact .inl rfl
   clear hk hf
   clear SWF
   rcases hb with ⟨rfl, rfl⟩ | ⟨rfl, rfl⟩ <;> rcases hcs with z1 | ⟨z1, z2⟩ | ⟨z1, z2, z3⟩
   all_goals (
    have hM := mem_nil w
    go_enter Tryz.func123, Tryz.ntmps123
    go_upto_region 3 with (first | (go_at_call 46; (with_reducible refine cb hM (PV0 _) ?_); clear hM; intro W1 hM) | (go_at_call 46; (with_reducible refine cb hM (PV1 _) ?_); clear hM; intro W1 hM) | (go_at_call 46; (with_reducible refine cb hM (PV2 _) ?_); clear hM; intro W1 hM) | (go_at_call 28; (with_reducible refine cb hM (XA _) ?_); clear hM; intro W1 hM) | (go_at_call 28; (with_reducible refine cb hM (XB _) ?_); clear hM; intro W1 hM) | (go_at_call 99; (with_reducible refine (SW _).mono ?_); rintro e W1 ⟨rfl, rfl⟩) | (go_at_call 68; (with_reducible refine (AB _).mono ?_); rintro e W1 ⟨rfl, rfl⟩) | ((with_reducible refine lX ?_); first | refine aL hM rfl rfl ?_ | refine aM hM rfl rfl ?_) | ((with_reducible refine sX ?_); refine aS hM rfl rfl rfl ?_; clear hM; intro W hM) | ((with_reducible refine bX ?_); refine aB hM rfl rfl ?_; clear hM; intro g W hM) | ((with_reducible refine zX ?_); refine aN hM rfl rfl ?_; clear hM; intro g W hM))
    refine region_all hM (by kernel_rfl) ?_; (clear hM; intro W hM hK)
    first | refine kL 0 hM hK ?_ | refine kM 0 hM hK ?_
    try simp only [pS, pN, sA, sB, sC]
    first | refine kL 1 hM hK ?_ | refine kM 1 hM hK ?_
    try simp only [pS, pN, sA, sB, sC]
    first | refine kL 3 hM hK ?_ | refine kM 3 hM hK ?_
    try simp only [pS, pN, sA, sB, sC]
    first | refine kL 4 hM hK ?_ | refine kM 4 hM hK ?_
    try simp only [pS, pN, sA, sB, sC]
    refine tk_call (i := 2) (nthQ rfl) (by kernel_rfl) rfl (fun K' hK' => ?_)
    go_wp2_with (first | (go_at_call 18; (with_reducible refine cb hM (DA _) ?_); clear hM; intro W1 hM) | (go_at_call 18; (with_reducible refine cb hM (DB _) ?_); clear hM; intro W1 hM))
    refine hK'.out _ _ (held_of hM hK) ?_
    clear hK' K'
    try simp only [pS, pN, sA, sB, sC]
    refine tk_call (i := 5) (nthQ rfl) (by kernel_rfl) rfl (fun K' hK' => ?_)
    go_wp2_with (first | (go_at_call 18; (with_reducible refine cb hM (DA _) ?_); clear hM; intro W1 hM) | (go_at_call 18; (with_reducible refine cb hM (DB _) ?_); clear hM; intro W1 hM))
    refine hK'.out _ _ (held_of hM hK) ?_
    clear hK' K'
    try simp only [pS, pN, sA, sB, sC]
    refine kP 6 hM hK ?_
    try simp only [pS, pN, sA, sB, sC]
    refine kP 7 hM hK ?_
    try simp only [pS, pN, sA, sB, sC]
    refine tk_done (by kernel_rfl) ?_
    go_wp2_with (first | (go_at_call 46; (with_reducible refine cb hM (PV0 _) ?_); clear hM; intro W1 hM) | (go_at_call 46; (with_reducible refine cb hM (PV1 _) ?_); clear hM; intro W1 hM) | (go_at_call 46; (with_reducible refine cb hM (PV2 _) ?_); clear hM; intro W1 hM) | (go_at_call 28; (with_reducible refine cb hM (XA _) ?_); clear hM; intro W1 hM) | (go_at_call 28; (with_reducible refine cb hM (XB _) ?_); clear hM; intro W1 hM) | (go_at_call 99; (with_reducible refine (SW _).mono ?_); rintro e W1 ⟨rfl, rfl⟩) | (go_at_call 68; (with_reducible refine (AB _).mono ?_); rintro e W1 ⟨rfl, rfl⟩) | ((with_reducible refine lX ?_); first | refine aL hM rfl rfl ?_ | refine aM hM rfl rfl ?_) | ((with_reducible refine sX ?_); refine aS hM rfl rfl rfl ?_; clear hM; intro W hM) | ((with_reducible refine bX ?_); refine aB hM rfl rfl ?_; clear hM; intro g W hM) | ((with_reducible refine zX ?_); refine aN hM rfl rfl ?_; clear hM; intro g W hM))
    all_goals
     (refine' end_m2 hM rfl rfl Tryz.isAgg46 Tryz.sizeOf46 rfl rfl ?_ ?_ ⟨?_, hM.below⟩; rotate_left 2; (· repeat constructor); (· rfl); (· rfl))
    )
 rw [around_in h3 hf] at hR
 clear h3
 have cA := courseF_i cx cy ax ay
 have cB := courseF_i cx cy bx b_y
 obtain ⟨⟨rfl, rfl, rfl, rfl, rfl⟩, rfl⟩ : (cx = v0 ∧ cy = v1 ∧ distF cx cy ax ay = v2 ∧ (courseF cx cy ax ay).1 = v3 ∧ arSweep right (courseF cx cy ax ay).1 (courseF cx cy bx b_y).1 = v4) ∧ 0 = e0 := by simpa using hR.symm
 clear hR
 obtain ⟨v4, hv4⟩ : ∃ v4, arSweep right (courseF cx cy ax ay).1 (courseF cx cy bx b_y).1 = v4 := ⟨_, rfl⟩
 rw [hv4]
 rw [arSweep_eq] at hv4
 generalize distF cx cy ax ay = m at *
 generalize distF cx cy bx b_y = n at *
 generalize courseF cx cy ax ay = q1 at *
 generalize courseF cx cy bx b_y = q2 at *
 obtain ⟨x, qe1⟩ := q1
 obtain ⟨y, qe2⟩ := q2
 dsimp only at *
 have AB := fun W => abs_any (m - n) (by unfold I64; omega) (by omega) W
 have z1 : (m == 0) = false := by simp; omega
 have z2 : (n == 0) = false := by simp; omega
 have z3 : ((m - n).natAbs : Int) ≤ 8 := by omega
 obtain ⟨k, hk⟩ : ∃ k : Int, ((m - n).natAbs : Int) = k := ⟨_, rfl⟩
 rw [hk] at AB z3
 have SW := fun W => SWF x y cA cB W
 have sb : 0 ≤ sweepF right x y ∧ sweepF right x y < 129600000 := by
  unfold sweepF
  split <;> exact norm_bd _
 generalize sweepF right x y = s at *
 clear hk hf
 have hs : b = 1 ∧ (s == 0) = true ∧ v4 = -129600000 ∨ b = 1 ∧ (s == 0) = false ∧ v4 = -s ∨ b = 2 ∧ (s == 0) = true ∧ v4 = 129600000 ∨ b = 2 ∧ (s == 0) = false ∧ v4 = s := by
  subst hv4
  rcases hb with ⟨rfl, rfl⟩ | ⟨rfl, rfl⟩
  · by_cases h : s = 0
    · exact .inl ⟨rfl, by simpa using h, by simp [h]⟩
    · exact .inr (.inl ⟨rfl, by simpa using h, by simp [h]⟩)
  · by_cases h : s = 0
    · exact .inr (.inr (.inl ⟨rfl, by simpa using h, by simp [h]⟩))
    · exact .inr (.inr (.inr ⟨rfl, by simpa using h, by simp [h]⟩))
 clear hv4 SWF hb
 rcases hs with ⟨rfl, s1, rfl⟩ | ⟨rfl, s1, rfl⟩ | ⟨rfl, s1, rfl⟩ | ⟨rfl, s1, rfl⟩
 all_goals (
  have hM := mem_nil w
  go_enter Tryz.func123, Tryz.ntmps123
  go_upto_region 3 with (first | (go_at_call 46; (with_reducible refine cb hM (PV0 _) ?_); clear hM; intro W1 hM) | (go_at_call 46; (with_reducible refine cb hM (PV1 _) ?_); clear hM; intro W1 hM) | (go_at_call 46; (with_reducible refine cb hM (PV2 _) ?_); clear hM; intro W1 hM) | (go_at_call 28; (with_reducible refine cb hM (XA _) ?_); clear hM; intro W1 hM) | (go_at_call 28; (with_reducible refine cb hM (XB _) ?_); clear hM; intro W1 hM) | (go_at_call 99; (with_reducible refine (SW _).mono ?_); rintro e W1 ⟨rfl, rfl⟩) | (go_at_call 68; (with_reducible refine (AB _).mono ?_); rintro e W1 ⟨rfl, rfl⟩) | ((with_reducible refine lX ?_); first | refine aL hM rfl rfl ?_ | refine aM hM rfl rfl ?_) | ((with_reducible refine sX ?_); refine aS hM rfl rfl rfl ?_; clear hM; intro W hM) | ((with_reducible refine bX ?_); refine aB hM rfl rfl ?_; clear hM; intro g W hM) | ((with_reducible refine zX ?_); refine aN hM rfl rfl ?_; clear hM; intro g W hM))
  refine region_all hM (by kernel_rfl) ?_; (clear hM; intro W hM hK)
  first | refine kL 0 hM hK ?_ | refine kM 0 hM hK ?_
  try simp only [pS, pN, sA, sB, sC]
  first | refine kL 1 hM hK ?_ | refine kM 1 hM hK ?_
  try simp only [pS, pN, sA, sB, sC]
  first | refine kL 3 hM hK ?_ | refine kM 3 hM hK ?_
  try simp only [pS, pN, sA, sB, sC]
  first | refine kL 4 hM hK ?_ | refine kM 4 hM hK ?_
  try simp only [pS, pN, sA, sB, sC]
  refine tk_call (i := 2) (nthQ rfl) (by kernel_rfl) rfl (fun K' hK' => ?_)
  go_wp2_with (first | (go_at_call 18; (with_reducible refine cb hM (DA _) ?_); clear hM; intro W1 hM) | (go_at_call 18; (with_reducible refine cb hM (DB _) ?_); clear hM; intro W1 hM))
  refine hK'.out _ _ (held_of hM hK) ?_
  clear hK' K'
  try simp only [pS, pN, sA, sB, sC]
  refine tk_call (i := 5) (nthQ rfl) (by kernel_rfl) rfl (fun K' hK' => ?_)
  go_wp2_with (first | (go_at_call 18; (with_reducible refine cb hM (DA _) ?_); clear hM; intro W1 hM) | (go_at_call 18; (with_reducible refine cb hM (DB _) ?_); clear hM; intro W1 hM))
  refine hK'.out _ _ (held_of hM hK) ?_
  clear hK' K'
  try simp only [pS, pN, sA, sB, sC]
  refine kP 6 hM hK ?_
  try simp only [pS, pN, sA, sB, sC]
  refine kP 7 hM hK ?_
  try simp only [pS, pN, sA, sB, sC]
  refine tk_done (by kernel_rfl) ?_
  go_wp2_with (first | (go_at_call 46; (with_reducible refine cb hM (PV0 _) ?_); clear hM; intro W1 hM) | (go_at_call 46; (with_reducible refine cb hM (PV1 _) ?_); clear hM; intro W1 hM) | (go_at_call 46; (with_reducible refine cb hM (PV2 _) ?_); clear hM; intro W1 hM) | (go_at_call 28; (with_reducible refine cb hM (XA _) ?_); clear hM; intro W1 hM) | (go_at_call 28; (with_reducible refine cb hM (XB _) ?_); clear hM; intro W1 hM) | (go_at_call 99; (with_reducible refine (SW _).mono ?_); rintro e W1 ⟨rfl, rfl⟩) | (go_at_call 68; (with_reducible refine (AB _).mono ?_); rintro e W1 ⟨rfl, rfl⟩) | ((with_reducible refine lX ?_); first | refine aL hM rfl rfl ?_ | refine aM hM rfl rfl ?_) | ((with_reducible refine sX ?_); refine aS hM rfl rfl rfl ?_; clear hM; intro W hM) | ((with_reducible refine bX ?_); refine aB hM rfl rfl ?_; clear hM; intro g W hM) | ((with_reducible refine zX ?_); refine aN hM rfl rfl ?_; clear hM; intro g W hM))
  all_goals
   (refine' end_m2 hM rfl rfl Tryz.isAgg46 Tryz.sizeOf46 rfl rfl ?_ ?_ ⟨?_, hM.below⟩; rotate_left 2; (· repeat constructor); (· rfl); (· rfl))
  )
theorem around_l (ax ay cx cy bx b_y : Int) (w : World) (v0 v1 v2 v3 v4 e0 : Int) (hR : ([v0, v1, v2, v3, v4], e0) = aroundF ax ay cx cy bx b_y false) :
 Calls Tryz.prog 123 #[.agg #[.int .i64 ax, .int .i64 ay], .agg #[.int .i64 cx, .int .i64 cy], .agg #[.int .i64 bx, .int .i64 b_y], .int .u8 1] w fun e w' => e = .returned (.tuple #[.agg #[.int .i64 v0, .int .i64 v1, .int .i64 v2, .int .i64 v3, .int .i64 v4], .int .i64 e0]) ∧ Below w.heap.size w w' :=
 around_s ax ay cx cy bx b_y 1 false (.inl ⟨rfl, rfl⟩) w v0 v1 v2 v3 v4 e0 hR
theorem around_r (ax ay cx cy bx b_y : Int) (w : World) (v0 v1 v2 v3 v4 e0 : Int) (hR : ([v0, v1, v2, v3, v4], e0) = aroundF ax ay cx cy bx b_y true) :
 Calls Tryz.prog 123 #[.agg #[.int .i64 ax, .int .i64 ay], .agg #[.int .i64 cx, .int .i64 cy], .agg #[.int .i64 bx, .int .i64 b_y], .int .u8 2] w fun e w' => e = .returned (.tuple #[.agg #[.int .i64 v0, .int .i64 v1, .int .i64 v2, .int .i64 v3, .int .i64 v4], .int .i64 e0]) ∧ Below w.heap.size w w' :=
 around_s ax ay cx cy bx b_y 2 true (.inr ⟨rfl, rfl⟩) w v0 v1 v2 v3 v4 e0 hR
end Go.Proofs.YtbhpklpkcgcmfaaGreatDoor
