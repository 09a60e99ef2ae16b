/-
  The walks of Around, by boxes.
-/
import Derived.Test.YteanfgobpjdmnaaGreatDoorMLineD
import Derived.Test.YteanfgobpjdmnaaGreatDoorMMem
namespace Go.Proofs.YteanfgobpjdmnaaGreatDoor
open Go.RowKit
set_option linter.unusedVariables false
set_option linter.unusedSimpArgs false
theorem dO {ax ay cx cy bx b_y : Int} {right : Bool} (h : (qf ax ay && qf cx cy && qf bx b_y) = false) : jh ax ay cx cy bx b_y right = (JC, 1) := by unfold jh; rw [h]; rfl
theorem TZ {ax ay cx cy bx b_y : Int} {right : Bool} (h : (qf ax ay && qf cx cy && qf bx b_y) = true) (h2 : qJ cx cy ax ay = 0 ∨ qJ cx cy bx b_y = 0 ∨ qJ cx cy ax ay - qJ cx cy bx b_y > 8 ∨ qJ cx cy bx b_y - qJ cx cy ax ay > 8) : jh ax ay cx cy bx b_y right = (JC, 10) := by
 unfold jh; rw [h, if_neg (by simp), if_pos h2]
theorem KG (ax ay : Int) : qJ ax ay ax ay = 0 := by
 unfold qJ jv
 rw [Int.sub_self, Int.sub_self]
 split
 · decide +kernel
 · rfl
theorem dQ {ax ay cx cy bx b_y : Int} {right : Bool} (h : (qf ax ay && qf cx cy && qf bx b_y) = true) (h2 : ¬ (qJ cx cy ax ay = 0 ∨ qJ cx cy bx b_y = 0 ∨ qJ cx cy ax ay - qJ cx cy bx b_y > 8 ∨ qJ cx cy bx b_y - qJ cx cy ax ay > 8)) :
 jh ax ay cx cy bx b_y right = ([cx, cy, qJ cx cy ax ay, (qF cx cy ax ay).1, kF right (qF cx cy ax ay).1 (qF cx cy bx b_y).1], 0) := by
 have hv : (qf ax ay = true ∧ qf cx cy = true) ∧ qf bx b_y = true := by simpa using h
 have e1 : ¬ (cx = ax ∧ cy = ay) := fun e => h2 (.inl (by rw [← e.1, ← e.2]; exact KG cx cy))
 have e2 : ¬ (cx = bx ∧ cy = b_y) := fun e => h2 (.inr (.inl (by rw [← e.1, ← e.2]; exact KG cx cy)))
 unfold jh
 rw [h, if_neg (by simp), if_neg h2]
 unfold qF
 rw [hv.1.1, hv.1.2, hv.2, if_neg (by simp), if_neg e1, if_neg (by simp), if_neg e2]
theorem wg (right : Bool) (x y : Int) : kF right x y = if right = true then (if kK right x y = 0 then 129600000 else kK right x y) else -(if kK right x y = 0 then 129600000 else kK right x y) := by
 rcases right with _ | _ <;> rfl
theorem Qk (ax ay bx b_y : Int) : qH (qF ax ay bx b_y).1 := by
 have h := Zf ax ay bx b_y
 unfold qH
 omega
set_option maxRecDepth 100000 in
set_option maxHeartbeats 8000000 in
theorem YU (ax ay cx cy bx b_y b : Int) (right : Bool) (hb : b = 1 ∧ right = false ∨ b = 2 ∧ right = true) (w : World) (v0 v1 v2 v3 v4 e0 : Int) (hR : ([v0, v1, v2, v3, v4], e0) = jh ax ay cx cy bx b_y right) :
 Calls Tryz.prog 76 #[.agg #[.int .i64 ax, .int .i64 ay], .agg #[.int .i64 cx, .int .i64 cy], .agg #[.int .i64 bx, .int .i64 b_y], .int .u8 b] w fun e w' => e = .returned (.tuple #[.agg #[.int .i64 v0, .int .i64 v1, .int .i64 v2, .int .i64 v3, .int .i64 v4], .int .i64 e0]) ∧ Below w.heap.size w w' := by
 have SWF : ∀ (x y : Int), qH x → qH y → ∀ W, Calls Tryz.prog 43 #[.int .i64 x, .int .i64 y, .int .u8 b] W fun e w' => e = .returned (.int .i64 (kK right x y)) ∧ W = w' := by
  rcases hb with ⟨rfl, rfl⟩ | ⟨rfl, rfl⟩
  · exact fun x y hx hy W => nG x y hx hy W
  · exact fun x y hx hy W => TJ x y hx hy W
 by_cases hv : (qf ax ay && qf cx cy && qf bx b_y) = false
 · have hcs : qf ax ay = false ∨ (qf ax ay = true ∧ qf cx cy = false) ∨ (qf ax ay = true ∧ qf cx cy = true ∧ qf bx b_y = false) := by
    revert hv
    rcases qf ax ay with _ | _ <;> rcases qf cx cy with _ | _ <;> rcases qf bx b_y with _ | _ <;> simp
   rw [dO hv] at hR
   obtain ⟨⟨rfl, rfl, rfl, rfl, rfl⟩, rfl⟩ : (v0 = 0 ∧ v1 = 0 ∧ v2 = 0 ∧ v3 = 0 ∧ v4 = 0) ∧ e0 = 1 := by simpa [JC] using hR
   clear hR hv
   have PV0 := fun W => qo ax ay W
   have PV1 := fun W => qo cx cy W
   have PV2 := fun W => qo bx b_y W
   clear SWF
   rcases hb with ⟨rfl, rfl⟩ | ⟨rfl, rfl⟩ <;> rcases hcs with h0 | ⟨h0, h1⟩ | ⟨h0, h1, h2⟩
   all_goals (
    rw [h0] at PV0
    try rw [h1] at PV1
    try rw [h2] at PV2
    clear h0
    try clear h1
    try clear h2
    have hM := qB w
    go_enter Tryz.func76, Tryz.ntmps76
    go_wp2_with (first | (go_at_call 16; (with_reducible refine cb hM (PV0 _) ?_); clear hM; intro W1 hM) | (go_at_call 16; (with_reducible refine cb hM (PV1 _) ?_); clear hM; intro W1 hM) | (go_at_call 16; (with_reducible refine cb hM (PV2 _) ?_); clear hM; intro W1 hM) | ((with_reducible refine lX ?_); refine mL ?_) | ((with_reducible refine sX ?_); refine mS ?_; clear hM; intro W hM) | ((with_reducible refine bX ?_); refine mB ?_; clear hM; intro g W hM) | ((with_reducible refine zX ?_); refine mB ?_; clear hM; intro g W hM))
    all_goals
     (refine' qR hM rfl rfl Tryz.isAgg47 Tryz.sizeOf47 rfl rfl ?_ ?_ ⟨?_, hM.below⟩; rotate_left 2; (· repeat constructor); (· rfl); (· rfl))
    )
 have h3 : (qf ax ay && qf cx cy && qf bx b_y) = true := (by revert hv; rcases (qf ax ay && qf cx cy && qf bx b_y) with _ | _ <;> simp)
 clear hv
 have h4 : (qf ax ay = true ∧ qf cx cy = true) ∧ qf bx b_y = true := by simpa using h3
 have PV0 := fun W => qo ax ay W
 have PV1 := fun W => qo cx cy W
 have PV2 := fun W => qo bx b_y W
 rw [h4.1.1] at PV0
 rw [h4.1.2] at PV1
 rw [h4.2] at PV2
 clear h4
 have DA := fun W => jJ cx cy ax ay W
 have DB := fun W => jJ cx cy bx b_y W
 have bA := kh cx cy ax ay
 have bB := kh cx cy bx b_y
 have XA := fun W => yd cx cy ax ay W
 have XB := fun W => yd cx cy bx b_y W
 by_cases hf : qJ cx cy ax ay = 0 ∨ qJ cx cy bx b_y = 0 ∨ qJ cx cy ax ay - qJ cx cy bx b_y > 8 ∨ qJ cx cy bx b_y - qJ cx cy ax ay > 8
 · rw [TZ h3 hf] at hR
   obtain ⟨⟨rfl, rfl, rfl, rfl, rfl⟩, rfl⟩ : (v0 = 0 ∧ v1 = 0 ∧ v2 = 0 ∧ v3 = 0 ∧ v4 = 0) ∧ e0 = 10 := by simpa [JC] using hR
   clear hR h3 XA XB
   generalize qJ cx cy ax ay = m at *
   generalize qJ cx cy bx b_y = n at *
   have AB := fun W => kr (m - n) (by unfold qH; omega) (by omega) W
   obtain ⟨k, hk⟩ : ∃ k : Int, ((m - n).natAbs : Int) = k := ⟨_, rfl⟩
   rw [hk] at AB
   have hcs : (m == 0) = true ∨ (m == 0) = false ∧ (n == 0) = true ∨ (m == 0) = false ∧ (n == 0) = false ∧ 8 < k := by
    rcases hm : (m == 0) with _ | _
    · rcases hn : (n == 0) with _ | _
      · have m0 : m ≠ 0 := by simpa using hm
        have n0 : n ≠ 0 := by simpa using hn
        exact .inr (.inr ⟨rfl, rfl, by omega⟩)
      · exact .inr (.inl ⟨rfl, rfl⟩)
    · exact .inl rfl
   clear hk hf
   clear SWF
   rcases hb with ⟨rfl, rfl⟩ | ⟨rfl, rfl⟩ <;> rcases hcs with z1 | ⟨z1, z2⟩ | ⟨z1, z2, z3⟩
   all_goals (
    have hM := qB w
    go_enter Tryz.func76, Tryz.ntmps76
    go_upto_region 3 with (first | (go_at_call 16; (with_reducible refine cb hM (PV0 _) ?_); clear hM; intro W1 hM) | (go_at_call 16; (with_reducible refine cb hM (PV1 _) ?_); clear hM; intro W1 hM) | (go_at_call 16; (with_reducible refine cb hM (PV2 _) ?_); clear hM; intro W1 hM) | (go_at_call 8; (with_reducible refine cb hM (XA _) ?_); clear hM; intro W1 hM) | (go_at_call 8; (with_reducible refine cb hM (XB _) ?_); clear hM; intro W1 hM) | (go_at_call 43; (with_reducible refine (SW _).mono ?_); rintro e W1 ⟨rfl, rfl⟩) | (go_at_call 44; (with_reducible refine (AB _).mono ?_); rintro e W1 ⟨rfl, rfl⟩) | ((with_reducible refine lX ?_); refine mL ?_) | ((with_reducible refine sX ?_); refine mS ?_; clear hM; intro W hM) | ((with_reducible refine bX ?_); refine mB ?_; clear hM; intro g W hM) | ((with_reducible refine zX ?_); refine mB ?_; clear hM; intro g W hM))
    refine bF hM (by kernel_rfl) ?_; (clear hM; intro W hM hK)
    first | refine kL 0 hM hK ?_ | refine kM 0 hM hK ?_
    try simp only [pS, pN, sA, sB, sC]
    first | refine kL 1 hM hK ?_ | refine kM 1 hM hK ?_
    try simp only [pS, pN, sA, sB, sC]
    first | refine kL 3 hM hK ?_ | refine kM 3 hM hK ?_
    try simp only [pS, pN, sA, sB, sC]
    first | refine kL 4 hM hK ?_ | refine kM 4 hM hK ?_
    try simp only [pS, pN, sA, sB, sC]
    refine vN (i := 2) (jL rfl) (by kernel_rfl) rfl (fun K' hK' => ?_)
    go_wp2_with (first | (go_at_call 32; (with_reducible refine cb hM (DA _) ?_); clear hM; intro W1 hM) | (go_at_call 32; (with_reducible refine cb hM (DB _) ?_); clear hM; intro W1 hM))
    refine hK'.out _ _ (zV hM hK) ?_
    clear hK' K'
    try simp only [pS, pN, sA, sB, sC]
    refine vN (i := 5) (jL rfl) (by kernel_rfl) rfl (fun K' hK' => ?_)
    go_wp2_with (first | (go_at_call 32; (with_reducible refine cb hM (DA _) ?_); clear hM; intro W1 hM) | (go_at_call 32; (with_reducible refine cb hM (DB _) ?_); clear hM; intro W1 hM))
    refine hK'.out _ _ (zV hM hK) ?_
    clear hK' K'
    try simp only [pS, pN, sA, sB, sC]
    refine kP 6 hM hK ?_
    try simp only [pS, pN, sA, sB, sC]
    refine kP 7 hM hK ?_
    try simp only [pS, pN, sA, sB, sC]
    refine qE (by kernel_rfl) ?_
    go_wp2_with (first | (go_at_call 16; (with_reducible refine cb hM (PV0 _) ?_); clear hM; intro W1 hM) | (go_at_call 16; (with_reducible refine cb hM (PV1 _) ?_); clear hM; intro W1 hM) | (go_at_call 16; (with_reducible refine cb hM (PV2 _) ?_); clear hM; intro W1 hM) | (go_at_call 8; (with_reducible refine cb hM (XA _) ?_); clear hM; intro W1 hM) | (go_at_call 8; (with_reducible refine cb hM (XB _) ?_); clear hM; intro W1 hM) | (go_at_call 43; (with_reducible refine (SW _).mono ?_); rintro e W1 ⟨rfl, rfl⟩) | (go_at_call 44; (with_reducible refine (AB _).mono ?_); rintro e W1 ⟨rfl, rfl⟩) | ((with_reducible refine lX ?_); refine mL ?_) | ((with_reducible refine sX ?_); refine mS ?_; clear hM; intro W hM))
    all_goals
     (refine' qR hM rfl rfl Tryz.isAgg47 Tryz.sizeOf47 rfl rfl ?_ ?_ ⟨?_, hM.below⟩; rotate_left 2; (· repeat constructor); (· rfl); (· rfl))
    )
 rw [dQ h3 hf] at hR
 clear h3
 have cA := Qk cx cy ax ay
 have cB := Qk cx cy bx b_y
 obtain ⟨⟨rfl, rfl, rfl, rfl, rfl⟩, rfl⟩ : (cx = v0 ∧ cy = v1 ∧ qJ cx cy ax ay = v2 ∧ (qF cx cy ax ay).1 = v3 ∧ kF right (qF cx cy ax ay).1 (qF cx cy bx b_y).1 = v4) ∧ 0 = e0 := by simpa using hR.symm
 clear hR
 obtain ⟨v4, hv4⟩ : ∃ v4, kF right (qF cx cy ax ay).1 (qF cx cy bx b_y).1 = v4 := ⟨_, rfl⟩
 rw [hv4]
 rw [wg] at hv4
 generalize qJ cx cy ax ay = m at *
 generalize qJ cx cy bx b_y = n at *
 generalize qF cx cy ax ay = q1 at *
 generalize qF cx cy bx b_y = q2 at *
 obtain ⟨x, qe1⟩ := q1
 obtain ⟨y, qe2⟩ := q2
 dsimp only at *
 have AB := fun W => kr (m - n) (by unfold qH; omega) (by omega) W
 have z1 : (m == 0) = false := by simp; omega
 have z2 : (n == 0) = false := by simp; omega
 have z3 : ((m - n).natAbs : Int) ≤ 8 := by omega
 obtain ⟨k, hk⟩ : ∃ k : Int, ((m - n).natAbs : Int) = k := ⟨_, rfl⟩
 rw [hk] at AB z3
 have SW := fun W => SWF x y cA cB W
 have sb : 0 ≤ kK right x y ∧ kK right x y < 129600000 := by
  unfold kK
  split <;> exact zM _
 generalize kK right x y = s at *
 clear hk hf
 have hs : b = 1 ∧ (s == 0) = true ∧ v4 = -129600000 ∨ b = 1 ∧ (s == 0) = false ∧ v4 = -s ∨ b = 2 ∧ (s == 0) = true ∧ v4 = 129600000 ∨ b = 2 ∧ (s == 0) = false ∧ v4 = s := by
  subst hv4
  rcases hb with ⟨rfl, rfl⟩ | ⟨rfl, rfl⟩
  · by_cases h : s = 0
    · exact .inl ⟨rfl, by simpa using h, by simp [h]⟩
    · exact .inr (.inl ⟨rfl, by simpa using h, by simp [h]⟩)
  · by_cases h : s = 0
    · exact .inr (.inr (.inl ⟨rfl, by simpa using h, by simp [h]⟩))
    · exact .inr (.inr (.inr ⟨rfl, by simpa using h, by simp [h]⟩))
 clear hv4 SWF hb
 rcases hs with ⟨rfl, s1, rfl⟩ | ⟨rfl, s1, rfl⟩ | ⟨rfl, s1, rfl⟩ | ⟨rfl, s1, rfl⟩
 all_goals (
  have hM := qB w
  go_enter Tryz.func76, Tryz.ntmps76
  go_upto_region 3 with (first | (go_at_call 16; (with_reducible refine cb hM (PV0 _) ?_); clear hM; intro W1 hM) | (go_at_call 16; (with_reducible refine cb hM (PV1 _) ?_); clear hM; intro W1 hM) | (go_at_call 16; (with_reducible refine cb hM (PV2 _) ?_); clear hM; intro W1 hM) | (go_at_call 8; (with_reducible refine cb hM (XA _) ?_); clear hM; intro W1 hM) | (go_at_call 8; (with_reducible refine cb hM (XB _) ?_); clear hM; intro W1 hM) | (go_at_call 43; (with_reducible refine (SW _).mono ?_); rintro e W1 ⟨rfl, rfl⟩) | (go_at_call 44; (with_reducible refine (AB _).mono ?_); rintro e W1 ⟨rfl, rfl⟩) | ((with_reducible refine lX ?_); refine mL ?_) | ((with_reducible refine sX ?_); refine mS ?_; clear hM; intro W hM) | ((with_reducible refine bX ?_); refine mB ?_; clear hM; intro g W hM) | ((with_reducible refine zX ?_); refine mB ?_; clear hM; intro g W hM))
  refine bF hM (by kernel_rfl) ?_; (clear hM; intro W hM hK)
  first | refine kL 0 hM hK ?_ | refine kM 0 hM hK ?_
  try simp only [pS, pN, sA, sB, sC]
  first | refine kL 1 hM hK ?_ | refine kM 1 hM hK ?_
  try simp only [pS, pN, sA, sB, sC]
  first | refine kL 3 hM hK ?_ | refine kM 3 hM hK ?_
  try simp only [pS, pN, sA, sB, sC]
  first | refine kL 4 hM hK ?_ | refine kM 4 hM hK ?_
  try simp only [pS, pN, sA, sB, sC]
  refine vN (i := 2) (jL rfl) (by kernel_rfl) rfl (fun K' hK' => ?_)
  go_wp2_with (first | (go_at_call 32; (with_reducible refine cb hM (DA _) ?_); clear hM; intro W1 hM) | (go_at_call 32; (with_reducible refine cb hM (DB _) ?_); clear hM; intro W1 hM))
  refine hK'.out _ _ (zV hM hK) ?_
  clear hK' K'
  try simp only [pS, pN, sA, sB, sC]
  refine vN (i := 5) (jL rfl) (by kernel_rfl) rfl (fun K' hK' => ?_)
  go_wp2_with (first | (go_at_call 32; (with_reducible refine cb hM (DA _) ?_); clear hM; intro W1 hM) | (go_at_call 32; (with_reducible refine cb hM (DB _) ?_); clear hM; intro W1 hM))
  refine hK'.out _ _ (zV hM hK) ?_
  clear hK' K'
  try simp only [pS, pN, sA, sB, sC]
  refine kP 6 hM hK ?_
  try simp only [pS, pN, sA, sB, sC]
  refine kP 7 hM hK ?_
  try simp only [pS, pN, sA, sB, sC]
  refine qE (by kernel_rfl) ?_
  go_wp2_with (first | (go_at_call 16; (with_reducible refine cb hM (PV0 _) ?_); clear hM; intro W1 hM) | (go_at_call 16; (with_reducible refine cb hM (PV1 _) ?_); clear hM; intro W1 hM) | (go_at_call 16; (with_reducible refine cb hM (PV2 _) ?_); clear hM; intro W1 hM) | (go_at_call 8; (with_reducible refine cb hM (XA _) ?_); clear hM; intro W1 hM) | (go_at_call 8; (with_reducible refine cb hM (XB _) ?_); clear hM; intro W1 hM) | (go_at_call 43; (with_reducible refine (SW _).mono ?_); rintro e W1 ⟨rfl, rfl⟩) | (go_at_call 44; (with_reducible refine (AB _).mono ?_); rintro e W1 ⟨rfl, rfl⟩) | ((with_reducible refine lX ?_); refine mL ?_) | ((with_reducible refine sX ?_); refine mS ?_; clear hM; intro W hM))
  all_goals
   (refine' qR hM rfl rfl Tryz.isAgg47 Tryz.sizeOf47 rfl rfl ?_ ?_ ⟨?_, hM.below⟩; rotate_left 2; (· repeat constructor); (· rfl); (· rfl))
  )
theorem rj (ax ay cx cy bx b_y : Int) (w : World) (v0 v1 v2 v3 v4 e0 : Int) (hR : ([v0, v1, v2, v3, v4], e0) = jh ax ay cx cy bx b_y false) :
 Calls Tryz.prog 76 #[.agg #[.int .i64 ax, .int .i64 ay], .agg #[.int .i64 cx, .int .i64 cy], .agg #[.int .i64 bx, .int .i64 b_y], .int .u8 1] w fun e w' => e = .returned (.tuple #[.agg #[.int .i64 v0, .int .i64 v1, .int .i64 v2, .int .i64 v3, .int .i64 v4], .int .i64 e0]) ∧ Below w.heap.size w w' :=
 YU ax ay cx cy bx b_y 1 false (.inl ⟨rfl, rfl⟩) w v0 v1 v2 v3 v4 e0 hR
theorem rp (ax ay cx cy bx b_y : Int) (w : World) (v0 v1 v2 v3 v4 e0 : Int) (hR : ([v0, v1, v2, v3, v4], e0) = jh ax ay cx cy bx b_y true) :
 Calls Tryz.prog 76 #[.agg #[.int .i64 ax, .int .i64 ay], .agg #[.int .i64 cx, .int .i64 cy], .agg #[.int .i64 bx, .int .i64 b_y], .int .u8 2] w fun e w' => e = .returned (.tuple #[.agg #[.int .i64 v0, .int .i64 v1, .int .i64 v2, .int .i64 v3, .int .i64 v4], .int .i64 e0]) ∧ Below w.heap.size w w' :=
 YU ax ay cx cy bx b_y 2 true (.inr ⟨rfl, rfl⟩) w v0 v1 v2 v3 v4 e0 hR
end Go.Proofs.YteanfgobpjdmnaaGreatDoor
