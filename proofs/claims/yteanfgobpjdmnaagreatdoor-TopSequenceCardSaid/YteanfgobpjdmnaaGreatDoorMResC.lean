/-
  resolve: courses to fixes, intercepts, arcs; for all arguments.
-/
import Derived.Test.YteanfgobpjdmnaaGreatDoorMAroM
import Derived.Test.YteanfgobpjdmnaaGreatDoorMResA
import Derived.Test.YteanfgobpjdmnaaGreatDoorMTurnM
set_option maxRecDepth 100000
set_option maxHeartbeats 16000000
namespace Go.Proofs.YteanfgobpjdmnaaGreatDoor
open Go.RowKit
set_option linter.unusedVariables false
set_option linter.unusedSimpArgs false
theorem zMResC1 {P : Prop} (h : P := by (unfold yF; (try dsimp only); (repeat (first | (refine (if_pos ?_).trans ?_; (· exact zMResC0)) | (refine (if_neg ?_).trans ?_; (· exact zMResC0)))); rfl)) : P := h
theorem zMResC0 {P : Prop} (h : P := by first | omega | (exact jO (by assumption)) | (exact jd (by assumption)) | (simp_all; done) | (simp_all; omega)) : P := h
theorem iB (a b : Int) : qH (zg a b) := by
 rw [jD]
 unfold qH
 omega
theorem fM (fx fy c : Int) (x : En) (hc : 0 ≤ x.crs) (hc2 : x.crs ≤ 129599999) (w : World) :
 Calls Tryz.prog 55 #[.agg #[.int .i64 fx, .int .i64 fy], .int .i64 c, .agg x.cells.toArray] w fun e w' => e = .returned (.tuple #[.agg (yS fx fy c x).1.cells.toArray, .int .i64 (yS fx fy c x).2]) ∧ Below w.heap.size w w' := by
 have hM := qB w
 go_enter Tryz.func55, Tryz.ntmps55
 go_upto_region 15 with (first | (go_at_call 70; (with_reducible refine (jp _ _ _ _ ?_ ?_ _ _ rfl).mono ?_); (· first | assumption | (unfold qH; omega)); (· first | assumption | (unfold qH; omega)); rintro e W1 ⟨rfl, hb⟩; replace hM := qp hM hb; clear hb) | (go_at_call 41; (with_reducible refine cb hM (bo _ _ _ _ _ _ _) ?_); clear hM; intro W1 hM) | (go_at_call 92; (with_reducible refine cb hM (ZO _ _ _ _ _ _ _ _ rfl) ?_); clear hM; intro W1 hM) | (go_at_call 93; (with_reducible refine cb hM (GL _ _ _ _ _ _ _ _ rfl) ?_); clear hM; intro W1 hM) | (go_at_call 25; (with_reducible refine cb hM (vQ _ _ _ _ _ _) ?_); clear hM; intro W1 hM) | ((with_reducible refine lX ?_); refine mL ?_) | ((with_reducible refine sX ?_); refine mS ?_; clear hM; intro W hM) | ((with_reducible refine bX ?_); refine mB ?_; clear hM; intro g W hM) | ((with_reducible refine zX ?_); refine mB ?_; clear hM; intro g W hM))
 all_goals first
  | (refine' qR hM rfl rfl Tryz.isAgg69 Tryz.sizeOf69 rfl rfl ?_ ?_ ⟨?_, hM.below⟩; rotate_left 2; (· repeat constructor); (· rfl); (· refine' zN ?_ ?_; rotate_left 1; (· (unfold yS; (try dsimp only); (repeat (first | (refine (if_pos ?_).trans ?_; (· exact zMResC0)) | (refine (if_neg ?_).trans ?_; (· exact zMResC0)))); rfl)); (· first | rfl | exact congrArg Tk.cells (vH _ _ _ _ _ _))))
  | skip
 all_goals
  refine' bE hM (by kernel_rfl) (.tmp 13) rfl ?_ ?_; rotate_left 1; (· repeat constructor); (clear hM; intro W hM hK hne)
  refine kP 0 hM hK ?_
  try simp only [pS, pN, sA, sB, sC]
  refine kP 1 hM hK ?_
  try simp only [pS, pN, sA, sB, sC]
  first | refine kL 2 hM hK ?_ | refine kM 2 hM hK ?_
  try simp only [pS, pN, sA, sB, sC]
  refine kP 3 hM hK ?_
  try simp only [pS, pN, sA, sB, sC]
  refine kP 4 hM hK ?_
  try simp only [pS, pN, sA, sB, sC]
  first | refine kL 5 hM hK ?_ | refine kM 5 hM hK ?_
  try simp only [pS, pN, sA, sB, sC]
  refine kP 6 hM hK ?_
  try simp only [pS, pN, sA, sB, sC]
  refine' yK hM (i := 7) (jL rfl) (by kernel_rfl) rfl rfl rfl ?_ ?_ ?_ ?_ ?_ ?_ ?_ hK hne ?_; rotate_left 6; (· constructor); (· repeat constructor); (· repeat constructor); (· repeat constructor); (· exact Qu rfl); (· rfl); (· exact jC rfl); (clear hM hK; intro W hM hK)
  try simp only [pS, pN, sA, sB, sC]
  refine kP 8 hM hK ?_
  try simp only [pS, pN, sA, sB, sC]
  refine' yK hM (i := 9) (jL rfl) (by kernel_rfl) rfl rfl rfl ?_ ?_ ?_ ?_ ?_ ?_ ?_ hK hne ?_; rotate_left 6; (· constructor); (· repeat constructor); (· repeat constructor); (· repeat constructor); (· exact Qu rfl); (· rfl); (· exact jC rfl); (clear hM hK; intro W hM hK)
  try simp only [pS, pN, sA, sB, sC]
  refine qE (by kernel_rfl) ?_
  go_wp2_with (first | (go_at_call 70; (with_reducible refine (jp _ _ _ _ ?_ ?_ _ _ rfl).mono ?_); (· first | assumption | (unfold qH; omega)); (· first | assumption | (unfold qH; omega)); rintro e W1 ⟨rfl, hb⟩; replace hM := qp hM hb; clear hb) | (go_at_call 41; (with_reducible refine cb hM (bo _ _ _ _ _ _ _) ?_); clear hM; intro W1 hM) | (go_at_call 92; (with_reducible refine cb hM (ZO _ _ _ _ _ _ _ _ rfl) ?_); clear hM; intro W1 hM) | (go_at_call 93; (with_reducible refine cb hM (GL _ _ _ _ _ _ _ _ rfl) ?_); clear hM; intro W1 hM) | (go_at_call 25; (with_reducible refine cb hM (vQ _ _ _ _ _ _) ?_); clear hM; intro W1 hM) | ((with_reducible refine lX ?_); refine mL ?_) | ((with_reducible refine sX ?_); refine mS ?_; clear hM; intro W hM) | ((with_reducible refine zX ?_); refine mB ?_; clear hM; intro g W hM))
  refine' qR hM rfl rfl Tryz.isAgg69 Tryz.sizeOf69 rfl rfl ?_ ?_ ⟨?_, hM.below⟩
  rotate_left 2
  · repeat constructor
  · rfl
  · refine' zN ?_ ?_; rotate_left 1; (· (unfold yS; (try dsimp only); (repeat (first | (refine (if_pos ?_).trans ?_; (· exact zMResC0)) | (refine (if_neg ?_).trans ?_; (· exact zMResC0)))); rfl)); (· first | rfl | exact congrArg Tk.cells (vH _ _ _ _ _ _))
theorem fN (fx fy : Int) (x y : En) (hc : qH x.crs) (hy : qH y.crs) (ty : 0 ≤ y.ty) (w : World) :
 Calls Tryz.prog 61 #[.agg #[.int .i64 fx, .int .i64 fy], .agg x.cells.toArray, .agg y.cells.toArray] w fun e w' => e = .returned (.tuple #[.agg (yF fx fy x y).1.cells.toArray, .int .i64 (yF fx fy x y).2]) ∧ Below w.heap.size w w' := by
 have hT := iB y.crs 64800000
 have hM := qB w
 go_enter Tryz.func61, Tryz.ntmps61
 go_upto_region 6 with (first | (go_at_call 70; (with_reducible refine (jp _ _ _ _ ?_ ?_ _ _ rfl).mono ?_); (· first | assumption | (unfold qH; omega)); (· first | assumption | (unfold qH; omega)); rintro e W1 ⟨rfl, hb⟩; replace hM := qp hM hb; clear hb) | (go_at_call 95; (with_reducible refine cb hM (xY _ _ _ _ _ _ _ _ _ _ rfl) ?_); clear hM; intro W1 hM) | (go_at_call 96; (with_reducible refine cb hM (bP _ _ _ _ _ _ _) ?_); clear hM; intro W1 hM) | (go_at_call 97; (with_reducible refine cb hM (tK _ _ _ _ _ _) ?_); clear hM; intro W1 hM) | (go_at_call 41; (with_reducible refine cb hM (bo _ _ _ _ _ _ _) ?_); clear hM; intro W1 hM) | (go_at_call 98; (with_reducible refine (jI _ ?_ _).mono ?_); (· first | assumption | (unfold qH; omega)); rintro e W1 ⟨rfl, rfl⟩) | ((with_reducible refine lX ?_); refine mL ?_) | ((with_reducible refine xZ ?_); refine gj (fun hg => ?_) (fun hg => ?_) <;> simp [go_sem, Region.wanted] at hg) | ((with_reducible refine sX ?_); refine mS ?_; clear hM; intro W hM) | ((with_reducible refine bX ?_); refine mB ?_; clear hM; intro g W hM) | ((with_reducible refine zX ?_); refine mB ?_; clear hM; intro g W hM))
 all_goals first
  | (refine' qR hM rfl rfl Tryz.isAgg69 Tryz.sizeOf69 rfl rfl ?_ ?_ ⟨?_, hM.below⟩; rotate_left 2; (· repeat constructor); (· rfl); (· refine' zN ?_ ?_; rotate_left 1; (· exact zMResC1); (· first | rfl | exact congrArg Tk.cells (vH _ _ _ _ _ _))))
  | skip
 refine bF hM (by kernel_rfl) ?_; (clear hM; intro W hM hK)
 refine kP 0 hM hK ?_
 try simp only [pS, pN, sA, sB, sC]
 first | refine kL 1 hM hK ?_ | refine kM 1 hM hK ?_
 try simp only [pS, pN, sA, sB, sC]
 refine kP 2 hM hK ?_
 try simp only [pS, pN, sA, sB, sC]
 refine kP 3 hM hK ?_
 try simp only [pS, pN, sA, sB, sC]
 first | refine kL 4 hM hK ?_ | refine kM 4 hM hK ?_
 try simp only [pS, pN, sA, sB, sC]
 refine Bz (i := 5) (j := 10) (jL rfl) (jL rfl) (by kernel_rfl) rfl rfl (fun K' hK' => ?_) (fun K' hK' => ?_)
 ·
  go_wp2_with (first | (go_at_call 98; (with_reducible refine (jI _ ?_ _).mono ?_); (· first | assumption | (unfold qH; omega)); rintro e W1 ⟨rfl, rfl⟩) | (go_at_call 70; (with_reducible refine (jp _ _ _ _ ?_ ?_ _ _ rfl).mono ?_); (· first | assumption | (unfold qH; omega)); (· first | assumption | (unfold qH; omega)); rintro e W1 ⟨rfl, hb⟩; replace hM := qp hM hb; clear hb))
  refine hK'.out _ _ (zV hM hK) ?_
  clear hK' K'
  try simp only [pS, pN, sA, sB, sC]
  refine Bz (i := 6) (j := 10) (jL rfl) (jL rfl) (by kernel_rfl) rfl rfl (fun K' hK' => ?_) (fun K' hK' => ?_)
  ·
   go_wp2_with (first | (go_at_call 98; (with_reducible refine (jI _ ?_ _).mono ?_); (· first | assumption | (unfold qH; omega)); rintro e W1 ⟨rfl, rfl⟩) | (go_at_call 70; (with_reducible refine (jp _ _ _ _ ?_ ?_ _ _ rfl).mono ?_); (· first | assumption | (unfold qH; omega)); (· first | assumption | (unfold qH; omega)); rintro e W1 ⟨rfl, hb⟩; replace hM := qp hM hb; clear hb))
   refine hK'.out _ _ (zV hM hK) ?_
   clear hK' K'
   try simp only [pS, pN, sA, sB, sC]
   refine kP 7 hM hK ?_
   try simp only [pS, pN, sA, sB, sC]
   refine kP 8 hM hK ?_
   try simp only [pS, pN, sA, sB, sC]
   refine kP 9 hM hK ?_
   try simp only [pS, pN, sA, sB, sC]
   refine vN (i := 10) (jL rfl) (by kernel_rfl) rfl (fun K' hK' => ?_)
   refine' uZ hM rfl ?_ rfl ?_; rotate_left 1; (· exact MH rfl); (have hKo := hK; clear hK hM; intro g W hM; have hne := wU hM hKo; have hK := VF hM hKo; clear hKo)
   refine hK'.out _ _ (zV hM hK) ?_
   clear hK' K'
   try simp only [pS, pN, sA, sB, sC]
   refine' yK hM (i := 11) (jL rfl) (by kernel_rfl) rfl rfl rfl ?_ ?_ ?_ ?_ ?_ ?_ ?_ hK hne ?_; rotate_left 6; (· constructor); (· repeat constructor); (· repeat constructor); (· repeat constructor); (· exact Qu rfl); (· rfl); (· exact jC rfl); (clear hM hK; intro W hM hK)
   try simp only [pS, pN, sA, sB, sC]
   refine kP 12 hM hK ?_
   try simp only [pS, pN, sA, sB, sC]
   refine qE (by kernel_rfl) ?_
   go_wp2_with (first | (go_at_call 70; (with_reducible refine (jp _ _ _ _ ?_ ?_ _ _ rfl).mono ?_); (· first | assumption | (unfold qH; omega)); (· first | assumption | (unfold qH; omega)); rintro e W1 ⟨rfl, hb⟩; replace hM := qp hM hb; clear hb) | (go_at_call 95; (with_reducible refine cb hM (xY _ _ _ _ _ _ _ _ _ _ rfl) ?_); clear hM; intro W1 hM) | (go_at_call 96; (with_reducible refine cb hM (bP _ _ _ _ _ _ _) ?_); clear hM; intro W1 hM) | (go_at_call 97; (with_reducible refine cb hM (tK _ _ _ _ _ _) ?_); clear hM; intro W1 hM) | (go_at_call 41; (with_reducible refine cb hM (bo _ _ _ _ _ _ _) ?_); clear hM; intro W1 hM) | (go_at_call 98; (with_reducible refine (jI _ ?_ _).mono ?_); (· first | assumption | (unfold qH; omega)); rintro e W1 ⟨rfl, rfl⟩) | ((with_reducible refine lX ?_); refine mL ?_) | ((with_reducible refine xZ ?_); refine gj (fun hg => ?_) (fun hg => ?_) <;> simp [go_sem, Region.wanted] at hg) | ((with_reducible refine sX ?_); refine mS ?_; clear hM; intro W hM) | ((with_reducible refine zX ?_); refine mB ?_; clear hM; intro g W hM))
   all_goals
    refine' qR hM rfl rfl Tryz.isAgg69 Tryz.sizeOf69 rfl rfl ?_ ?_ ⟨?_, hM.below⟩
    rotate_left 2
    · repeat constructor
    · rfl
    · refine' zN ?_ ?_; rotate_left 1; (· exact zMResC1); (· first | rfl | exact congrArg Tk.cells (vH _ _ _ _ _ _))
  ·
   refine' uZ hM rfl ?_ rfl ?_; rotate_left 1; (· exact MH rfl); (have hKo := hK; clear hK hM; intro g W hM; have hne := wU hM hKo; have hK := VF hM hKo; clear hKo)
   refine hK'.out _ _ (zV hM hK) ?_
   clear hK' K'
   try simp only [pS, pN, sA, sB, sC]
   refine vN (i := 6) (jL rfl) (by kernel_rfl) rfl (fun K' hK' => ?_)
   go_wp2_with (first | (go_at_call 98; (with_reducible refine (jI _ ?_ _).mono ?_); (· first | assumption | (unfold qH; omega)); rintro e W1 ⟨rfl, rfl⟩) | (go_at_call 70; (with_reducible refine (jp _ _ _ _ ?_ ?_ _ _ rfl).mono ?_); (· first | assumption | (unfold qH; omega)); (· first | assumption | (unfold qH; omega)); rintro e W1 ⟨rfl, hb⟩; replace hM := qp hM hb; clear hb))
   refine hK'.out _ _ (zV hM hK) ?_
   clear hK' K'
   try simp only [pS, pN, sA, sB, sC]
   refine kP 7 hM hK ?_
   try simp only [pS, pN, sA, sB, sC]
   refine kP 8 hM hK ?_
   try simp only [pS, pN, sA, sB, sC]
   refine kP 9 hM hK ?_
   try simp only [pS, pN, sA, sB, sC]
   refine' yK hM (i := 11) (jL rfl) (by kernel_rfl) rfl rfl rfl ?_ ?_ ?_ ?_ ?_ ?_ ?_ hK hne ?_; rotate_left 6; (· constructor); (· repeat constructor); (· repeat constructor); (· repeat constructor); (· exact Qu rfl); (· rfl); (· exact jC rfl); (clear hM hK; intro W hM hK)
   try simp only [pS, pN, sA, sB, sC]
   refine kP 12 hM hK ?_
   try simp only [pS, pN, sA, sB, sC]
   refine qE (by kernel_rfl) ?_
   go_wp2_with (first | (go_at_call 70; (with_reducible refine (jp _ _ _ _ ?_ ?_ _ _ rfl).mono ?_); (· first | assumption | (unfold qH; omega)); (· first | assumption | (unfold qH; omega)); rintro e W1 ⟨rfl, hb⟩; replace hM := qp hM hb; clear hb) | (go_at_call 95; (with_reducible refine cb hM (xY _ _ _ _ _ _ _ _ _ _ rfl) ?_); clear hM; intro W1 hM) | (go_at_call 96; (with_reducible refine cb hM (bP _ _ _ _ _ _ _) ?_); clear hM; intro W1 hM) | (go_at_call 97; (with_reducible refine cb hM (tK _ _ _ _ _ _) ?_); clear hM; intro W1 hM) | (go_at_call 41; (with_reducible refine cb hM (bo _ _ _ _ _ _ _) ?_); clear hM; intro W1 hM) | (go_at_call 98; (with_reducible refine (jI _ ?_ _).mono ?_); (· first | assumption | (unfold qH; omega)); rintro e W1 ⟨rfl, rfl⟩) | ((with_reducible refine lX ?_); refine mL ?_) | ((with_reducible refine xZ ?_); refine gj (fun hg => ?_) (fun hg => ?_) <;> simp [go_sem, Region.wanted] at hg) | ((with_reducible refine sX ?_); refine mS ?_; clear hM; intro W hM) | ((with_reducible refine zX ?_); refine mB ?_; clear hM; intro g W hM))
   all_goals
    refine' qR hM rfl rfl Tryz.isAgg69 Tryz.sizeOf69 rfl rfl ?_ ?_ ⟨?_, hM.below⟩
    rotate_left 2
    · repeat constructor
    · rfl
    · refine' zN ?_ ?_; rotate_left 1; (· exact zMResC1); (· first | rfl | exact congrArg Tk.cells (vH _ _ _ _ _ _))
 ·
  refine' uZ hM rfl ?_ rfl ?_; rotate_left 1; (· exact MH rfl); (have hKo := hK; clear hK hM; intro g W hM; have hne := wU hM hKo; have hK := VF hM hKo; clear hKo)
  refine hK'.out _ _ (zV hM hK) ?_
  clear hK' K'
  try simp only [pS, pN, sA, sB, sC]
  refine vN (i := 5) (jL rfl) (by kernel_rfl) rfl (fun K' hK' => ?_)
  go_wp2_with (first | (go_at_call 98; (with_reducible refine (jI _ ?_ _).mono ?_); (· first | assumption | (unfold qH; omega)); rintro e W1 ⟨rfl, rfl⟩) | (go_at_call 70; (with_reducible refine (jp _ _ _ _ ?_ ?_ _ _ rfl).mono ?_); (· first | assumption | (unfold qH; omega)); (· first | assumption | (unfold qH; omega)); rintro e W1 ⟨rfl, hb⟩; replace hM := qp hM hb; clear hb))
  refine hK'.out _ _ (zV hM hK) ?_
  clear hK' K'
  try simp only [pS, pN, sA, sB, sC]
  refine vN (i := 6) (jL rfl) (by kernel_rfl) rfl (fun K' hK' => ?_)
  go_wp2_with (first | (go_at_call 98; (with_reducible refine (jI _ ?_ _).mono ?_); (· first | assumption | (unfold qH; omega)); rintro e W1 ⟨rfl, rfl⟩) | (go_at_call 70; (with_reducible refine (jp _ _ _ _ ?_ ?_ _ _ rfl).mono ?_); (· first | assumption | (unfold qH; omega)); (· first | assumption | (unfold qH; omega)); rintro e W1 ⟨rfl, hb⟩; replace hM := qp hM hb; clear hb))
  refine hK'.out _ _ (zV hM hK) ?_
  clear hK' K'
  try simp only [pS, pN, sA, sB, sC]
  refine kP 7 hM hK ?_
  try simp only [pS, pN, sA, sB, sC]
  refine kP 8 hM hK ?_
  try simp only [pS, pN, sA, sB, sC]
  refine kP 9 hM hK ?_
  try simp only [pS, pN, sA, sB, sC]
  refine' yK hM (i := 11) (jL rfl) (by kernel_rfl) rfl rfl rfl ?_ ?_ ?_ ?_ ?_ ?_ ?_ hK hne ?_; rotate_left 6; (· constructor); (· repeat constructor); (· repeat constructor); (· repeat constructor); (· exact Qu rfl); (· rfl); (· exact jC rfl); (clear hM hK; intro W hM hK)
  try simp only [pS, pN, sA, sB, sC]
  refine kP 12 hM hK ?_
  try simp only [pS, pN, sA, sB, sC]
  refine qE (by kernel_rfl) ?_
  go_wp2_with (first | (go_at_call 70; (with_reducible refine (jp _ _ _ _ ?_ ?_ _ _ rfl).mono ?_); (· first | assumption | (unfold qH; omega)); (· first | assumption | (unfold qH; omega)); rintro e W1 ⟨rfl, hb⟩; replace hM := qp hM hb; clear hb) | (go_at_call 95; (with_reducible refine cb hM (xY _ _ _ _ _ _ _ _ _ _ rfl) ?_); clear hM; intro W1 hM) | (go_at_call 96; (with_reducible refine cb hM (bP _ _ _ _ _ _ _) ?_); clear hM; intro W1 hM) | (go_at_call 97; (with_reducible refine cb hM (tK _ _ _ _ _ _) ?_); clear hM; intro W1 hM) | (go_at_call 41; (with_reducible refine cb hM (bo _ _ _ _ _ _ _) ?_); clear hM; intro W1 hM) | (go_at_call 98; (with_reducible refine (jI _ ?_ _).mono ?_); (· first | assumption | (unfold qH; omega)); rintro e W1 ⟨rfl, rfl⟩) | ((with_reducible refine lX ?_); refine mL ?_) | ((with_reducible refine xZ ?_); refine gj (fun hg => ?_) (fun hg => ?_) <;> simp [go_sem, Region.wanted] at hg) | ((with_reducible refine sX ?_); refine mS ?_; clear hM; intro W hM) | ((with_reducible refine zX ?_); refine mB ?_; clear hM; intro g W hM))
  all_goals
   refine' qR hM rfl rfl Tryz.isAgg69 Tryz.sizeOf69 rfl rfl ?_ ?_ ⟨?_, hM.below⟩
   rotate_left 2
   · repeat constructor
   · rfl
   · refine' zN ?_ ?_; rotate_left 1; (· exact zMResC1); (· first | rfl | exact congrArg Tk.cells (vH _ _ _ _ _ _))
theorem Ka (fx fy : Int) (x : En) (ht : x.tn = 1 ∨ x.tn = 2) (hr : 0 ≤ x.rad) (hr2 : x.rad ≤ 2000000) (w : World) :
 Calls Tryz.prog 56 #[.agg #[.int .i64 fx, .int .i64 fy], .agg x.cells.toArray] w fun e w' => e = .returned (.tuple #[.agg (jP fx fy x).1.cells.toArray, .int .i64 (jP fx fy x).2]) ∧ Below w.heap.size w w' := by
 obtain ⟨v0, v1, v2, v3, v4, e0, hF, hb0, hb1⟩ := Yl fx fy x.mx x.my x.ex x.ey (decide (x.tn = 2))
 have HF := hide hF
 have HT : Hid (jP fx fy x = if e0 ≠ 0 then (Tk.zero, e0) else if v2 - x.rad > 60 ∨ v2 - x.rad < -60 then (Tk.zero, 10) else
  if (qI v0 v1 v2 v3 v4 0).2.2.2 ≠ 0 then (Tk.zero, (qI v0 v1 v2 v3 v4 0).2.2.2) else
  if (qI v0 v1 v2 v3 v4 (qA v0 v1 v2 v3 v4)).2.2.2 ≠ 0 then (Tk.zero, (qI v0 v1 v2 v3 v4 (qA v0 v1 v2 v3 v4)).2.2.2) else
  (⟨2, fx, fy, x.ex, x.ey, v0, v1, v2, v3, v4, (qI v0 v1 v2 v3 v4 0).2.2.1, (qI v0 v1 v2 v3 v4 (qA v0 v1 v2 v3 v4)).2.2.1, qA v0 v1 v2 v3 v4, 0, false⟩, 0)) := hide (by unfold jP; rw [hF])
 clear hF
 rcases ht with htn | htn
 · have htq := hide htn
   have AR := fun W => rj fx fy x.mx x.my x.ex x.ey W v0 v1 v2 v3 v4 e0 (by rw [← HF.out, htn]; rfl)
   have hM := qB w
   go_enter Tryz.func56, Tryz.ntmps56
   go_wp2_with (first | (go_at_call 76; (with_reducible refine cb hM (AR _) ?_); clear hM; intro W1 hM) | (go_at_call 78; (with_reducible refine cb hM (bS _ _ _ _ _ _ _ _ rfl) ?_); clear hM; intro W1 hM) | (go_at_call 33; (with_reducible refine cb hM (bR _ _ _ _ _ _) ?_); clear hM; intro W1 hM) | (go_at_call 44; (with_reducible refine (kr _ ?_ ?_ _).mono ?_); (· (unfold qH; omega)); (· omega); rintro e W1 ⟨rfl, rfl⟩) | ((with_reducible refine lX ?_); refine mL ?_) | ((with_reducible refine sX ?_); refine mS ?_; clear hM; intro W hM) | ((with_reducible refine bX ?_); refine mB ?_; clear hM; intro g W hM) | ((with_reducible refine zX ?_); refine mB ?_; clear hM; intro g W hM))
   all_goals
    refine' qR hM rfl rfl Tryz.isAgg69 Tryz.sizeOf69 rfl rfl ?_ ?_ ⟨?_, hM.below⟩
    rotate_left 2
    · repeat constructor
    · rfl
    · refine' zN ?_ ?_; rotate_left 1; (· (rw [HT.out]; (repeat (first | (refine (if_pos ?_).trans ?_; (· exact zMResC0)) | (refine (if_neg ?_).trans ?_; (· exact zMResC0)))); rfl)); (· rfl)
 · have htq := hide htn
   have AR := fun W => rp fx fy x.mx x.my x.ex x.ey W v0 v1 v2 v3 v4 e0 (by rw [← HF.out, htn]; rfl)
   have hM := qB w
   go_enter Tryz.func56, Tryz.ntmps56
   go_wp2_with (first | (go_at_call 76; (with_reducible refine cb hM (AR _) ?_); clear hM; intro W1 hM) | (go_at_call 78; (with_reducible refine cb hM (bS _ _ _ _ _ _ _ _ rfl) ?_); clear hM; intro W1 hM) | (go_at_call 33; (with_reducible refine cb hM (bR _ _ _ _ _ _) ?_); clear hM; intro W1 hM) | (go_at_call 44; (with_reducible refine (kr _ ?_ ?_ _).mono ?_); (· (unfold qH; omega)); (· omega); rintro e W1 ⟨rfl, rfl⟩) | ((with_reducible refine lX ?_); refine mL ?_) | ((with_reducible refine sX ?_); refine mS ?_; clear hM; intro W hM) | ((with_reducible refine bX ?_); refine mB ?_; clear hM; intro g W hM) | ((with_reducible refine zX ?_); refine mB ?_; clear hM; intro g W hM))
   all_goals
    refine' qR hM rfl rfl Tryz.isAgg69 Tryz.sizeOf69 rfl rfl ?_ ?_ ⟨?_, hM.below⟩
    rotate_left 2
    · repeat constructor
    · rfl
    · refine' zN ?_ ?_; rotate_left 1; (· (rw [HT.out]; (repeat (first | (refine (if_pos ?_).trans ?_; (· exact zMResC0)) | (refine (if_neg ?_).trans ?_; (· exact zMResC0)))); rfl)); (· rfl)
end Go.Proofs.YteanfgobpjdmnaaGreatDoor
