/-
  resolve: courses to fixes, intercepts, arcs; for all arguments.
-/
import Derived.Test.YtbhpklpkcgcmfaaGreatDoorMAroM
import Derived.Test.YtbhpklpkcgcmfaaGreatDoorMResA
import Derived.Test.YtbhpklpkcgcmfaaGreatDoorMTurnA
set_option maxRecDepth 100000
set_option maxHeartbeats 16000000
namespace Go.Proofs.YtbhpklpkcgcmfaaGreatDoor
open Go.RowKit
set_option linter.unusedVariables false
set_option linter.unusedSimpArgs false
theorem turn_i64 (a b : Int) : I64 (turnF a b) := by
 rw [turnF_eq]
 unfold I64
 omega
theorem tofix_any (fx fy c : Int) (x : En) (hc : 0 ≤ x.crs) (hc2 : x.crs ≤ 129599999) (w : World) :
 Calls Tryz.prog 106 #[.agg #[.int .i64 fx, .int .i64 fy], .int .i64 c, .agg x.cells.toArray] w fun e w' => e = .returned (.tuple #[.agg (toFixT fx fy c x).1.cells.toArray, .int .i64 (toFixT fx fy c x).2]) ∧ Below w.heap.size w w' := by
 have hM := mem_nil w
 go_enter Tryz.func106, Tryz.ntmps106
 go_upto_region 15 with (first | (go_at_call 71; (with_reducible refine (ray_any _ _ _ _ ?_ ?_ _ _ rfl).mono ?_); (· first | assumption | (unfold I64; omega)); (· first | assumption | (unfold I64; omega)); rintro e W1 ⟨rfl, hb⟩; replace hM := mem_below hM hb; clear hb) | (go_at_call 98; (with_reducible refine cb hM (ahead_any _ _ _ _ _ _ _) ?_); clear hM; intro W1 hM) | (go_at_call 19; (with_reducible refine cb hM (off_any _ _ _ _ _ _ _ _ rfl) ?_); clear hM; intro W1 hM) | (go_at_call 180; (with_reducible refine cb hM (foot_any _ _ _ _ _ _ _ _ rfl) ?_); clear hM; intro W1 hM) | (go_at_call 52; (with_reducible refine cb hM (straight_any _ _ _ _ _ _) ?_); clear hM; intro W1 hM) | ((with_reducible refine lX ?_); first | refine aL hM rfl rfl ?_ | refine aM hM rfl rfl ?_) | ((with_reducible refine sX ?_); refine aS hM rfl rfl rfl ?_; clear hM; intro W hM) | ((with_reducible refine bX ?_); refine aB hM rfl rfl ?_; clear hM; intro g W hM) | ((with_reducible refine zX ?_); refine aN hM rfl rfl ?_; clear hM; intro g W hM))
 all_goals first
  | (refine' end_m2 hM rfl rfl Tryz.isAgg77 Tryz.sizeOf77 rfl rfl ?_ ?_ ⟨?_, hM.below⟩; rotate_left 2; (· repeat constructor); (· rfl); (· refine' ret_tk ?_ ?_; rotate_left 1; (· (unfold toFixT; (try dsimp only); (repeat (first | (refine (if_pos ?_).trans ?_; (· first | omega | (exact bne_t (by assumption)) | (exact bne_f (by assumption)) | (simp_all; done) | (simp_all; omega))) | (refine (if_neg ?_).trans ?_; (· first | omega | (exact bne_t (by assumption)) | (exact bne_f (by assumption)) | (simp_all; done) | (simp_all; omega))))); rfl)); (· first | rfl | exact congrArg Tk.cells (straight_co _ _ _ _ _ _))))
  | skip
 all_goals
  refine' region_del hM (by kernel_rfl) (.tmp 13) rfl ?_ ?_; rotate_left 1; (· repeat constructor); (clear hM; intro W hM hK hne)
  refine kP 0 hM hK ?_
  try simp only [pS, pN, sA, sB, sC]
  refine kP 1 hM hK ?_
  try simp only [pS, pN, sA, sB, sC]
  first | refine kL 2 hM hK ?_ | refine kM 2 hM hK ?_
  try simp only [pS, pN, sA, sB, sC]
  refine kP 3 hM hK ?_
  try simp only [pS, pN, sA, sB, sC]
  refine kP 4 hM hK ?_
  try simp only [pS, pN, sA, sB, sC]
  first | refine kL 5 hM hK ?_ | refine kM 5 hM hK ?_
  try simp only [pS, pN, sA, sB, sC]
  refine kP 6 hM hK ?_
  try simp only [pS, pN, sA, sB, sC]
  refine' tk_store hM (i := 7) (nthQ rfl) (by kernel_rfl) rfl rfl rfl ?_ ?_ ?_ ?_ ?_ ?_ ?_ hK hne ?_; rotate_left 6; (· constructor); (· repeat constructor); (· repeat constructor); (· repeat constructor); (· exact szT rfl); (· rfl); (· exact onecells rfl); (clear hM hK; intro W hM hK)
  try simp only [pS, pN, sA, sB, sC]
  refine kP 8 hM hK ?_
  try simp only [pS, pN, sA, sB, sC]
  refine' tk_store hM (i := 9) (nthQ rfl) (by kernel_rfl) rfl rfl rfl ?_ ?_ ?_ ?_ ?_ ?_ ?_ hK hne ?_; rotate_left 6; (· constructor); (· repeat constructor); (· repeat constructor); (· repeat constructor); (· exact szT rfl); (· rfl); (· exact onecells rfl); (clear hM hK; intro W hM hK)
  try simp only [pS, pN, sA, sB, sC]
  refine tk_done (by kernel_rfl) ?_
  go_wp2_with (first | (go_at_call 71; (with_reducible refine (ray_any _ _ _ _ ?_ ?_ _ _ rfl).mono ?_); (· first | assumption | (unfold I64; omega)); (· first | assumption | (unfold I64; omega)); rintro e W1 ⟨rfl, hb⟩; replace hM := mem_below hM hb; clear hb) | (go_at_call 98; (with_reducible refine cb hM (ahead_any _ _ _ _ _ _ _) ?_); clear hM; intro W1 hM) | (go_at_call 19; (with_reducible refine cb hM (off_any _ _ _ _ _ _ _ _ rfl) ?_); clear hM; intro W1 hM) | (go_at_call 180; (with_reducible refine cb hM (foot_any _ _ _ _ _ _ _ _ rfl) ?_); clear hM; intro W1 hM) | (go_at_call 52; (with_reducible refine cb hM (straight_any _ _ _ _ _ _) ?_); clear hM; intro W1 hM) | ((with_reducible refine lX ?_); first | refine aL hM rfl rfl ?_ | refine aM hM rfl rfl ?_) | ((with_reducible refine sX ?_); refine aS hM rfl rfl rfl ?_; clear hM; intro W hM) | ((with_reducible refine bX ?_); refine aB hM rfl rfl ?_; clear hM; intro g W hM) | ((with_reducible refine zX ?_); refine aN hM rfl rfl ?_; clear hM; intro g W hM))
  refine' end_m2 hM rfl rfl Tryz.isAgg77 Tryz.sizeOf77 rfl rfl ?_ ?_ ⟨?_, hM.below⟩
  rotate_left 2
  · repeat constructor
  · rfl
  · refine' ret_tk ?_ ?_; rotate_left 1; (· (unfold toFixT; (try dsimp only); (repeat (first | (refine (if_pos ?_).trans ?_; (· first | omega | (exact bne_t (by assumption)) | (exact bne_f (by assumption)) | (simp_all; done) | (simp_all; omega))) | (refine (if_neg ?_).trans ?_; (· first | omega | (exact bne_t (by assumption)) | (exact bne_f (by assumption)) | (simp_all; done) | (simp_all; omega))))); rfl)); (· first | rfl | exact congrArg Tk.cells (straight_co _ _ _ _ _ _))
theorem inter_any (fx fy : Int) (x y : En) (hc : I64 x.crs) (hy : I64 y.crs) (ty : 0 ≤ y.ty) (w : World) :
 Calls Tryz.prog 112 #[.agg #[.int .i64 fx, .int .i64 fy], .agg x.cells.toArray, .agg y.cells.toArray] w fun e w' => e = .returned (.tuple #[.agg (interT fx fy x y).1.cells.toArray, .int .i64 (interT fx fy x y).2]) ∧ Below w.heap.size w w' := by
 have hT := turn_i64 y.crs 64800000
 have hM := mem_nil w
 go_enter Tryz.func112, Tryz.ntmps112
 go_upto_region 6 with (first | (go_at_call 71; (with_reducible refine (ray_any _ _ _ _ ?_ ?_ _ _ rfl).mono ?_); (· first | assumption | (unfold I64; omega)); (· first | assumption | (unfold I64; omega)); rintro e W1 ⟨rfl, hb⟩; replace hM := mem_below hM hb; clear hb) | (go_at_call 182; (with_reducible refine cb hM (meet_any _ _ _ _ _ _ _ _ _ _ rfl) ?_); clear hM; intro W1 hM) | (go_at_call 183; (with_reducible refine cb hM (before_any _ _ _ _ _ _ _) ?_); clear hM; intro W1 hM) | (go_at_call 184; (with_reducible refine cb hM (until_any _ _ _ _ _ _) ?_); clear hM; intro W1 hM) | (go_at_call 98; (with_reducible refine cb hM (ahead_any _ _ _ _ _ _ _) ?_); clear hM; intro W1 hM) | (go_at_call 185; (with_reducible refine (opposite_any _ ?_ _).mono ?_); (· first | assumption | (unfold I64; omega)); rintro e W1 ⟨rfl, rfl⟩) | ((with_reducible refine lX ?_); first | refine aL hM rfl rfl ?_ | refine aM hM rfl rfl ?_) | ((with_reducible refine at_ldg ?_); refine mg_case (fun hg => ?_) (fun hg => ?_) <;> simp [go_sem, Region.wanted] at hg) | ((with_reducible refine sX ?_); refine aS hM rfl rfl rfl ?_; clear hM; intro W hM) | ((with_reducible refine bX ?_); refine aB hM rfl rfl ?_; clear hM; intro g W hM) | ((with_reducible refine zX ?_); refine aN hM rfl rfl ?_; clear hM; intro g W hM))
 all_goals first
  | (refine' end_m2 hM rfl rfl Tryz.isAgg77 Tryz.sizeOf77 rfl rfl ?_ ?_ ⟨?_, hM.below⟩; rotate_left 2; (· repeat constructor); (· rfl); (· refine' ret_tk ?_ ?_; rotate_left 1; (· (unfold interT; (try dsimp only); (repeat (first | (refine (if_pos ?_).trans ?_; (· first | omega | (exact bne_t (by assumption)) | (exact bne_f (by assumption)) | (simp_all; done) | (simp_all; omega))) | (refine (if_neg ?_).trans ?_; (· first | omega | (exact bne_t (by assumption)) | (exact bne_f (by assumption)) | (simp_all; done) | (simp_all; omega))))); rfl)); (· first | rfl | exact congrArg Tk.cells (straight_co _ _ _ _ _ _))))
  | skip
 refine region_all hM (by kernel_rfl) ?_; (clear hM; intro W hM hK)
 refine kP 0 hM hK ?_
 try simp only [pS, pN, sA, sB, sC]
 first | refine kL 1 hM hK ?_ | refine kM 1 hM hK ?_
 try simp only [pS, pN, sA, sB, sC]
 refine kP 2 hM hK ?_
 try simp only [pS, pN, sA, sB, sC]
 refine kP 3 hM hK ?_
 try simp only [pS, pN, sA, sB, sC]
 first | refine kL 4 hM hK ?_ | refine kM 4 hM hK ?_
 try simp only [pS, pN, sA, sB, sC]
 refine tk_two (i := 5) (j := 10) (nthQ rfl) (nthQ rfl) (by kernel_rfl) rfl rfl (fun K' hK' => ?_) (fun K' hK' => ?_)
 ·
  go_wp2_with (first | (go_at_call 185; (with_reducible refine (opposite_any _ ?_ _).mono ?_); (· first | assumption | (unfold I64; omega)); rintro e W1 ⟨rfl, rfl⟩) | (go_at_call 71; (with_reducible refine (ray_any _ _ _ _ ?_ ?_ _ _ rfl).mono ?_); (· first | assumption | (unfold I64; omega)); (· first | assumption | (unfold I64; omega)); rintro e W1 ⟨rfl, hb⟩; replace hM := mem_below hM hb; clear hb))
  refine hK'.out _ _ (held_of hM hK) ?_
  clear hK' K'
  try simp only [pS, pN, sA, sB, sC]
  refine tk_two (i := 6) (j := 10) (nthQ rfl) (nthQ rfl) (by kernel_rfl) rfl rfl (fun K' hK' => ?_) (fun K' hK' => ?_)
  ·
   go_wp2_with (first | (go_at_call 185; (with_reducible refine (opposite_any _ ?_ _).mono ?_); (· first | assumption | (unfold I64; omega)); rintro e W1 ⟨rfl, rfl⟩) | (go_at_call 71; (with_reducible refine (ray_any _ _ _ _ ?_ ?_ _ _ rfl).mono ?_); (· first | assumption | (unfold I64; omega)); (· first | assumption | (unfold I64; omega)); rintro e W1 ⟨rfl, hb⟩; replace hM := mem_below hM hb; clear hb))
   refine hK'.out _ _ (held_of hM hK) ?_
   clear hK' K'
   try simp only [pS, pN, sA, sB, sC]
   refine kP 7 hM hK ?_
   try simp only [pS, pN, sA, sB, sC]
   refine kP 8 hM hK ?_
   try simp only [pS, pN, sA, sB, sC]
   refine kP 9 hM hK ?_
   try simp only [pS, pN, sA, sB, sC]
   refine tk_call (i := 10) (nthQ rfl) (by kernel_rfl) rfl (fun K' hK' => ?_)
   refine' wp_alloc_mem hM rfl ?_ rfl ?_; rotate_left 1; (· exact zoT rfl); (have hKo := hK; clear hK hM; intro g W hM; have hne := new_ne hM hKo; have hK := keep_new hM hKo; clear hKo)
   refine hK'.out _ _ (held_of hM hK) ?_
   clear hK' K'
   try simp only [pS, pN, sA, sB, sC]
   refine' tk_store hM (i := 11) (nthQ rfl) (by kernel_rfl) rfl rfl rfl ?_ ?_ ?_ ?_ ?_ ?_ ?_ hK hne ?_; rotate_left 6; (· constructor); (· repeat constructor); (· repeat constructor); (· repeat constructor); (· exact szT rfl); (· rfl); (· exact onecells rfl); (clear hM hK; intro W hM hK)
   try simp only [pS, pN, sA, sB, sC]
   refine kP 12 hM hK ?_
   try simp only [pS, pN, sA, sB, sC]
   refine tk_done (by kernel_rfl) ?_
   go_wp2_with (first | (go_at_call 71; (with_reducible refine (ray_any _ _ _ _ ?_ ?_ _ _ rfl).mono ?_); (· first | assumption | (unfold I64; omega)); (· first | assumption | (unfold I64; omega)); rintro e W1 ⟨rfl, hb⟩; replace hM := mem_below hM hb; clear hb) | (go_at_call 182; (with_reducible refine cb hM (meet_any _ _ _ _ _ _ _ _ _ _ rfl) ?_); clear hM; intro W1 hM) | (go_at_call 183; (with_reducible refine cb hM (before_any _ _ _ _ _ _ _) ?_); clear hM; intro W1 hM) | (go_at_call 184; (with_reducible refine cb hM (until_any _ _ _ _ _ _) ?_); clear hM; intro W1 hM) | (go_at_call 98; (with_reducible refine cb hM (ahead_any _ _ _ _ _ _ _) ?_); clear hM; intro W1 hM) | (go_at_call 185; (with_reducible refine (opposite_any _ ?_ _).mono ?_); (· first | assumption | (unfold I64; omega)); rintro e W1 ⟨rfl, rfl⟩) | ((with_reducible refine lX ?_); first | refine aL hM rfl rfl ?_ | refine aM hM rfl rfl ?_) | ((with_reducible refine at_ldg ?_); refine mg_case (fun hg => ?_) (fun hg => ?_) <;> simp [go_sem, Region.wanted] at hg) | ((with_reducible refine sX ?_); refine aS hM rfl rfl rfl ?_; clear hM; intro W hM) | ((with_reducible refine bX ?_); refine aB hM rfl rfl ?_; clear hM; intro g W hM) | ((with_reducible refine zX ?_); refine aN hM rfl rfl ?_; clear hM; intro g W hM))
   all_goals
    refine' end_m2 hM rfl rfl Tryz.isAgg77 Tryz.sizeOf77 rfl rfl ?_ ?_ ⟨?_, hM.below⟩
    rotate_left 2
    · repeat constructor
    · rfl
    · refine' ret_tk ?_ ?_; rotate_left 1; (· (unfold interT; (try dsimp only); (repeat (first | (refine (if_pos ?_).trans ?_; (· first | omega | (exact bne_t (by assumption)) | (exact bne_f (by assumption)) | (simp_all; done) | (simp_all; omega))) | (refine (if_neg ?_).trans ?_; (· first | omega | (exact bne_t (by assumption)) | (exact bne_f (by assumption)) | (simp_all; done) | (simp_all; omega))))); rfl)); (· first | rfl | exact congrArg Tk.cells (straight_co _ _ _ _ _ _))
  ·
   refine' wp_alloc_mem hM rfl ?_ rfl ?_; rotate_left 1; (· exact zoT rfl); (have hKo := hK; clear hK hM; intro g W hM; have hne := new_ne hM hKo; have hK := keep_new hM hKo; clear hKo)
   refine hK'.out _ _ (held_of hM hK) ?_
   clear hK' K'
   try simp only [pS, pN, sA, sB, sC]
   refine tk_call (i := 6) (nthQ rfl) (by kernel_rfl) rfl (fun K' hK' => ?_)
   go_wp2_with (first | (go_at_call 185; (with_reducible refine (opposite_any _ ?_ _).mono ?_); (· first | assumption | (unfold I64; omega)); rintro e W1 ⟨rfl, rfl⟩) | (go_at_call 71; (with_reducible refine (ray_any _ _ _ _ ?_ ?_ _ _ rfl).mono ?_); (· first | assumption | (unfold I64; omega)); (· first | assumption | (unfold I64; omega)); rintro e W1 ⟨rfl, hb⟩; replace hM := mem_below hM hb; clear hb))
   refine hK'.out _ _ (held_of hM hK) ?_
   clear hK' K'
   try simp only [pS, pN, sA, sB, sC]
   refine kP 7 hM hK ?_
   try simp only [pS, pN, sA, sB, sC]
   refine kP 8 hM hK ?_
   try simp only [pS, pN, sA, sB, sC]
   refine kP 9 hM hK ?_
   try simp only [pS, pN, sA, sB, sC]
   refine' tk_store hM (i := 11) (nthQ rfl) (by kernel_rfl) rfl rfl rfl ?_ ?_ ?_ ?_ ?_ ?_ ?_ hK hne ?_; rotate_left 6; (· constructor); (· repeat constructor); (· repeat constructor); (· repeat constructor); (· exact szT rfl); (· rfl); (· exact onecells rfl); (clear hM hK; intro W hM hK)
   try simp only [pS, pN, sA, sB, sC]
   refine kP 12 hM hK ?_
   try simp only [pS, pN, sA, sB, sC]
   refine tk_done (by kernel_rfl) ?_
   go_wp2_with (first | (go_at_call 71; (with_reducible refine (ray_any _ _ _ _ ?_ ?_ _ _ rfl).mono ?_); (· first | assumption | (unfold I64; omega)); (· first | assumption | (unfold I64; omega)); rintro e W1 ⟨rfl, hb⟩; replace hM := mem_below hM hb; clear hb) | (go_at_call 182; (with_reducible refine cb hM (meet_any _ _ _ _ _ _ _ _ _ _ rfl) ?_); clear hM; intro W1 hM) | (go_at_call 183; (with_reducible refine cb hM (before_any _ _ _ _ _ _ _) ?_); clear hM; intro W1 hM) | (go_at_call 184; (with_reducible refine cb hM (until_any _ _ _ _ _ _) ?_); clear hM; intro W1 hM) | (go_at_call 98; (with_reducible refine cb hM (ahead_any _ _ _ _ _ _ _) ?_); clear hM; intro W1 hM) | (go_at_call 185; (with_reducible refine (opposite_any _ ?_ _).mono ?_); (· first | assumption | (unfold I64; omega)); rintro e W1 ⟨rfl, rfl⟩) | ((with_reducible refine lX ?_); first | refine aL hM rfl rfl ?_ | refine aM hM rfl rfl ?_) | ((with_reducible refine at_ldg ?_); refine mg_case (fun hg => ?_) (fun hg => ?_) <;> simp [go_sem, Region.wanted] at hg) | ((with_reducible refine sX ?_); refine aS hM rfl rfl rfl ?_; clear hM; intro W hM) | ((with_reducible refine bX ?_); refine aB hM rfl rfl ?_; clear hM; intro g W hM) | ((with_reducible refine zX ?_); refine aN hM rfl rfl ?_; clear hM; intro g W hM))
   all_goals
    refine' end_m2 hM rfl rfl Tryz.isAgg77 Tryz.sizeOf77 rfl rfl ?_ ?_ ⟨?_, hM.below⟩
    rotate_left 2
    · repeat constructor
    · rfl
    · refine' ret_tk ?_ ?_; rotate_left 1; (· (unfold interT; (try dsimp only); (repeat (first | (refine (if_pos ?_).trans ?_; (· first | omega | (exact bne_t (by assumption)) | (exact bne_f (by assumption)) | (simp_all; done) | (simp_all; omega))) | (refine (if_neg ?_).trans ?_; (· first | omega | (exact bne_t (by assumption)) | (exact bne_f (by assumption)) | (simp_all; done) | (simp_all; omega))))); rfl)); (· first | rfl | exact congrArg Tk.cells (straight_co _ _ _ _ _ _))
 ·
  refine' wp_alloc_mem hM rfl ?_ rfl ?_; rotate_left 1; (· exact zoT rfl); (have hKo := hK; clear hK hM; intro g W hM; have hne := new_ne hM hKo; have hK := keep_new hM hKo; clear hKo)
  refine hK'.out _ _ (held_of hM hK) ?_
  clear hK' K'
  try simp only [pS, pN, sA, sB, sC]
  refine tk_call (i := 5) (nthQ rfl) (by kernel_rfl) rfl (fun K' hK' => ?_)
  go_wp2_with (first | (go_at_call 185; (with_reducible refine (opposite_any _ ?_ _).mono ?_); (· first | assumption | (unfold I64; omega)); rintro e W1 ⟨rfl, rfl⟩) | (go_at_call 71; (with_reducible refine (ray_any _ _ _ _ ?_ ?_ _ _ rfl).mono ?_); (· first | assumption | (unfold I64; omega)); (· first | assumption | (unfold I64; omega)); rintro e W1 ⟨rfl, hb⟩; replace hM := mem_below hM hb; clear hb))
  refine hK'.out _ _ (held_of hM hK) ?_
  clear hK' K'
  try simp only [pS, pN, sA, sB, sC]
  refine tk_call (i := 6) (nthQ rfl) (by kernel_rfl) rfl (fun K' hK' => ?_)
  go_wp2_with (first | (go_at_call 185; (with_reducible refine (opposite_any _ ?_ _).mono ?_); (· first | assumption | (unfold I64; omega)); rintro e W1 ⟨rfl, rfl⟩) | (go_at_call 71; (with_reducible refine (ray_any _ _ _ _ ?_ ?_ _ _ rfl).mono ?_); (· first | assumption | (unfold I64; omega)); (· first | assumption | (unfold I64; omega)); rintro e W1 ⟨rfl, hb⟩; replace hM := mem_below hM hb; clear hb))
  refine hK'.out _ _ (held_of hM hK) ?_
  clear hK' K'
  try simp only [pS, pN, sA, sB, sC]
  refine kP 7 hM hK ?_
  try simp only [pS, pN, sA, sB, sC]
  refine kP 8 hM hK ?_
  try simp only [pS, pN, sA, sB, sC]
  refine kP 9 hM hK ?_
  try simp only [pS, pN, sA, sB, sC]
  refine' tk_store hM (i := 11) (nthQ rfl) (by kernel_rfl) rfl rfl rfl ?_ ?_ ?_ ?_ ?_ ?_ ?_ hK hne ?_; rotate_left 6; (· constructor); (· repeat constructor); (· repeat constructor); (· repeat constructor); (· exact szT rfl); (· rfl); (· exact onecells rfl); (clear hM hK; intro W hM hK)
  try simp only [pS, pN, sA, sB, sC]
  refine kP 12 hM hK ?_
  try simp only [pS, pN, sA, sB, sC]
  refine tk_done (by kernel_rfl) ?_
  go_wp2_with (first | (go_at_call 71; (with_reducible refine (ray_any _ _ _ _ ?_ ?_ _ _ rfl).mono ?_); (· first | assumption | (unfold I64; omega)); (· first | assumption | (unfold I64; omega)); rintro e W1 ⟨rfl, hb⟩; replace hM := mem_below hM hb; clear hb) | (go_at_call 182; (with_reducible refine cb hM (meet_any _ _ _ _ _ _ _ _ _ _ rfl) ?_); clear hM; intro W1 hM) | (go_at_call 183; (with_reducible refine cb hM (before_any _ _ _ _ _ _ _) ?_); clear hM; intro W1 hM) | (go_at_call 184; (with_reducible refine cb hM (until_any _ _ _ _ _ _) ?_); clear hM; intro W1 hM) | (go_at_call 98; (with_reducible refine cb hM (ahead_any _ _ _ _ _ _ _) ?_); clear hM; intro W1 hM) | (go_at_call 185; (with_reducible refine (opposite_any _ ?_ _).mono ?_); (· first | assumption | (unfold I64; omega)); rintro e W1 ⟨rfl, rfl⟩) | ((with_reducible refine lX ?_); first | refine aL hM rfl rfl ?_ | refine aM hM rfl rfl ?_) | ((with_reducible refine at_ldg ?_); refine mg_case (fun hg => ?_) (fun hg => ?_) <;> simp [go_sem, Region.wanted] at hg) | ((with_reducible refine sX ?_); refine aS hM rfl rfl rfl ?_; clear hM; intro W hM) | ((with_reducible refine bX ?_); refine aB hM rfl rfl ?_; clear hM; intro g W hM) | ((with_reducible refine zX ?_); refine aN hM rfl rfl ?_; clear hM; intro g W hM))
  all_goals
   refine' end_m2 hM rfl rfl Tryz.isAgg77 Tryz.sizeOf77 rfl rfl ?_ ?_ ⟨?_, hM.below⟩
   rotate_left 2
   · repeat constructor
   · rfl
   · refine' ret_tk ?_ ?_; rotate_left 1; (· (unfold interT; (try dsimp only); (repeat (first | (refine (if_pos ?_).trans ?_; (· first | omega | (exact bne_t (by assumption)) | (exact bne_f (by assumption)) | (simp_all; done) | (simp_all; omega))) | (refine (if_neg ?_).trans ?_; (· first | omega | (exact bne_t (by assumption)) | (exact bne_f (by assumption)) | (simp_all; done) | (simp_all; omega))))); rfl)); (· first | rfl | exact congrArg Tk.cells (straight_co _ _ _ _ _ _))
theorem around_any (fx fy : Int) (x : En) (ht : x.tn = 1 ∨ x.tn = 2) (hr : 0 ≤ x.rad) (hr2 : x.rad ≤ 2000000) (w : World) :
 Calls Tryz.prog 107 #[.agg #[.int .i64 fx, .int .i64 fy], .agg x.cells.toArray] w fun e w' => e = .returned (.tuple #[.agg (aroundT fx fy x).1.cells.toArray, .int .i64 (aroundT fx fy x).2]) ∧ Below w.heap.size w w' := by
 obtain ⟨v0, v1, v2, v3, v4, e0, hF, hb0, hb1⟩ := around_form fx fy x.mx x.my x.ex x.ey (decide (x.tn = 2))
 have HF := hide hF
 have HT : Hid (aroundT fx fy x = if e0 ≠ 0 then (Tk.zero, e0) else if v2 - x.rad > 60 ∨ v2 - x.rad < -60 then (Tk.zero, 10) else
  if (arcAt v0 v1 v2 v3 v4 0).2.2.2 ≠ 0 then (Tk.zero, (arcAt v0 v1 v2 v3 v4 0).2.2.2) else
  if (arcAt v0 v1 v2 v3 v4 (arcLen v0 v1 v2 v3 v4)).2.2.2 ≠ 0 then (Tk.zero, (arcAt v0 v1 v2 v3 v4 (arcLen v0 v1 v2 v3 v4)).2.2.2) else
  (⟨2, fx, fy, x.ex, x.ey, v0, v1, v2, v3, v4, (arcAt v0 v1 v2 v3 v4 0).2.2.1, (arcAt v0 v1 v2 v3 v4 (arcLen v0 v1 v2 v3 v4)).2.2.1, arcLen v0 v1 v2 v3 v4, 0, false⟩, 0)) := hide (by unfold aroundT; rw [hF])
 clear hF
 rcases ht with htn | htn
 · have htq := hide htn
   have AR := fun W => around_l fx fy x.mx x.my x.ex x.ey W v0 v1 v2 v3 v4 e0 (by rw [← HF.out, htn]; rfl)
   have hM := mem_nil w
   go_enter Tryz.func107, Tryz.ntmps107
   go_wp2_with (first | (go_at_call 123; (with_reducible refine cb hM (AR _) ?_); clear hM; intro W1 hM) | (go_at_call 29; (with_reducible refine cb hM (arcat_any _ _ _ _ _ _ _ _ rfl) ?_); clear hM; intro W1 hM) | (go_at_call 59; (with_reducible refine cb hM (tlen_any _ _ _ _ _ _) ?_); clear hM; intro W1 hM) | (go_at_call 68; (with_reducible refine (abs_any _ ?_ ?_ _).mono ?_); (· (unfold I64; omega)); (· omega); rintro e W1 ⟨rfl, rfl⟩) | ((with_reducible refine lX ?_); first | refine aL hM rfl rfl ?_ | refine aM hM rfl rfl ?_) | ((with_reducible refine sX ?_); refine aS hM rfl rfl rfl ?_; clear hM; intro W hM) | ((with_reducible refine bX ?_); refine aB hM rfl rfl ?_; clear hM; intro g W hM) | ((with_reducible refine zX ?_); refine aN hM rfl rfl ?_; clear hM; intro g W hM))
   all_goals
    refine' end_m2 hM rfl rfl Tryz.isAgg77 Tryz.sizeOf77 rfl rfl ?_ ?_ ⟨?_, hM.below⟩
    rotate_left 2
    · repeat constructor
    · rfl
    · refine' ret_tk ?_ ?_; rotate_left 1; (· (rw [HT.out]; (repeat (first | (refine (if_pos ?_).trans ?_; (· first | omega | (exact bne_t (by assumption)) | (exact bne_f (by assumption)) | (simp_all; done) | (simp_all; omega))) | (refine (if_neg ?_).trans ?_; (· first | omega | (exact bne_t (by assumption)) | (exact bne_f (by assumption)) | (simp_all; done) | (simp_all; omega))))); rfl)); (· rfl)
 · have htq := hide htn
   have AR := fun W => around_r fx fy x.mx x.my x.ex x.ey W v0 v1 v2 v3 v4 e0 (by rw [← HF.out, htn]; rfl)
   have hM := mem_nil w
   go_enter Tryz.func107, Tryz.ntmps107
   go_wp2_with (first | (go_at_call 123; (with_reducible refine cb hM (AR _) ?_); clear hM; intro W1 hM) | (go_at_call 29; (with_reducible refine cb hM (arcat_any _ _ _ _ _ _ _ _ rfl) ?_); clear hM; intro W1 hM) | (go_at_call 59; (with_reducible refine cb hM (tlen_any _ _ _ _ _ _) ?_); clear hM; intro W1 hM) | (go_at_call 68; (with_reducible refine (abs_any _ ?_ ?_ _).mono ?_); (· (unfold I64; omega)); (· omega); rintro e W1 ⟨rfl, rfl⟩) | ((with_reducible refine lX ?_); first | refine aL hM rfl rfl ?_ | refine aM hM rfl rfl ?_) | ((with_reducible refine sX ?_); refine aS hM rfl rfl rfl ?_; clear hM; intro W hM) | ((with_reducible refine bX ?_); refine aB hM rfl rfl ?_; clear hM; intro g W hM) | ((with_reducible refine zX ?_); refine aN hM rfl rfl ?_; clear hM; intro g W hM))
   all_goals
    refine' end_m2 hM rfl rfl Tryz.isAgg77 Tryz.sizeOf77 rfl rfl ?_ ?_ ⟨?_, hM.below⟩
    rotate_left 2
    · repeat constructor
    · rfl
    · refine' ret_tk ?_ ?_; rotate_left 1; (· (rw [HT.out]; (repeat (first | (refine (if_pos ?_).trans ?_; (· first | omega | (exact bne_t (by assumption)) | (exact bne_f (by assumption)) | (simp_all; done) | (simp_all; omega))) | (refine (if_neg ?_).trans ?_; (· first | omega | (exact bne_t (by assumption)) | (exact bne_f (by assumption)) | (simp_all; done) | (simp_all; omega))))); rfl)); (· rfl)
end Go.Proofs.YtbhpklpkcgcmfaaGreatDoor
