/-
  The reference of chapter 25: distances, radials, courses to fixes, intercepts, arcs; for all arguments.
-/
import Derived.Test.YtjjdojokkmfbmaaGreatDoorMAroMr
import Derived.Test.YtjjdojokkmfbmaaGreatDoorMRefD0
import Derived.Test.YtjjdojokkmfbmaaGreatDoorMResC
set_option maxRecDepth 100000
set_option maxHeartbeats 16000000
namespace Go.Proofs.YtjjdojokkmfbmaaGreatDoor
open Go.RowKit
set_option linter.unusedVariables false
set_option linter.unusedSimpArgs false
theorem isq_le2 {n k : Int} (h0 : 0 ≤ n) (hk : 0 ≤ k) (h : n ≤ k * k) : (isq n.toNat : Int) ≤ k := by
  have := isq_int n h0
  exact isq_le' hk (by omega)
theorem off_bd2 (ax ay bx b_y px py : Int) : (-5656855 ≤ (offF ax ay bx b_y px py).1 ∧ (offF ax ay bx b_y px py).1 ≤ 5656855) ∧ (-5656855 ≤ (offF ax ay bx b_y px py).2.1 ∧ (offF ax ay bx b_y px py).2.1 ≤ 5656855) := by
  unfold offF
  split
  · simp
  · rename_i hv
    split
    · simp
    · rename_i hne
      have hv2 : (vldB ax ay = true ∧ vldB bx b_y = true) ∧ vldB px py = true := by simpa using hv
      have h1 := (vldB_iff _ _).1 hv2.1.1
      have h3 := (vldB_iff _ _).1 hv2.2
      have hs := dist2_pos hne
      have p3 := sq_bd (a := px - ax) (m := 4000000) (by omega) (by omega)
      have p4 := sq_bd (a := py - ay) (m := 4000000) (by omega) (by omega)
      have hP : (px - ax) * (px - ax) + (py - ay) * (py - ay) ≤ 5656855 * 5656855 := by omega
      have d1 := dot_le (bx - ax) (b_y - ay) (px - ax) (py - ay)
      have d2 := crs_le (bx - ax) (b_y - ay) (px - ax) (py - ay)
      have hm : ((px - ax) * (px - ax) + (py - ay) * (py - ay)) * ((bx - ax) * (bx - ax) + (b_y - ay) * (b_y - ay)) ≤ 5656855 * 5656855 * ((bx - ax) * (bx - ax) + (b_y - ay) * (b_y - ay)) := Int.mul_le_mul_of_nonneg_right hP (by have := sq_nonneg (bx - ax); have := sq_nonneg (b_y - ay); omega)
      have n1 := lenN_le (n := (bx - ax) * (px - ax) + (b_y - ay) * (py - ay)) (k := 5656855) hs (by omega) (by unfold dist2; omega)
      have n2 := lenN_le (n := -((bx - ax) * (py - ay) - (b_y - ay) * (px - ax))) (k := 5656855) hs (by omega) (by rw [Int.neg_mul_neg]; unfold dist2; omega)
      have c1 := lenF_cases ((bx - ax) * (px - ax) + (b_y - ay) * (py - ay)) (dist2 ax ay bx b_y)
      have c2 := lenF_cases (-((bx - ax) * (py - ay) - (b_y - ay) * (px - ax))) (dist2 ax ay bx b_y)
      have z1 := (lenN_spec ((bx - ax) * (px - ax) + (b_y - ay) * (py - ay)) _ hs).1
      have z2 := (lenN_spec (-((bx - ax) * (py - ay) - (b_y - ay) * (px - ax))) _ hs).1
      dsimp only
      generalize lenF ((bx - ax) * (px - ax) + (b_y - ay) * (py - ay)) (dist2 ax ay bx b_y) = F1 at *
      generalize lenF (-((bx - ax) * (py - ay) - (b_y - ay) * (px - ax))) (dist2 ax ay bx b_y) = F2 at *
      generalize lenN ((bx - ax) * (px - ax) + (b_y - ay) * (py - ay)) (dist2 ax ay bx b_y) = N1 at *
      generalize lenN (-((bx - ax) * (py - ay) - (b_y - ay) * (px - ax))) (dist2 ax ay bx b_y) = N2 at *
      omega
theorem qdist_any (fx fy : Int) (x : En) (hd : 0 ≤ x.dst) (hd2 : x.dst ≤ 2000000) (hc : I64 x.crs) (w : World) :
    Calls Tryz.prog 42 #[.agg #[.int .i64 fx, .int .i64 fy], .agg x.cells.toArray] w fun e w' => e = .returned (.tuple #[.agg (toDistT fx fy x).1.cells.toArray, .int .i64 (toDistT fx fy x).2]) ∧ Below w.heap.size w w' := by
  obtain ⟨px, py, pe, hP⟩ : ∃ px py pe, rayF fx fy x.crs 60000 = (px, py, pe) := ⟨_, _, _, rfl⟩
  have HP := hide hP
  have RA := fun W => rray_any fx fy x.crs 60000 hc (by unfold I64; omega) W _ rfl
  rw [hP] at RA
  clear hP
  have ob := off_bd2 fx fy px py x.mx x.my
  obtain ⟨o, al, oe, hO⟩ : ∃ o al oe, offF fx fy px py x.mx x.my = (o, al, oe) := ⟨_, _, _, rfl⟩
  have HO := hide hO
  have OA := fun W => roff_any fx fy px py x.mx x.my W _ rfl
  rw [hO] at OA ob
  clear hO
  have HT : Hid (toDistT fx fy x = if pe ≠ 0 then (Tk.zero, pe) else if oe ≠ 0 then (Tk.zero, oe) else if o > x.dst ∨ o < -x.dst then (Tk.zero, 10) else if ¬ (al - isq (x.dst * x.dst - o * o).toNat < 0) then rayT fx fy x.crs (al - isq (x.dst * x.dst - o * o).toNat) else
    if al + isq (x.dst * x.dst - o * o).toNat < 0 then (Tk.zero, 10) else rayT fx fy x.crs (al + isq (x.dst * x.dst - o * o).toNat)) := hide (by unfold toDistT; rw [HP.out]; dsimp only; rw [HO.out])
  by_cases hr : o > x.dst ∨ o < -x.dst
  · have hM := mem_nil w
    go_enter Tryz.func42, Tryz.ntmps42
    go_wp2_with (first | (go_at_call 79; (with_reducible refine cb hM (RA _) ?_); clear hM; intro W1 hM) | (go_at_call 81; (with_reducible refine cb hM (OA _) ?_); clear hM; intro W1 hM) | ((with_reducible refine lX ?_); first | refine aL hM rfl rfl ?_ | refine aM hM rfl rfl ?_) | ((with_reducible refine sX ?_); refine aS hM rfl rfl rfl ?_; clear hM; intro W hM) | ((with_reducible refine bX ?_); refine aB hM rfl rfl ?_; clear hM; intro g W hM) | ((with_reducible refine zX ?_); refine aN hM rfl rfl ?_; clear hM; intro g W hM))
    all_goals
      refine' end_m2 hM rfl rfl Tryz.isAgg44 Tryz.sizeOf44 rfl rfl ?_ ?_ ⟨?_, hM.below⟩; rotate_left 2; (· repeat constructor); (· rfl); (· refine' ret_tk ?_ ?_; rotate_left 1; (· (rw [HT.out]; (repeat (first | (refine (if_pos ?_).trans ?_; (· first | omega | (exact bne_t (by assumption)) | (exact bne_f (by assumption)) | (simp_all; done) | (simp_all; omega))) | (refine (if_neg ?_).trans ?_; (· first | omega | (exact bne_t (by assumption)) | (exact bne_f (by assumption)) | (simp_all; done) | (simp_all; omega))))); rfl)); (· rfl))
  · have q1 := pr_bd (a := x.dst) (b := x.dst) (k := 2000000) (by omega) (by omega) (by omega)
    have q2 := pr_bd (a := o) (b := o) (k := 2000000) (by omega) (by omega) (by omega)
    have hqs := sq_nonneg o
    have hOO := sq_bd (a := o) (m := x.dst) (by omega) (by omega)
    dsimp only at ob
    have hqi := isq_le2 (n := x.dst * x.dst - o * o) (k := 2000000) (by omega) (by omega) (by omega)
    have hr1 : o ≤ x.dst := by omega
    have hr2 : -x.dst ≤ o := by omega
    clear hr
    have SQ := fun W => rsqrt_any (x.dst * x.dst - o * o) (by unfold I64; omega) W
    obtain ⟨h, hh⟩ : ∃ h, isq (x.dst * x.dst - o * o).toNat = h := ⟨_, rfl⟩
    rw [hh] at SQ HT hqi
    clear hh
    have hM := mem_nil w
    go_enter Tryz.func42, Tryz.ntmps42
    go_wp2_with (first | (go_at_call 79; (with_reducible refine cb hM (RA _) ?_); clear hM; intro W1 hM) | (go_at_call 81; (with_reducible refine cb hM (OA _) ?_); clear hM; intro W1 hM) | (go_at_call 87; (with_reducible refine (SQ _).mono ?_); rintro e W1 ⟨rfl, rfl⟩) | (go_at_call 40; (with_reducible refine (qalong_any _ _ _ _ ?_ ?_ ?_ _).mono ?_); (· first | assumption | (unfold I64; omega)); (· first | assumption | (unfold I64; omega)); (· omega); rintro e W1 ⟨rfl, hb⟩; replace hM := mem_below hM hb; clear hb) | ((with_reducible refine lX ?_); first | refine aL hM rfl rfl ?_ | refine aM hM rfl rfl ?_) | ((with_reducible refine sX ?_); refine aS hM rfl rfl rfl ?_; clear hM; intro W hM) | ((with_reducible refine bX ?_); refine aB hM rfl rfl ?_; clear hM; intro g W hM) | ((with_reducible refine zX ?_); refine aN hM rfl rfl ?_; clear hM; intro g W hM))
    all_goals
      refine' end_m2 hM rfl rfl Tryz.isAgg44 Tryz.sizeOf44 rfl rfl ?_ ?_ ⟨?_, hM.below⟩; rotate_left 2; (· repeat constructor); (· rfl); (· refine' ret_tk ?_ ?_; rotate_left 1; (· (rw [HT.out]; (repeat (first | (refine (if_pos ?_).trans ?_; (· first | omega | (exact bne_t (by assumption)) | (exact bne_f (by assumption)) | (simp_all; done) | (simp_all; omega))) | (refine (if_neg ?_).trans ?_; (· first | omega | (exact bne_t (by assumption)) | (exact bne_f (by assumption)) | (simp_all; done) | (simp_all; omega))))); rfl)); (· rfl))
theorem qrad_any (fx fy : Int) (x : En) (hc : I64 x.crs) (ht : I64 x.tht) (w : World) :
    Calls Tryz.prog 43 #[.agg #[.int .i64 fx, .int .i64 fy], .agg x.cells.toArray] w fun e w' => e = .returned (.tuple #[.agg (toRadT fx fy x).1.cells.toArray, .int .i64 (toRadT fx fy x).2]) ∧ Below w.heap.size w w' := by
  have hM := mem_nil w
  go_enter Tryz.func43, Tryz.ntmps43
  go_wp2_with (first | (go_at_call 79; (with_reducible refine (rray_any _ _ _ _ ?_ ?_ _ _ rfl).mono ?_); (· first | assumption | (unfold I64; omega)); (· first | assumption | (unfold I64; omega)); rintro e W1 ⟨rfl, hb⟩; replace hM := mem_below hM hb; clear hb) | (go_at_call 88; (with_reducible refine cb hM (rmeet_any _ _ _ _ _ _ _ _ _ _ rfl) ?_); clear hM; intro W1 hM) | (go_at_call 89; (with_reducible refine cb hM (qbefore_any _ _ _ _ _ _ _) ?_); clear hM; intro W1 hM) | (go_at_call 90; (with_reducible refine cb hM (qto_any _ _ _ _ _ _) ?_); clear hM; intro W1 hM) | ((with_reducible refine lX ?_); first | refine aL hM rfl rfl ?_ | refine aM hM rfl rfl ?_) | ((with_reducible refine sX ?_); refine aS hM rfl rfl rfl ?_; clear hM; intro W hM) | ((with_reducible refine bX ?_); refine aB hM rfl rfl ?_; clear hM; intro g W hM) | ((with_reducible refine zX ?_); refine aN hM rfl rfl ?_; clear hM; intro g W hM))
  all_goals
    refine' end_m2 hM rfl rfl Tryz.isAgg44 Tryz.sizeOf44 rfl rfl ?_ ?_ ⟨?_, hM.below⟩
    rotate_left 2
    · repeat constructor
    · rfl
    · refine' ret_tk ?_ ?_; rotate_left 1; (· (unfold toRadT; (try dsimp only); (repeat (first | (refine (if_pos ?_).trans ?_; (· first | omega | (exact bne_t (by assumption)) | (exact bne_f (by assumption)) | (simp_all; done) | (simp_all; omega))) | (refine (if_neg ?_).trans ?_; (· first | omega | (exact bne_t (by assumption)) | (exact bne_f (by assumption)) | (simp_all; done) | (simp_all; omega))))); rfl)); (· first | rfl | exact congrArg Tk.cells (straight_co _ _ _ _ _ _))
theorem qonto_any (fx fy c : Int) (x : En) (hc : 0 ≤ x.crs) (hc2 : x.crs ≤ 129599999) (w : World) :
    Calls Tryz.prog 38 #[.agg #[.int .i64 fx, .int .i64 fy], .int .i64 c, .agg x.cells.toArray] w fun e w' => e = .returned (.tuple #[.agg (toFixT fx fy c x).1.cells.toArray, .int .i64 (toFixT fx fy c x).2]) ∧ Below w.heap.size w w' := by
  have hM := mem_nil w
  go_enter Tryz.func38, Tryz.ntmps38
  go_upto_region 15 with (first | (go_at_call 79; (with_reducible refine (rray_any _ _ _ _ ?_ ?_ _ _ rfl).mono ?_); (· first | assumption | (unfold I64; omega)); (· first | assumption | (unfold I64; omega)); rintro e W1 ⟨rfl, hb⟩; replace hM := mem_below hM hb; clear hb) | (go_at_call 80; (with_reducible refine cb hM (rahead_any _ _ _ _ _ _ _) ?_); clear hM; intro W1 hM) | (go_at_call 81; (with_reducible refine cb hM (roff_any _ _ _ _ _ _ _ _ rfl) ?_); clear hM; intro W1 hM) | (go_at_call 82; (with_reducible refine cb hM (rfoot_any _ _ _ _ _ _ _ _ rfl) ?_); clear hM; intro W1 hM) | (go_at_call 37; (with_reducible refine cb hM (qstraight_any _ _ _ _ _ _) ?_); clear hM; intro W1 hM) | ((with_reducible refine lX ?_); first | refine aL hM rfl rfl ?_ | refine aM hM rfl rfl ?_) | ((with_reducible refine sX ?_); refine aS hM rfl rfl rfl ?_; clear hM; intro W hM) | ((with_reducible refine bX ?_); refine aB hM rfl rfl ?_; clear hM; intro g W hM) | ((with_reducible refine zX ?_); refine aN hM rfl rfl ?_; clear hM; intro g W hM))
  all_goals first
    | (refine' end_m2 hM rfl rfl Tryz.isAgg44 Tryz.sizeOf44 rfl rfl ?_ ?_ ⟨?_, hM.below⟩; rotate_left 2; (· repeat constructor); (· rfl); (· refine' ret_tk ?_ ?_; rotate_left 1; (· (unfold toFixT; (try dsimp only); (repeat (first | (refine (if_pos ?_).trans ?_; (· first | omega | (exact bne_t (by assumption)) | (exact bne_f (by assumption)) | (simp_all; done) | (simp_all; omega))) | (refine (if_neg ?_).trans ?_; (· first | omega | (exact bne_t (by assumption)) | (exact bne_f (by assumption)) | (simp_all; done) | (simp_all; omega))))); rfl)); (· first | rfl | exact congrArg Tk.cells (straight_co _ _ _ _ _ _))))
    | skip
  all_goals
    refine' region_del hM (by kernel_rfl) (.tmp 13) rfl ?_ ?_; rotate_left 1; (· repeat constructor); (clear hM; intro W hM hK hne)
    refine kP 0 hM hK ?_
    try simp only [pS, pN, sA, sB, sC]
    refine kP 1 hM hK ?_
    try simp only [pS, pN, sA, sB, sC]
    first | refine kL 2 hM hK ?_ | refine kM 2 hM hK ?_
    try simp only [pS, pN, sA, sB, sC]
    refine kP 3 hM hK ?_
    try simp only [pS, pN, sA, sB, sC]
    refine kP 4 hM hK ?_
    try simp only [pS, pN, sA, sB, sC]
    first | refine kL 5 hM hK ?_ | refine kM 5 hM hK ?_
    try simp only [pS, pN, sA, sB, sC]
    refine kP 6 hM hK ?_
    try simp only [pS, pN, sA, sB, sC]
    refine' tk_store hM (i := 7) (nthQ rfl) (by kernel_rfl) rfl rfl rfl ?_ ?_ ?_ ?_ ?_ ?_ ?_ hK hne ?_; rotate_left 6; (· constructor); (· repeat constructor); (· repeat constructor); (· repeat constructor); (· exact szT rfl); (· rfl); (· exact onecells rfl); (clear hM hK; intro W hM hK)
    try simp only [pS, pN, sA, sB, sC]
    refine kP 8 hM hK ?_
    try simp only [pS, pN, sA, sB, sC]
    refine' tk_store hM (i := 9) (nthQ rfl) (by kernel_rfl) rfl rfl rfl ?_ ?_ ?_ ?_ ?_ ?_ ?_ hK hne ?_; rotate_left 6; (· constructor); (· repeat constructor); (· repeat constructor); (· repeat constructor); (· exact szT rfl); (· rfl); (· exact onecells rfl); (clear hM hK; intro W hM hK)
    try simp only [pS, pN, sA, sB, sC]
    refine tk_done (by kernel_rfl) ?_
    go_wp2_with (first | (go_at_call 79; (with_reducible refine (rray_any _ _ _ _ ?_ ?_ _ _ rfl).mono ?_); (· first | assumption | (unfold I64; omega)); (· first | assumption | (unfold I64; omega)); rintro e W1 ⟨rfl, hb⟩; replace hM := mem_below hM hb; clear hb) | (go_at_call 80; (with_reducible refine cb hM (rahead_any _ _ _ _ _ _ _) ?_); clear hM; intro W1 hM) | (go_at_call 81; (with_reducible refine cb hM (roff_any _ _ _ _ _ _ _ _ rfl) ?_); clear hM; intro W1 hM) | (go_at_call 82; (with_reducible refine cb hM (rfoot_any _ _ _ _ _ _ _ _ rfl) ?_); clear hM; intro W1 hM) | (go_at_call 37; (with_reducible refine cb hM (qstraight_any _ _ _ _ _ _) ?_); clear hM; intro W1 hM) | ((with_reducible refine lX ?_); first | refine aL hM rfl rfl ?_ | refine aM hM rfl rfl ?_) | ((with_reducible refine sX ?_); refine aS hM rfl rfl rfl ?_; clear hM; intro W hM) | ((with_reducible refine bX ?_); refine aB hM rfl rfl ?_; clear hM; intro g W hM) | ((with_reducible refine zX ?_); refine aN hM rfl rfl ?_; clear hM; intro g W hM))
    refine' end_m2 hM rfl rfl Tryz.isAgg44 Tryz.sizeOf44 rfl rfl ?_ ?_ ⟨?_, hM.below⟩
    rotate_left 2
    · repeat constructor
    · rfl
    · refine' ret_tk ?_ ?_; rotate_left 1; (· (unfold toFixT; (try dsimp only); (repeat (first | (refine (if_pos ?_).trans ?_; (· first | omega | (exact bne_t (by assumption)) | (exact bne_f (by assumption)) | (simp_all; done) | (simp_all; omega))) | (refine (if_neg ?_).trans ?_; (· first | omega | (exact bne_t (by assumption)) | (exact bne_f (by assumption)) | (simp_all; done) | (simp_all; omega))))); rfl)); (· first | rfl | exact congrArg Tk.cells (straight_co _ _ _ _ _ _))
theorem qint_any (fx fy : Int) (x y : En) (hc : I64 x.crs) (hy : I64 y.crs) (ty : 0 ≤ y.ty) (w : World) :
    Calls Tryz.prog 44 #[.agg #[.int .i64 fx, .int .i64 fy], .agg x.cells.toArray, .agg y.cells.toArray] w fun e w' => e = .returned (.tuple #[.agg (interT fx fy x y).1.cells.toArray, .int .i64 (interT fx fy x y).2]) ∧ Below w.heap.size w w' := by
  have hT := turn_i64 y.crs 64800000
  have hM := mem_nil w
  go_enter Tryz.func44, Tryz.ntmps44
  go_upto_region 6 with (first | (go_at_call 79; (with_reducible refine (rray_any _ _ _ _ ?_ ?_ _ _ rfl).mono ?_); (· first | assumption | (unfold I64; omega)); (· first | assumption | (unfold I64; omega)); rintro e W1 ⟨rfl, hb⟩; replace hM := mem_below hM hb; clear hb) | (go_at_call 88; (with_reducible refine cb hM (rmeet_any _ _ _ _ _ _ _ _ _ _ rfl) ?_); clear hM; intro W1 hM) | (go_at_call 89; (with_reducible refine cb hM (qbefore_any _ _ _ _ _ _ _) ?_); clear hM; intro W1 hM) | (go_at_call 90; (with_reducible refine cb hM (qto_any _ _ _ _ _ _) ?_); clear hM; intro W1 hM) | (go_at_call 80; (with_reducible refine cb hM (rahead_any _ _ _ _ _ _ _) ?_); clear hM; intro W1 hM) | (go_at_call 91; (with_reducible refine (ropposite_any _ ?_ _).mono ?_); (· first | assumption | (unfold I64; omega)); rintro e W1 ⟨rfl, rfl⟩) | ((with_reducible refine lX ?_); first | refine aL hM rfl rfl ?_ | refine aM hM rfl rfl ?_) | ((with_reducible refine at_ldg ?_); refine mg_case (fun hg => ?_) (fun hg => ?_) <;> simp [go_sem, Region.wanted] at hg) | ((with_reducible refine sX ?_); refine aS hM rfl rfl rfl ?_; clear hM; intro W hM) | ((with_reducible refine bX ?_); refine aB hM rfl rfl ?_; clear hM; intro g W hM) | ((with_reducible refine zX ?_); refine aN hM rfl rfl ?_; clear hM; intro g W hM))
  all_goals first
    | (refine' end_m2 hM rfl rfl Tryz.isAgg44 Tryz.sizeOf44 rfl rfl ?_ ?_ ⟨?_, hM.below⟩; rotate_left 2; (· repeat constructor); (· rfl); (· refine' ret_tk ?_ ?_; rotate_left 1; (· (unfold interT; (try dsimp only); (repeat (first | (refine (if_pos ?_).trans ?_; (· first | omega | (exact bne_t (by assumption)) | (exact bne_f (by assumption)) | (simp_all; done) | (simp_all; omega))) | (refine (if_neg ?_).trans ?_; (· first | omega | (exact bne_t (by assumption)) | (exact bne_f (by assumption)) | (simp_all; done) | (simp_all; omega))))); rfl)); (· first | rfl | exact congrArg Tk.cells (straight_co _ _ _ _ _ _))))
    | skip
  refine region_all hM (by kernel_rfl) ?_; (clear hM; intro W hM hK)
  refine kP 0 hM hK ?_
  try simp only [pS, pN, sA, sB, sC]
  first | refine kL 1 hM hK ?_ | refine kM 1 hM hK ?_
  try simp only [pS, pN, sA, sB, sC]
  refine kP 2 hM hK ?_
  try simp only [pS, pN, sA, sB, sC]
  refine kP 3 hM hK ?_
  try simp only [pS, pN, sA, sB, sC]
  first | refine kL 4 hM hK ?_ | refine kM 4 hM hK ?_
  try simp only [pS, pN, sA, sB, sC]
  refine tk_two (i := 5) (j := 10) (nthQ rfl) (nthQ rfl) (by kernel_rfl) rfl rfl (fun K' hK' => ?_) (fun K' hK' => ?_)
  ·
    go_wp2_with (first | (go_at_call 91; (with_reducible refine (ropposite_any _ ?_ _).mono ?_); (· first | assumption | (unfold I64; omega)); rintro e W1 ⟨rfl, rfl⟩) | (go_at_call 79; (with_reducible refine (rray_any _ _ _ _ ?_ ?_ _ _ rfl).mono ?_); (· first | assumption | (unfold I64; omega)); (· first | assumption | (unfold I64; omega)); rintro e W1 ⟨rfl, hb⟩; replace hM := mem_below hM hb; clear hb))
    refine hK'.out _ _ (held_of hM hK) ?_
    clear hK' K'
    try simp only [pS, pN, sA, sB, sC]
    refine tk_two (i := 6) (j := 10) (nthQ rfl) (nthQ rfl) (by kernel_rfl) rfl rfl (fun K' hK' => ?_) (fun K' hK' => ?_)
    ·
      go_wp2_with (first | (go_at_call 91; (with_reducible refine (ropposite_any _ ?_ _).mono ?_); (· first | assumption | (unfold I64; omega)); rintro e W1 ⟨rfl, rfl⟩) | (go_at_call 79; (with_reducible refine (rray_any _ _ _ _ ?_ ?_ _ _ rfl).mono ?_); (· first | assumption | (unfold I64; omega)); (· first | assumption | (unfold I64; omega)); rintro e W1 ⟨rfl, hb⟩; replace hM := mem_below hM hb; clear hb))
      refine hK'.out _ _ (held_of hM hK) ?_
      clear hK' K'
      try simp only [pS, pN, sA, sB, sC]
      refine kP 7 hM hK ?_
      try simp only [pS, pN, sA, sB, sC]
      refine kP 8 hM hK ?_
      try simp only [pS, pN, sA, sB, sC]
      refine kP 9 hM hK ?_
      try simp only [pS, pN, sA, sB, sC]
      refine tk_call (i := 10) (nthQ rfl) (by kernel_rfl) rfl (fun K' hK' => ?_)
      refine' wp_alloc_mem hM rfl ?_ rfl ?_; rotate_left 1; (· exact zoT rfl); (have hKo := hK; clear hK hM; intro g W hM; have hne := new_ne hM hKo; have hK := keep_new hM hKo; clear hKo)
      refine hK'.out _ _ (held_of hM hK) ?_
      clear hK' K'
      try simp only [pS, pN, sA, sB, sC]
      refine' tk_store hM (i := 11) (nthQ rfl) (by kernel_rfl) rfl rfl rfl ?_ ?_ ?_ ?_ ?_ ?_ ?_ hK hne ?_; rotate_left 6; (· constructor); (· repeat constructor); (· repeat constructor); (· repeat constructor); (· exact szT rfl); (· rfl); (· exact onecells rfl); (clear hM hK; intro W hM hK)
      try simp only [pS, pN, sA, sB, sC]
      refine kP 12 hM hK ?_
      try simp only [pS, pN, sA, sB, sC]
      refine tk_done (by kernel_rfl) ?_
      go_wp2_with (first | (go_at_call 79; (with_reducible refine (rray_any _ _ _ _ ?_ ?_ _ _ rfl).mono ?_); (· first | assumption | (unfold I64; omega)); (· first | assumption | (unfold I64; omega)); rintro e W1 ⟨rfl, hb⟩; replace hM := mem_below hM hb; clear hb) | (go_at_call 88; (with_reducible refine cb hM (rmeet_any _ _ _ _ _ _ _ _ _ _ rfl) ?_); clear hM; intro W1 hM) | (go_at_call 89; (with_reducible refine cb hM (qbefore_any _ _ _ _ _ _ _) ?_); clear hM; intro W1 hM) | (go_at_call 90; (with_reducible refine cb hM (qto_any _ _ _ _ _ _) ?_); clear hM; intro W1 hM) | (go_at_call 80; (with_reducible refine cb hM (rahead_any _ _ _ _ _ _ _) ?_); clear hM; intro W1 hM) | (go_at_call 91; (with_reducible refine (ropposite_any _ ?_ _).mono ?_); (· first | assumption | (unfold I64; omega)); rintro e W1 ⟨rfl, rfl⟩) | ((with_reducible refine lX ?_); first | refine aL hM rfl rfl ?_ | refine aM hM rfl rfl ?_) | ((with_reducible refine at_ldg ?_); refine mg_case (fun hg => ?_) (fun hg => ?_) <;> simp [go_sem, Region.wanted] at hg) | ((with_reducible refine sX ?_); refine aS hM rfl rfl rfl ?_; clear hM; intro W hM) | ((with_reducible refine bX ?_); refine aB hM rfl rfl ?_; clear hM; intro g W hM) | ((with_reducible refine zX ?_); refine aN hM rfl rfl ?_; clear hM; intro g W hM))
      all_goals
        refine' end_m2 hM rfl rfl Tryz.isAgg44 Tryz.sizeOf44 rfl rfl ?_ ?_ ⟨?_, hM.below⟩
        rotate_left 2
        · repeat constructor
        · rfl
        · refine' ret_tk ?_ ?_; rotate_left 1; (· (unfold interT; (try dsimp only); (repeat (first | (refine (if_pos ?_).trans ?_; (· first | omega | (exact bne_t (by assumption)) | (exact bne_f (by assumption)) | (simp_all; done) | (simp_all; omega))) | (refine (if_neg ?_).trans ?_; (· first | omega | (exact bne_t (by assumption)) | (exact bne_f (by assumption)) | (simp_all; done) | (simp_all; omega))))); rfl)); (· first | rfl | exact congrArg Tk.cells (straight_co _ _ _ _ _ _))
    ·
      refine' wp_alloc_mem hM rfl ?_ rfl ?_; rotate_left 1; (· exact zoT rfl); (have hKo := hK; clear hK hM; intro g W hM; have hne := new_ne hM hKo; have hK := keep_new hM hKo; clear hKo)
      refine hK'.out _ _ (held_of hM hK) ?_
      clear hK' K'
      try simp only [pS, pN, sA, sB, sC]
      refine tk_call (i := 6) (nthQ rfl) (by kernel_rfl) rfl (fun K' hK' => ?_)
      go_wp2_with (first | (go_at_call 91; (with_reducible refine (ropposite_any _ ?_ _).mono ?_); (· first | assumption | (unfold I64; omega)); rintro e W1 ⟨rfl, rfl⟩) | (go_at_call 79; (with_reducible refine (rray_any _ _ _ _ ?_ ?_ _ _ rfl).mono ?_); (· first | assumption | (unfold I64; omega)); (· first | assumption | (unfold I64; omega)); rintro e W1 ⟨rfl, hb⟩; replace hM := mem_below hM hb; clear hb))
      refine hK'.out _ _ (held_of hM hK) ?_
      clear hK' K'
      try simp only [pS, pN, sA, sB, sC]
      refine kP 7 hM hK ?_
      try simp only [pS, pN, sA, sB, sC]
      refine kP 8 hM hK ?_
      try simp only [pS, pN, sA, sB, sC]
      refine kP 9 hM hK ?_
      try simp only [pS, pN, sA, sB, sC]
      refine' tk_store hM (i := 11) (nthQ rfl) (by kernel_rfl) rfl rfl rfl ?_ ?_ ?_ ?_ ?_ ?_ ?_ hK hne ?_; rotate_left 6; (· constructor); (· repeat constructor); (· repeat constructor); (· repeat constructor); (· exact szT rfl); (· rfl); (· exact onecells rfl); (clear hM hK; intro W hM hK)
      try simp only [pS, pN, sA, sB, sC]
      refine kP 12 hM hK ?_
      try simp only [pS, pN, sA, sB, sC]
      refine tk_done (by kernel_rfl) ?_
      go_wp2_with (first | (go_at_call 79; (with_reducible refine (rray_any _ _ _ _ ?_ ?_ _ _ rfl).mono ?_); (· first | assumption | (unfold I64; omega)); (· first | assumption | (unfold I64; omega)); rintro e W1 ⟨rfl, hb⟩; replace hM := mem_below hM hb; clear hb) | (go_at_call 88; (with_reducible refine cb hM (rmeet_any _ _ _ _ _ _ _ _ _ _ rfl) ?_); clear hM; intro W1 hM) | (go_at_call 89; (with_reducible refine cb hM (qbefore_any _ _ _ _ _ _ _) ?_); clear hM; intro W1 hM) | (go_at_call 90; (with_reducible refine cb hM (qto_any _ _ _ _ _ _) ?_); clear hM; intro W1 hM) | (go_at_call 80; (with_reducible refine cb hM (rahead_any _ _ _ _ _ _ _) ?_); clear hM; intro W1 hM) | (go_at_call 91; (with_reducible refine (ropposite_any _ ?_ _).mono ?_); (· first | assumption | (unfold I64; omega)); rintro e W1 ⟨rfl, rfl⟩) | ((with_reducible refine lX ?_); first | refine aL hM rfl rfl ?_ | refine aM hM rfl rfl ?_) | ((with_reducible refine at_ldg ?_); refine mg_case (fun hg => ?_) (fun hg => ?_) <;> simp [go_sem, Region.wanted] at hg) | ((with_reducible refine sX ?_); refine aS hM rfl rfl rfl ?_; clear hM; intro W hM) | ((with_reducible refine bX ?_); refine aB hM rfl rfl ?_; clear hM; intro g W hM) | ((with_reducible refine zX ?_); refine aN hM rfl rfl ?_; clear hM; intro g W hM))
      all_goals
        refine' end_m2 hM rfl rfl Tryz.isAgg44 Tryz.sizeOf44 rfl rfl ?_ ?_ ⟨?_, hM.below⟩
        rotate_left 2
        · repeat constructor
        · rfl
        · refine' ret_tk ?_ ?_; rotate_left 1; (· (unfold interT; (try dsimp only); (repeat (first | (refine (if_pos ?_).trans ?_; (· first | omega | (exact bne_t (by assumption)) | (exact bne_f (by assumption)) | (simp_all; done) | (simp_all; omega))) | (refine (if_neg ?_).trans ?_; (· first | omega | (exact bne_t (by assumption)) | (exact bne_f (by assumption)) | (simp_all; done) | (simp_all; omega))))); rfl)); (· first | rfl | exact congrArg Tk.cells (straight_co _ _ _ _ _ _))
  ·
    refine' wp_alloc_mem hM rfl ?_ rfl ?_; rotate_left 1; (· exact zoT rfl); (have hKo := hK; clear hK hM; intro g W hM; have hne := new_ne hM hKo; have hK := keep_new hM hKo; clear hKo)
    refine hK'.out _ _ (held_of hM hK) ?_
    clear hK' K'
    try simp only [pS, pN, sA, sB, sC]
    refine tk_call (i := 5) (nthQ rfl) (by kernel_rfl) rfl (fun K' hK' => ?_)
    go_wp2_with (first | (go_at_call 91; (with_reducible refine (ropposite_any _ ?_ _).mono ?_); (· first | assumption | (unfold I64; omega)); rintro e W1 ⟨rfl, rfl⟩) | (go_at_call 79; (with_reducible refine (rray_any _ _ _ _ ?_ ?_ _ _ rfl).mono ?_); (· first | assumption | (unfold I64; omega)); (· first | assumption | (unfold I64; omega)); rintro e W1 ⟨rfl, hb⟩; replace hM := mem_below hM hb; clear hb))
    refine hK'.out _ _ (held_of hM hK) ?_
    clear hK' K'
    try simp only [pS, pN, sA, sB, sC]
    refine tk_call (i := 6) (nthQ rfl) (by kernel_rfl) rfl (fun K' hK' => ?_)
    go_wp2_with (first | (go_at_call 91; (with_reducible refine (ropposite_any _ ?_ _).mono ?_); (· first | assumption | (unfold I64; omega)); rintro e W1 ⟨rfl, rfl⟩) | (go_at_call 79; (with_reducible refine (rray_any _ _ _ _ ?_ ?_ _ _ rfl).mono ?_); (· first | assumption | (unfold I64; omega)); (· first | assumption | (unfold I64; omega)); rintro e W1 ⟨rfl, hb⟩; replace hM := mem_below hM hb; clear hb))
    refine hK'.out _ _ (held_of hM hK) ?_
    clear hK' K'
    try simp only [pS, pN, sA, sB, sC]
    refine kP 7 hM hK ?_
    try simp only [pS, pN, sA, sB, sC]
    refine kP 8 hM hK ?_
    try simp only [pS, pN, sA, sB, sC]
    refine kP 9 hM hK ?_
    try simp only [pS, pN, sA, sB, sC]
    refine' tk_store hM (i := 11) (nthQ rfl) (by kernel_rfl) rfl rfl rfl ?_ ?_ ?_ ?_ ?_ ?_ ?_ hK hne ?_; rotate_left 6; (· constructor); (· repeat constructor); (· repeat constructor); (· repeat constructor); (· exact szT rfl); (· rfl); (· exact onecells rfl); (clear hM hK; intro W hM hK)
    try simp only [pS, pN, sA, sB, sC]
    refine kP 12 hM hK ?_
    try simp only [pS, pN, sA, sB, sC]
    refine tk_done (by kernel_rfl) ?_
    go_wp2_with (first | (go_at_call 79; (with_reducible refine (rray_any _ _ _ _ ?_ ?_ _ _ rfl).mono ?_); (· first | assumption | (unfold I64; omega)); (· first | assumption | (unfold I64; omega)); rintro e W1 ⟨rfl, hb⟩; replace hM := mem_below hM hb; clear hb) | (go_at_call 88; (with_reducible refine cb hM (rmeet_any _ _ _ _ _ _ _ _ _ _ rfl) ?_); clear hM; intro W1 hM) | (go_at_call 89; (with_reducible refine cb hM (qbefore_any _ _ _ _ _ _ _) ?_); clear hM; intro W1 hM) | (go_at_call 90; (with_reducible refine cb hM (qto_any _ _ _ _ _ _) ?_); clear hM; intro W1 hM) | (go_at_call 80; (with_reducible refine cb hM (rahead_any _ _ _ _ _ _ _) ?_); clear hM; intro W1 hM) | (go_at_call 91; (with_reducible refine (ropposite_any _ ?_ _).mono ?_); (· first | assumption | (unfold I64; omega)); rintro e W1 ⟨rfl, rfl⟩) | ((with_reducible refine lX ?_); first | refine aL hM rfl rfl ?_ | refine aM hM rfl rfl ?_) | ((with_reducible refine at_ldg ?_); refine mg_case (fun hg => ?_) (fun hg => ?_) <;> simp [go_sem, Region.wanted] at hg) | ((with_reducible refine sX ?_); refine aS hM rfl rfl rfl ?_; clear hM; intro W hM) | ((with_reducible refine bX ?_); refine aB hM rfl rfl ?_; clear hM; intro g W hM) | ((with_reducible refine zX ?_); refine aN hM rfl rfl ?_; clear hM; intro g W hM))
    all_goals
      refine' end_m2 hM rfl rfl Tryz.isAgg44 Tryz.sizeOf44 rfl rfl ?_ ?_ ⟨?_, hM.below⟩
      rotate_left 2
      · repeat constructor
      · rfl
      · refine' ret_tk ?_ ?_; rotate_left 1; (· (unfold interT; (try dsimp only); (repeat (first | (refine (if_pos ?_).trans ?_; (· first | omega | (exact bne_t (by assumption)) | (exact bne_f (by assumption)) | (simp_all; done) | (simp_all; omega))) | (refine (if_neg ?_).trans ?_; (· first | omega | (exact bne_t (by assumption)) | (exact bne_f (by assumption)) | (simp_all; done) | (simp_all; omega))))); rfl)); (· first | rfl | exact congrArg Tk.cells (straight_co _ _ _ _ _ _))
theorem qarc_any (fx fy : Int) (x : En) (ht : x.tn = 1 ∨ x.tn = 2) (hr : 0 ≤ x.rad) (hr2 : x.rad ≤ 2000000) (w : World) :
    Calls Tryz.prog 39 #[.agg #[.int .i64 fx, .int .i64 fy], .agg x.cells.toArray] w fun e w' => e = .returned (.tuple #[.agg (aroundT fx fy x).1.cells.toArray, .int .i64 (aroundT fx fy x).2]) ∧ Below w.heap.size w w' := by
  obtain ⟨v0, v1, v2, v3, v4, e0, hF, hb0, hb1⟩ := around_form fx fy x.mx x.my x.ex x.ey (decide (x.tn = 2))
  have HF := hide hF
  have HT : Hid (aroundT fx fy x = if e0 ≠ 0 then (Tk.zero, e0) else if v2 - x.rad > 60 ∨ v2 - x.rad < -60 then (Tk.zero, 10) else
    if (arcAt v0 v1 v2 v3 v4 0).2.2.2 ≠ 0 then (Tk.zero, (arcAt v0 v1 v2 v3 v4 0).2.2.2) else
    if (arcAt v0 v1 v2 v3 v4 (arcLen v0 v1 v2 v3 v4)).2.2.2 ≠ 0 then (Tk.zero, (arcAt v0 v1 v2 v3 v4 (arcLen v0 v1 v2 v3 v4)).2.2.2) else
    (⟨2, fx, fy, x.ex, x.ey, v0, v1, v2, v3, v4, (arcAt v0 v1 v2 v3 v4 0).2.2.1, (arcAt v0 v1 v2 v3 v4 (arcLen v0 v1 v2 v3 v4)).2.2.1, arcLen v0 v1 v2 v3 v4, 0, false⟩, 0)) := hide (by unfold aroundT; rw [hF])
  clear hF
  rcases ht with htn | htn
  · have htq := hide htn
    have AR := fun W => raround_l fx fy x.mx x.my x.ex x.ey W v0 v1 v2 v3 v4 e0 (by rw [← HF.out, htn]; rfl)
    have hM := mem_nil w
    go_enter Tryz.func39, Tryz.ntmps39
    go_wp2_with (first | (go_at_call 83; (with_reducible refine cb hM (AR _) ?_); clear hM; intro W1 hM) | (go_at_call 85; (with_reducible refine cb hM (rarcat_any _ _ _ _ _ _ _ _ rfl) ?_); clear hM; intro W1 hM) | (go_at_call 84; (with_reducible refine cb hM (rtlen_any _ _ _ _ _ _) ?_); clear hM; intro W1 hM) | ((with_reducible refine lX ?_); first | refine aL hM rfl rfl ?_ | refine aM hM rfl rfl ?_) | ((with_reducible refine at_ldg ?_); refine mg_case (fun hg => ?_) (fun hg => ?_) <;> simp [go_sem, Region.wanted] at hg) | ((with_reducible refine sX ?_); refine aS hM rfl rfl rfl ?_; clear hM; intro W hM) | ((with_reducible refine bX ?_); refine aB hM rfl rfl ?_; clear hM; intro g W hM) | ((with_reducible refine zX ?_); refine aN hM rfl rfl ?_; clear hM; intro g W hM))
    all_goals
      refine' end_m2 hM rfl rfl Tryz.isAgg44 Tryz.sizeOf44 rfl rfl ?_ ?_ ⟨?_, hM.below⟩
      rotate_left 2
      · repeat constructor
      · rfl
      · refine' ret_tk ?_ ?_; rotate_left 1; (· (rw [HT.out]; (repeat (first | (refine (if_pos ?_).trans ?_; (· first | omega | (exact bne_t (by assumption)) | (exact bne_f (by assumption)) | (simp_all; done) | (simp_all; omega))) | (refine (if_neg ?_).trans ?_; (· first | omega | (exact bne_t (by assumption)) | (exact bne_f (by assumption)) | (simp_all; done) | (simp_all; omega))))); rfl)); (· rfl)
  · have htq := hide htn
    have AR := fun W => raround_r fx fy x.mx x.my x.ex x.ey W v0 v1 v2 v3 v4 e0 (by rw [← HF.out, htn]; rfl)
    have hM := mem_nil w
    go_enter Tryz.func39, Tryz.ntmps39
    go_wp2_with (first | (go_at_call 83; (with_reducible refine cb hM (AR _) ?_); clear hM; intro W1 hM) | (go_at_call 85; (with_reducible refine cb hM (rarcat_any _ _ _ _ _ _ _ _ rfl) ?_); clear hM; intro W1 hM) | (go_at_call 84; (with_reducible refine cb hM (rtlen_any _ _ _ _ _ _) ?_); clear hM; intro W1 hM) | ((with_reducible refine lX ?_); first | refine aL hM rfl rfl ?_ | refine aM hM rfl rfl ?_) | ((with_reducible refine at_ldg ?_); refine mg_case (fun hg => ?_) (fun hg => ?_) <;> simp [go_sem, Region.wanted] at hg) | ((with_reducible refine sX ?_); refine aS hM rfl rfl rfl ?_; clear hM; intro W hM) | ((with_reducible refine bX ?_); refine aB hM rfl rfl ?_; clear hM; intro g W hM) | ((with_reducible refine zX ?_); refine aN hM rfl rfl ?_; clear hM; intro g W hM))
    all_goals
      refine' end_m2 hM rfl rfl Tryz.isAgg44 Tryz.sizeOf44 rfl rfl ?_ ?_ ⟨?_, hM.below⟩
      rotate_left 2
      · repeat constructor
      · rfl
      · refine' ret_tk ?_ ?_; rotate_left 1; (· (rw [HT.out]; (repeat (first | (refine (if_pos ?_).trans ?_; (· first | omega | (exact bne_t (by assumption)) | (exact bne_f (by assumption)) | (simp_all; done) | (simp_all; omega))) | (refine (if_neg ?_).trans ?_; (· first | omega | (exact bne_t (by assumption)) | (exact bne_f (by assumption)) | (simp_all; done) | (simp_all; omega))))); rfl)); (· rfl)
end Go.Proofs.YtjjdojokkmfbmaaGreatDoor
