/-
  resolve: rays, lines to points, climbs; for all arguments.
-/
import Derived.Test.YteanfgobpjdmnaaGreatDoorMLineD
import Derived.Test.YteanfgobpjdmnaaGreatDoorMMem
import Derived.Test.YteanfgobpjdmnaaGreatDoorMResP
set_option maxRecDepth 100000
set_option maxHeartbeats 16000000
namespace Go.Proofs.YteanfgobpjdmnaaGreatDoor
open Go.RowKit
set_option linter.unusedVariables false
set_option linter.unusedSimpArgs false
theorem zMResA0 {P : Prop} (h : P := by first | omega | (exact jO (by assumption)) | (exact jd (by assumption)) | (simp_all; done) | (simp_all; omega)) : P := h
theorem VZ (ax ay c l : Int) (hc : qH c) (hl : qH l) (w : World) :
 Calls Tryz.prog 58 #[.agg #[.int .i64 ax, .int .i64 ay], .int .i64 c, .int .i64 l] w fun e w' => e = .returned (.tuple #[.agg (kw ax ay c l).1.cells.toArray, .int .i64 (kw ax ay c l).2]) ∧ Below w.heap.size w w' := by
 have hM := qB w
 go_enter Tryz.func58, Tryz.ntmps58
 go_wp2_with (first | (go_at_call 70; (with_reducible refine (jp _ _ _ _ ?_ ?_ _ _ rfl).mono ?_); (· first | assumption | (unfold qH; omega)); (· first | assumption | (unfold qH; omega)); rintro e W1 ⟨rfl, hb⟩; replace hM := qp hM hb; clear hb) | ((with_reducible refine lX ?_); refine mL ?_) | ((with_reducible refine sX ?_); refine mS ?_; clear hM; intro W hM) | ((with_reducible refine bX ?_); refine mB ?_; clear hM; intro g W hM) | ((with_reducible refine zX ?_); refine mB ?_; clear hM; intro g W hM))
 all_goals
  refine' qR hM rfl rfl Tryz.isAgg69 Tryz.sizeOf69 rfl rfl ?_ ?_ ⟨?_, hM.below⟩
  rotate_left 2
  · repeat constructor
  · rfl
  · unfold kw; first | (rw [if_pos (by simp_all)]; rfl) | (rw [if_neg (by simp_all)]; rfl)
theorem bP (ax ay bx b_y px py : Int) (w : World) :
 Calls Tryz.prog 96 #[.agg #[.int .i64 ax, .int .i64 ay], .agg #[.int .i64 bx, .int .i64 b_y], .agg #[.int .i64 px, .int .i64 py]] w fun e w' => e = .returned (.bool (YM ax ay bx b_y px py)) ∧ Below w.heap.size w w' := by
 have hM := qB w
 go_enter Tryz.func96, Tryz.ntmps96
 go_wp2_with (first | (go_at_call 92; (with_reducible refine cb hM (ZO _ _ _ _ _ _ _ _ rfl) ?_); clear hM; intro W1 hM) | ((with_reducible refine lX ?_); refine mL ?_) | ((with_reducible refine sX ?_); refine mS ?_; clear hM; intro W hM) | ((with_reducible refine bX ?_); refine mB ?_; clear hM; intro g W hM) | ((with_reducible refine zX ?_); refine mB ?_; clear hM; intro g W hM))
 all_goals
  go_ret
  exact ⟨rfl, hM.below⟩
theorem tK (ax ay c bx b_y : Int) (w : World) :
 Calls Tryz.prog 97 #[.agg #[.int .i64 ax, .int .i64 ay], .int .i64 c, .agg #[.int .i64 bx, .int .i64 b_y]] w fun e w' => e = .returned (.agg (pX ax ay c bx b_y).cells.toArray) ∧ Below w.heap.size w w' := by
 have hM := qB w
 go_enter Tryz.func97, Tryz.ntmps97
 go_upto_region 1 with (first | ((with_reducible refine lX ?_); refine mL ?_) | ((with_reducible refine sX ?_); refine mS ?_; clear hM; intro W hM) | ((with_reducible refine bX ?_); refine mB ?_; clear hM; intro g W hM) | ((with_reducible refine zX ?_); refine mB ?_; clear hM; intro g W hM))
 refine' bE hM (by kernel_rfl) (.tmp 6) rfl ?_ ?_; rotate_left 1; (· repeat constructor); (clear hM; intro W hM hK hne)
 first | refine kL 0 hM hK ?_ | refine kM 0 hM hK ?_
 try simp only [pS, pN, sA, sB, sC]
 first | refine kL 1 hM hK ?_ | refine kM 1 hM hK ?_
 try simp only [pS, pN, sA, sB, sC]
 refine kP 2 hM hK ?_
 try simp only [pS, pN, sA, sB, sC]
 refine kP 3 hM hK ?_
 try simp only [pS, pN, sA, sB, sC]
 first | refine kL 4 hM hK ?_ | refine kM 4 hM hK ?_
 try simp only [pS, pN, sA, sB, sC]
 first | refine kL 5 hM hK ?_ | refine kM 5 hM hK ?_
 try simp only [pS, pN, sA, sB, sC]
 refine vN (i := 6) (jL rfl) (by kernel_rfl) rfl (fun K' hK' => ?_)
 go_wp2_with (first | (go_at_call 32; (with_reducible refine cb hM (jJ _ _ _ _ _) ?_); clear hM; intro W1 hM))
 refine hK'.out _ _ (zV hM hK) ?_
 clear hK' K'
 try simp only [pS, pN, sA, sB, sC]
 refine kP 7 hM hK ?_
 try simp only [pS, pN, sA, sB, sC]
 refine' yK hM (i := 8) (jL rfl) (by kernel_rfl) rfl rfl rfl ?_ ?_ ?_ ?_ ?_ ?_ ?_ hK hne ?_; rotate_left 6; (· constructor); (· repeat constructor); (· repeat constructor); (· repeat constructor); (· exact Qu rfl); (· rfl); (· exact jC rfl); (clear hM hK; intro W hM hK)
 try simp only [pS, pN, sA, sB, sC]
 refine qE (by kernel_rfl) ?_
 go_wp2_with (first | ((with_reducible refine lX ?_); refine mL ?_) | ((with_reducible refine sX ?_); refine mS ?_; clear hM; intro W hM))
 refine' xa hM rfl rfl Tryz.isAgg69 Tryz.sizeOf69 rfl ?_ ?_ ⟨?_, hM.below⟩
 rotate_left 2
 · repeat constructor
 · rfl
 · rfl
theorem vQ (ax ay bx b_y c : Int) (w : World) :
 Calls Tryz.prog 25 #[.agg #[.int .i64 ax, .int .i64 ay], .agg #[.int .i64 bx, .int .i64 b_y], .int .i64 c] w fun e w' => e = .returned (.agg (qY ax ay bx b_y c).cells.toArray) ∧ Below w.heap.size w w' := by
 by_cases he : ax = bx ∧ ay = b_y
 · have HT : Hid (qY ax ay bx b_y c = fO 1 ax ay bx b_y c 0) := hide (by unfold qY; rw [if_pos he])
   obtain ⟨rfl, rfl⟩ := he
   have hM := qB w
   go_enter Tryz.func25, Tryz.ntmps25
   go_wp2_with (first | ((with_reducible refine lX ?_); refine mL ?_) | ((with_reducible refine sX ?_); refine mS ?_; clear hM; intro W hM) | ((with_reducible refine bX ?_); refine mB ?_; clear hM; intro g W hM) | ((with_reducible refine zX ?_); refine mB ?_; clear hM; intro g W hM))
   all_goals
    refine' xa hM rfl rfl Tryz.isAgg69 Tryz.sizeOf69 rfl ?_ ?_ ⟨?_, hM.below⟩
    rotate_left 2
    · repeat constructor
    · rfl
    · rw [HT.out]; rfl
 · have HT : Hid (qY ax ay bx b_y c = fO 1 ax ay bx b_y (qF ax ay bx b_y).1 (qJ ax ay bx b_y)) := hide (by unfold qY; rw [if_neg he])
   have hne : (ax == bx && ay == b_y) = false := by
    rw [Bool.eq_false_iff]; simp; intro h1 h2; exact he ⟨h1, h2⟩
   have hq : ((ax == bx) = false) ∨ ((ax == bx) = true ∧ (ay == b_y) = false) := by
    rcases h : (ax == bx) with _ | _
    · exact .inl rfl
    · rw [h] at hne; exact .inr ⟨rfl, by simpa using hne⟩
   clear he hne
   rcases hq with hx | ⟨hx, hy⟩
   all_goals
    have hM := qB w
    go_enter Tryz.func25, Tryz.ntmps25
    go_upto_region 4 with (first | (go_at_call 8; (with_reducible refine cb hM (yd _ _ _ _ _) ?_); clear hM; intro W1 hM) | ((with_reducible refine lX ?_); refine mL ?_) | ((with_reducible refine sX ?_); refine mS ?_; clear hM; intro W hM) | ((with_reducible refine bX ?_); refine mB ?_; clear hM; intro g W hM) | ((with_reducible refine zX ?_); refine mB ?_; clear hM; intro g W hM))
    refine' bE hM (by kernel_rfl) (.tmp 7) rfl ?_ ?_; rotate_left 1; (· repeat constructor); (clear hM; intro W hM hK hne)
    refine kP 0 hM hK ?_
    try simp only [pS, pN, sA, sB, sC]
    first | refine kL 2 hM hK ?_ | refine kM 2 hM hK ?_
    try simp only [pS, pN, sA, sB, sC]
    first | refine kL 3 hM hK ?_ | refine kM 3 hM hK ?_
    try simp only [pS, pN, sA, sB, sC]
    refine Bz (i := 1) (j := 4) (jL rfl) (jL rfl) (by kernel_rfl) rfl rfl (fun K' hK' => ?_) (fun K' hK' => ?_)
    ·
     first
      | (refine' ZQ hM rfl rfl ?_ ?_ ?_ ?_; rotate_left 3; (· repeat constructor); (· exact mT rfl); (· exact rfl))
      | (refine' YH hM rfl rfl ?_ ?_ ?_ ?_ ?_; rotate_left 4; (· repeat constructor); (· exact BC rfl); (· exact Qu rfl); (· repeat constructor))
     refine hK'.out _ _ (zV hM hK) ?_
     clear hK' K'
     try simp only [pS, pN, sA, sB, sC]
     refine kP 5 hM hK ?_
     try simp only [pS, pN, sA, sB, sC]
     refine vN (i := 4) (jL rfl) (by kernel_rfl) rfl (fun K' hK' => ?_)
     go_wp2_with (first | (go_at_call 32; (with_reducible refine cb hM (jJ _ _ _ _ _) ?_); clear hM; intro W1 hM))
     refine hK'.out _ _ (zV hM hK) ?_
     clear hK' K'
     try simp only [pS, pN, sA, sB, sC]
     refine' yK hM (i := 6) (jL rfl) (by kernel_rfl) rfl rfl rfl ?_ ?_ ?_ ?_ ?_ ?_ ?_ hK hne ?_; rotate_left 6; (· constructor); (· repeat constructor); (· repeat constructor); (· repeat constructor); (· exact Qu rfl); (· rfl); (· exact jC rfl); (clear hM hK; intro W hM hK)
     try simp only [pS, pN, sA, sB, sC]
     refine kP 7 hM hK ?_
     try simp only [pS, pN, sA, sB, sC]
     refine' yK hM (i := 8) (jL rfl) (by kernel_rfl) rfl rfl rfl ?_ ?_ ?_ ?_ ?_ ?_ ?_ hK hne ?_; rotate_left 6; (· constructor); (· repeat constructor); (· repeat constructor); (· repeat constructor); (· exact Qu rfl); (· rfl); (· exact jC rfl); (clear hM hK; intro W hM hK)
     try simp only [pS, pN, sA, sB, sC]
     refine qE (by kernel_rfl) ?_
     go_wp2_with (first | ((with_reducible refine lX ?_); refine mL ?_) | ((with_reducible refine sX ?_); refine mS ?_; clear hM; intro W hM) | ((with_reducible refine zX ?_); refine mB ?_; clear hM; intro g W hM))
     refine' xa hM rfl rfl Tryz.isAgg69 Tryz.sizeOf69 rfl ?_ ?_ ⟨?_, hM.below⟩
     rotate_left 2
     · repeat constructor
     · rfl
     · rw [HT.out]; rfl
    ·
     go_wp2_with (first | (go_at_call 32; (with_reducible refine cb hM (jJ _ _ _ _ _) ?_); clear hM; intro W1 hM))
     refine hK'.out _ _ (zV hM hK) ?_
     clear hK' K'
     try simp only [pS, pN, sA, sB, sC]
     refine vN (i := 1) (jL rfl) (by kernel_rfl) rfl (fun K' hK' => ?_)
     first
      | (refine' ZQ hM rfl rfl ?_ ?_ ?_ ?_; rotate_left 3; (· repeat constructor); (· exact mT rfl); (· exact rfl))
      | (refine' YH hM rfl rfl ?_ ?_ ?_ ?_ ?_; rotate_left 4; (· repeat constructor); (· exact BC rfl); (· exact Qu rfl); (· repeat constructor))
     refine hK'.out _ _ (zV hM hK) ?_
     clear hK' K'
     try simp only [pS, pN, sA, sB, sC]
     refine kP 5 hM hK ?_
     try simp only [pS, pN, sA, sB, sC]
     refine' yK hM (i := 6) (jL rfl) (by kernel_rfl) rfl rfl rfl ?_ ?_ ?_ ?_ ?_ ?_ ?_ hK hne ?_; rotate_left 6; (· constructor); (· repeat constructor); (· repeat constructor); (· repeat constructor); (· exact Qu rfl); (· rfl); (· exact jC rfl); (clear hM hK; intro W hM hK)
     try simp only [pS, pN, sA, sB, sC]
     refine kP 7 hM hK ?_
     try simp only [pS, pN, sA, sB, sC]
     refine' yK hM (i := 8) (jL rfl) (by kernel_rfl) rfl rfl rfl ?_ ?_ ?_ ?_ ?_ ?_ ?_ hK hne ?_; rotate_left 6; (· constructor); (· repeat constructor); (· repeat constructor); (· repeat constructor); (· exact Qu rfl); (· rfl); (· exact jC rfl); (clear hM hK; intro W hM hK)
     try simp only [pS, pN, sA, sB, sC]
     refine qE (by kernel_rfl) ?_
     go_wp2_with (first | ((with_reducible refine lX ?_); refine mL ?_) | ((with_reducible refine sX ?_); refine mS ?_; clear hM; intro W hM) | ((with_reducible refine zX ?_); refine mB ?_; clear hM; intro g W hM))
     refine' xa hM rfl rfl Tryz.isAgg69 Tryz.sizeOf69 rfl ?_ ?_ ⟨?_, hM.below⟩
     rotate_left 2
     · repeat constructor
     · rfl
     · rw [HT.out]; rfl
theorem iA (a b : Int) (ha : qH a) (hb : qH b) (w : World) :
 Calls Tryz.prog 94 #[.int .i64 a, .int .i64 b] w fun e w' => e = .returned (.tuple #[.int .i64 (qM 1 a 1 b).1, .int .i64 (qM 1 a 1 b).2]) ∧ ∃ n, w' = w.drewN n := by
 go_enter Tryz.func94, Tryz.ntmps94
 go_wp2_with (go_at_call 64; refine (Jg _ _ _ (by first | assumption | exact gu) (by first | assumption | exact gu) (by assumption) _).mono ?_; rintro e w' ⟨rfl, m, rfl⟩)
 go_ret2
 exact ⟨rfl, _, rfl⟩
theorem UA (fx fy alt : Int) (x : En) (spd bank oalt gr : Int) (h1 : -200000 ≤ alt) (h1b : alt ≤ 6000000) (h2 : -200000 ≤ x.lo) (h2b : x.lo ≤ 6000000) (hg : 1 ≤ gr) (hgb : gr ≤ 100000) (hc : qH x.crs) (w : World) :
 Calls Tryz.prog 57 #[.agg #[.int .i64 fx, .int .i64 fy], .int .i64 alt, .agg x.cells.toArray, .agg #[.int .i64 spd, .int .i64 bank, .int .i64 oalt, .int .i64 gr]] w fun e w' => e = .returned (.tuple #[.agg (yp fx fy alt x gr).1.cells.toArray, .int .i64 (yp fx fy alt x gr).2]) ∧ Below w.heap.size w w' := by
 have NB := fR h1 h2b hg
 obtain ⟨N, hN⟩ : ∃ N, xp alt x.lo gr = N := ⟨_, rfl⟩
 have HN := hide hN
 rw [hN] at NB
 have HT : Hid (yp fx fy alt x gr = if N > 8000000 then (Tk.zero, 2) else kw fx fy x.crs N) := hide (by unfold yp; rw [hN])
 clear hN
 by_cases hlt : alt < x.lo
 · have CE := fun W => iA ((x.lo - alt) * 6000) gr (by unfold qH; omega) (by unfold qH; omega) W
   rw [Pu hlt h1 h2b hg, HN.out] at CE
   have hM := qB w
   go_enter Tryz.func57, Tryz.ntmps57
   go_wp2_with (first | (go_at_call 94; (with_reducible refine (CE _).mono ?_); rintro e W1 ⟨rfl, n, rfl⟩; replace hM := zK hM n) | (go_at_call 58; (with_reducible refine (VZ _ _ _ _ ?_ ?_ _).mono ?_); (· first | assumption | (unfold qH; omega)); (· first | assumption | (unfold qH; omega)); rintro e W1 ⟨rfl, hb⟩; replace hM := qp hM hb; clear hb) | ((with_reducible refine lX ?_); refine mL ?_) | ((with_reducible refine sX ?_); refine mS ?_; clear hM; intro W hM) | ((with_reducible refine bX ?_); refine mB ?_; clear hM; intro g W hM) | ((with_reducible refine zX ?_); refine mB ?_; clear hM; intro g W hM))
   all_goals
    refine' qR hM rfl rfl Tryz.isAgg69 Tryz.sizeOf69 rfl rfl ?_ ?_ ⟨?_, hM.below⟩
    rotate_left 2
    · repeat constructor
    · rfl
    · rw [HT.out]; first | rw [if_pos (by omega)]; rfl | rw [if_neg (by omega)]; rfl
 · have hN0 : N = 0 := by rw [← HN.out]; unfold xp; rw [if_neg hlt]
   subst hN0
   have hM := qB w
   go_enter Tryz.func57, Tryz.ntmps57
   go_wp2_with (first | (go_at_call 94; (with_reducible refine (CE _).mono ?_); rintro e W1 ⟨rfl, n, rfl⟩; replace hM := zK hM n) | (go_at_call 58; (with_reducible refine (VZ _ _ _ _ ?_ ?_ _).mono ?_); (· first | assumption | (unfold qH; omega)); (· first | assumption | (unfold qH; omega)); rintro e W1 ⟨rfl, hb⟩; replace hM := qp hM hb; clear hb) | ((with_reducible refine lX ?_); refine mL ?_) | ((with_reducible refine sX ?_); refine mS ?_; clear hM; intro W hM) | ((with_reducible refine bX ?_); refine mB ?_; clear hM; intro g W hM) | ((with_reducible refine zX ?_); refine mB ?_; clear hM; intro g W hM))
   all_goals
    refine' qR hM rfl rfl Tryz.isAgg69 Tryz.sizeOf69 rfl rfl ?_ ?_ ⟨?_, hM.below⟩
    rotate_left 2
    · repeat constructor
    · rfl
    · rw [HT.out]; first | rw [if_pos (by omega)]; rfl | rw [if_neg (by omega)]; rfl
theorem pJ (fx fy : Int) (x : En) (hd : 0 ≤ x.dst) (hd2 : x.dst ≤ 2000000) (hc : qH x.crs) (w : World) :
 Calls Tryz.prog 59 #[.agg #[.int .i64 fx, .int .i64 fy], .agg x.cells.toArray] w fun e w' => e = .returned (.tuple #[.agg (jX fx fy x).1.cells.toArray, .int .i64 (jX fx fy x).2]) ∧ Below w.heap.size w w' := by
 obtain ⟨px, py, pe, hP⟩ : ∃ px py pe, zi fx fy x.crs 60000 = (px, py, pe) := ⟨_, _, _, rfl⟩
 have HP := hide hP
 have RA := fun W => jp fx fy x.crs 60000 hc (by unfold qH; omega) W _ rfl
 rw [hP] at RA
 clear hP
 have ob := De fx fy px py x.mx x.my
 obtain ⟨o, al, oe, hO⟩ : ∃ o al oe, VS fx fy px py x.mx x.my = (o, al, oe) := ⟨_, _, _, rfl⟩
 have HO := hide hO
 have OA := fun W => ZO fx fy px py x.mx x.my W _ rfl
 rw [hO] at OA ob
 clear hO
 have HT : Hid (jX fx fy x = if pe ≠ 0 then (Tk.zero, pe) else if oe ≠ 0 then (Tk.zero, oe) else if o > x.dst ∨ o < -x.dst then (Tk.zero, 10) else if ¬ (al - vO (x.dst * x.dst - o * o).toNat < 0) then kw fx fy x.crs (al - vO (x.dst * x.dst - o * o).toNat) else
  if al + vO (x.dst * x.dst - o * o).toNat < 0 then (Tk.zero, 10) else kw fx fy x.crs (al + vO (x.dst * x.dst - o * o).toNat)) := hide (by unfold jX; rw [HP.out]; dsimp only; rw [HO.out])
 by_cases hr : o > x.dst ∨ o < -x.dst
 · have hM := qB w
   go_enter Tryz.func59, Tryz.ntmps59
   go_wp2_with (first | (go_at_call 70; (with_reducible refine cb hM (RA _) ?_); clear hM; intro W1 hM) | (go_at_call 92; (with_reducible refine cb hM (OA _) ?_); clear hM; intro W1 hM) | ((with_reducible refine lX ?_); refine mL ?_) | ((with_reducible refine sX ?_); refine mS ?_; clear hM; intro W hM) | ((with_reducible refine bX ?_); refine mB ?_; clear hM; intro g W hM) | ((with_reducible refine zX ?_); refine mB ?_; clear hM; intro g W hM))
   all_goals
    refine' qR hM rfl rfl Tryz.isAgg69 Tryz.sizeOf69 rfl rfl ?_ ?_ ⟨?_, hM.below⟩
    rotate_left 2
    · repeat constructor
    · rfl
    · refine' zN ?_ ?_; rotate_left 1; (· (rw [HT.out]; (repeat (first | (refine (if_pos ?_).trans ?_; (· exact zMResA0)) | (refine (if_neg ?_).trans ?_; (· exact zMResA0)))); rfl)); (· rfl)
 · have q1 := UC (a := x.dst) (b := x.dst) (k := 2000000) (by omega) (by omega) (by omega)
   have q2 := UC (a := o) (b := o) (k := 2000000) (by omega) (by omega) (by omega)
   have hq := Dd (x.dst * x.dst - o * o).toNat
   have hr1 : o ≤ x.dst := by omega
   have hr2 : -x.dst ≤ o := by omega
   clear hr
   have SQ := fun W => Kc (x.dst * x.dst - o * o) (by unfold qH; omega) W
   obtain ⟨h, hh⟩ : ∃ h, vO (x.dst * x.dst - o * o).toNat = h := ⟨_, rfl⟩
   rw [hh] at SQ HT hq
   clear hh
   have hM := qB w
   go_enter Tryz.func59, Tryz.ntmps59
   go_wp2_with (first | (go_at_call 70; (with_reducible refine cb hM (RA _) ?_); clear hM; intro W1 hM) | (go_at_call 92; (with_reducible refine cb hM (OA _) ?_); clear hM; intro W1 hM) | (go_at_call 65; (with_reducible refine (SQ _).mono ?_); rintro e W1 ⟨rfl, n, rfl⟩; replace hM := zK hM n) | (go_at_call 58; (with_reducible refine (VZ _ _ _ _ ?_ ?_ _).mono ?_); (· first | assumption | (unfold qH; omega)); (· first | assumption | (unfold qH; omega)); rintro e W1 ⟨rfl, hb⟩; replace hM := qp hM hb; clear hb) | ((with_reducible refine lX ?_); refine mL ?_) | ((with_reducible refine sX ?_); refine mS ?_; clear hM; intro W hM) | ((with_reducible refine bX ?_); refine mB ?_; clear hM; intro g W hM) | ((with_reducible refine zX ?_); refine mB ?_; clear hM; intro g W hM))
   all_goals
    refine' qR hM rfl rfl Tryz.isAgg69 Tryz.sizeOf69 rfl rfl ?_ ?_ ⟨?_, hM.below⟩
    rotate_left 2
    · repeat constructor
    · rfl
    · refine' zN ?_ ?_; rotate_left 1; (· (rw [HT.out]; (repeat (first | (refine (if_pos ?_).trans ?_; (· exact zMResA0)) | (refine (if_neg ?_).trans ?_; (· exact zMResA0)))); rfl)); (· rfl)
theorem fL (fx fy : Int) (x : En) (hc : qH x.crs) (ht : qH x.tht) (w : World) :
 Calls Tryz.prog 60 #[.agg #[.int .i64 fx, .int .i64 fy], .agg x.cells.toArray] w fun e w' => e = .returned (.tuple #[.agg (vp fx fy x).1.cells.toArray, .int .i64 (vp fx fy x).2]) ∧ Below w.heap.size w w' := by
 have hM := qB w
 go_enter Tryz.func60, Tryz.ntmps60
 go_wp2_with (first | (go_at_call 70; (with_reducible refine (jp _ _ _ _ ?_ ?_ _ _ rfl).mono ?_); (· first | assumption | (unfold qH; omega)); (· first | assumption | (unfold qH; omega)); rintro e W1 ⟨rfl, hb⟩; replace hM := qp hM hb; clear hb) | (go_at_call 95; (with_reducible refine cb hM (xY _ _ _ _ _ _ _ _ _ _ rfl) ?_); clear hM; intro W1 hM) | (go_at_call 96; (with_reducible refine cb hM (bP _ _ _ _ _ _ _) ?_); clear hM; intro W1 hM) | (go_at_call 97; (with_reducible refine cb hM (tK _ _ _ _ _ _) ?_); clear hM; intro W1 hM) | ((with_reducible refine lX ?_); refine mL ?_) | ((with_reducible refine sX ?_); refine mS ?_; clear hM; intro W hM) | ((with_reducible refine bX ?_); refine mB ?_; clear hM; intro g W hM) | ((with_reducible refine zX ?_); refine mB ?_; clear hM; intro g W hM))
 all_goals
  refine' qR hM rfl rfl Tryz.isAgg69 Tryz.sizeOf69 rfl rfl ?_ ?_ ⟨?_, hM.below⟩
  rotate_left 2
  · repeat constructor
  · rfl
  · refine' zN ?_ ?_; rotate_left 1; (· (unfold vp; (try dsimp only); (repeat (first | (refine (if_pos ?_).trans ?_; (· exact zMResA0)) | (refine (if_neg ?_).trans ?_; (· exact zMResA0)))); rfl)); (· first | rfl | exact congrArg Tk.cells (vH _ _ _ _ _ _))
end Go.Proofs.YteanfgobpjdmnaaGreatDoor
