/-
  resolve: rays, lines to points, climbs; for all arguments.
-/
import Derived.Test.YtbhpklpkcgcmfaaGreatDoorMLineD
import Derived.Test.YtbhpklpkcgcmfaaGreatDoorMLineE
import Derived.Test.YtbhpklpkcgcmfaaGreatDoorMMem
import Derived.Test.YtbhpklpkcgcmfaaGreatDoorMResP
set_option maxRecDepth 100000
set_option maxHeartbeats 16000000
namespace Go.Proofs.YtbhpklpkcgcmfaaGreatDoor
open Go.RowKit
set_option linter.unusedVariables false
set_option linter.unusedSimpArgs false
theorem rray_t (ax ay c l : Int) (hc : I64 c) (hl : I64 l) (w : World) :
 Calls Tryz.prog 109 #[.agg #[.int .i64 ax, .int .i64 ay], .int .i64 c, .int .i64 l] w fun e w' => e = .returned (.tuple #[.agg (rayT ax ay c l).1.cells.toArray, .int .i64 (rayT ax ay c l).2]) ∧ Below w.heap.size w w' := by
 have hM := mem_nil w
 go_enter Tryz.func109, Tryz.ntmps109
 go_wp2_with (first | (go_at_call 71; (with_reducible refine (ray_any _ _ _ _ ?_ ?_ _ _ rfl).mono ?_); (· first | assumption | (unfold I64; omega)); (· first | assumption | (unfold I64; omega)); rintro e W1 ⟨rfl, hb⟩; replace hM := mem_below hM hb; clear hb) | ((with_reducible refine lX ?_); first | refine aL hM rfl rfl ?_ | refine aM hM rfl rfl ?_) | ((with_reducible refine sX ?_); refine aS hM rfl rfl rfl ?_; clear hM; intro W hM) | ((with_reducible refine bX ?_); refine aB hM rfl rfl ?_; clear hM; intro g W hM) | ((with_reducible refine zX ?_); refine aN hM rfl rfl ?_; clear hM; intro g W hM))
 all_goals
  refine' end_m2 hM rfl rfl Tryz.isAgg77 Tryz.sizeOf77 rfl rfl ?_ ?_ ⟨?_, hM.below⟩
  rotate_left 2
  · repeat constructor
  · rfl
  · unfold rayT; first | (rw [if_pos (by simp_all)]; rfl) | (rw [if_neg (by simp_all)]; rfl)
theorem before_any (ax ay bx b_y px py : Int) (w : World) :
 Calls Tryz.prog 183 #[.agg #[.int .i64 ax, .int .i64 ay], .agg #[.int .i64 bx, .int .i64 b_y], .agg #[.int .i64 px, .int .i64 py]] w fun e w' => e = .returned (.bool (beforeB ax ay bx b_y px py)) ∧ Below w.heap.size w w' := by
 have hM := mem_nil w
 go_enter Tryz.func183, Tryz.ntmps183
 go_wp2_with (first | (go_at_call 19; (with_reducible refine cb hM (off_any _ _ _ _ _ _ _ _ rfl) ?_); clear hM; intro W1 hM) | ((with_reducible refine lX ?_); first | refine aL hM rfl rfl ?_ | refine aM hM rfl rfl ?_) | ((with_reducible refine sX ?_); refine aS hM rfl rfl rfl ?_; clear hM; intro W hM) | ((with_reducible refine bX ?_); refine aB hM rfl rfl ?_; clear hM; intro g W hM) | ((with_reducible refine zX ?_); refine aN hM rfl rfl ?_; clear hM; intro g W hM))
 all_goals
  go_ret
  exact ⟨rfl, hM.below⟩
theorem until_any (ax ay c bx b_y : Int) (w : World) :
 Calls Tryz.prog 184 #[.agg #[.int .i64 ax, .int .i64 ay], .int .i64 c, .agg #[.int .i64 bx, .int .i64 b_y]] w fun e w' => e = .returned (.agg (untilT ax ay c bx b_y).cells.toArray) ∧ Below w.heap.size w w' := by
 have hM := mem_nil w
 go_enter Tryz.func184, Tryz.ntmps184
 go_upto_region 1 with (first | ((with_reducible refine lX ?_); first | refine aL hM rfl rfl ?_ | refine aM hM rfl rfl ?_) | ((with_reducible refine sX ?_); refine aS hM rfl rfl rfl ?_; clear hM; intro W hM) | ((with_reducible refine bX ?_); refine aB hM rfl rfl ?_; clear hM; intro g W hM) | ((with_reducible refine zX ?_); refine aN hM rfl rfl ?_; clear hM; intro g W hM))
 refine' region_del hM (by kernel_rfl) (.tmp 6) rfl ?_ ?_; rotate_left 1; (· repeat constructor); (clear hM; intro W hM hK hne)
 first | refine kL 0 hM hK ?_ | refine kM 0 hM hK ?_
 try simp only [pS, pN, sA, sB, sC]
 first | refine kL 1 hM hK ?_ | refine kM 1 hM hK ?_
 try simp only [pS, pN, sA, sB, sC]
 refine kP 2 hM hK ?_
 try simp only [pS, pN, sA, sB, sC]
 refine kP 3 hM hK ?_
 try simp only [pS, pN, sA, sB, sC]
 first | refine kL 4 hM hK ?_ | refine kM 4 hM hK ?_
 try simp only [pS, pN, sA, sB, sC]
 first | refine kL 5 hM hK ?_ | refine kM 5 hM hK ?_
 try simp only [pS, pN, sA, sB, sC]
 refine tk_call (i := 6) (nthQ rfl) (by kernel_rfl) rfl (fun K' hK' => ?_)
 go_wp2_with (first | (go_at_call 18; (with_reducible refine cb hM (dist_any _ _ _ _ _) ?_); clear hM; intro W1 hM))
 refine hK'.out _ _ (held_of hM hK) ?_
 clear hK' K'
 try simp only [pS, pN, sA, sB, sC]
 refine kP 7 hM hK ?_
 try simp only [pS, pN, sA, sB, sC]
 refine' tk_store hM (i := 8) (nthQ rfl) (by kernel_rfl) rfl rfl rfl ?_ ?_ ?_ ?_ ?_ ?_ ?_ hK hne ?_; rotate_left 6; (· constructor); (· repeat constructor); (· repeat constructor); (· repeat constructor); (· exact szT rfl); (· rfl); (· exact onecells rfl); (clear hM hK; intro W hM hK)
 try simp only [pS, pN, sA, sB, sC]
 refine tk_done (by kernel_rfl) ?_
 go_wp2_with (first | ((with_reducible refine lX ?_); first | refine aL hM rfl rfl ?_ | refine aM hM rfl rfl ?_) | ((with_reducible refine sX ?_); refine aS hM rfl rfl rfl ?_; clear hM; intro W hM) | ((with_reducible refine bX ?_); refine aB hM rfl rfl ?_; clear hM; intro g W hM) | ((with_reducible refine zX ?_); refine aN hM rfl rfl ?_; clear hM; intro g W hM))
 refine' end_m1 hM rfl rfl Tryz.isAgg77 Tryz.sizeOf77 rfl ?_ ?_ ⟨?_, hM.below⟩
 rotate_left 2
 · repeat constructor
 · rfl
 · rfl
theorem straight_any (ax ay bx b_y c : Int) (w : World) :
 Calls Tryz.prog 52 #[.agg #[.int .i64 ax, .int .i64 ay], .agg #[.int .i64 bx, .int .i64 b_y], .int .i64 c] w fun e w' => e = .returned (.agg (straightF ax ay bx b_y c).cells.toArray) ∧ Below w.heap.size w w' := by
 by_cases he : ax = bx ∧ ay = b_y
 · have HT : Hid (straightF ax ay bx b_y c = tkS 1 ax ay bx b_y c 0) := hide (by unfold straightF; rw [if_pos he])
   obtain ⟨rfl, rfl⟩ := he
   have hM := mem_nil w
   go_enter Tryz.func52, Tryz.ntmps52
   go_wp2_with (first | ((with_reducible refine lX ?_); first | refine aL hM rfl rfl ?_ | refine aM hM rfl rfl ?_) | ((with_reducible refine sX ?_); refine aS hM rfl rfl rfl ?_; clear hM; intro W hM) | ((with_reducible refine bX ?_); refine aB hM rfl rfl ?_; clear hM; intro g W hM) | ((with_reducible refine zX ?_); refine aN hM rfl rfl ?_; clear hM; intro g W hM))
   all_goals
    refine' end_m1 hM rfl rfl Tryz.isAgg77 Tryz.sizeOf77 rfl ?_ ?_ ⟨?_, hM.below⟩
    rotate_left 2
    · repeat constructor
    · rfl
    · rw [HT.out]; rfl
 · have HT : Hid (straightF ax ay bx b_y c = tkS 1 ax ay bx b_y (courseF ax ay bx b_y).1 (distF ax ay bx b_y)) := hide (by unfold straightF; rw [if_neg he])
   have hne : (ax == bx && ay == b_y) = false := by
    rw [Bool.eq_false_iff]; simp; intro h1 h2; exact he ⟨h1, h2⟩
   have hq : ((ax == bx) = false) ∨ ((ax == bx) = true ∧ (ay == b_y) = false) := by
    rcases h : (ax == bx) with _ | _
    · exact .inl rfl
    · rw [h] at hne; exact .inr ⟨rfl, by simpa using hne⟩
   clear he hne
   rcases hq with hx | ⟨hx, hy⟩
   all_goals
    have hM := mem_nil w
    go_enter Tryz.func52, Tryz.ntmps52
    go_upto_region 4 with (first | (go_at_call 28; (with_reducible refine cb hM (course_any _ _ _ _ _) ?_); clear hM; intro W1 hM) | ((with_reducible refine lX ?_); first | refine aL hM rfl rfl ?_ | refine aM hM rfl rfl ?_) | ((with_reducible refine sX ?_); refine aS hM rfl rfl rfl ?_; clear hM; intro W hM) | ((with_reducible refine bX ?_); refine aB hM rfl rfl ?_; clear hM; intro g W hM) | ((with_reducible refine zX ?_); refine aN hM rfl rfl ?_; clear hM; intro g W hM))
    refine' region_del hM (by kernel_rfl) (.tmp 7) rfl ?_ ?_; rotate_left 1; (· repeat constructor); (clear hM; intro W hM hK hne)
    refine kP 0 hM hK ?_
    try simp only [pS, pN, sA, sB, sC]
    first | refine kL 2 hM hK ?_ | refine kM 2 hM hK ?_
    try simp only [pS, pN, sA, sB, sC]
    first | refine kL 3 hM hK ?_ | refine kM 3 hM hK ?_
    try simp only [pS, pN, sA, sB, sC]
    refine tk_two (i := 1) (j := 4) (nthQ rfl) (nthQ rfl) (by kernel_rfl) rfl rfl (fun K' hK' => ?_) (fun K' hK' => ?_)
    ·
     first
      | (refine' mo_load1 hM rfl rfl ?_ ?_ ?_ ?_; rotate_left 3; (· repeat constructor); (· exact scT rfl); (· exact rfl))
      | (refine' mo_load hM rfl rfl ?_ ?_ ?_ ?_ ?_; rotate_left 4; (· repeat constructor); (· exact agT rfl); (· exact szT rfl); (· repeat constructor))
     refine hK'.out _ _ (held_of hM hK) ?_
     clear hK' K'
     try simp only [pS, pN, sA, sB, sC]
     refine kP 5 hM hK ?_
     try simp only [pS, pN, sA, sB, sC]
     refine tk_call (i := 4) (nthQ rfl) (by kernel_rfl) rfl (fun K' hK' => ?_)
     go_wp2_with (first | (go_at_call 18; (with_reducible refine cb hM (dist_any _ _ _ _ _) ?_); clear hM; intro W1 hM))
     refine hK'.out _ _ (held_of hM hK) ?_
     clear hK' K'
     try simp only [pS, pN, sA, sB, sC]
     refine' tk_store hM (i := 6) (nthQ rfl) (by kernel_rfl) rfl rfl rfl ?_ ?_ ?_ ?_ ?_ ?_ ?_ hK hne ?_; rotate_left 6; (· constructor); (· repeat constructor); (· repeat constructor); (· repeat constructor); (· exact szT rfl); (· rfl); (· exact onecells rfl); (clear hM hK; intro W hM hK)
     try simp only [pS, pN, sA, sB, sC]
     refine kP 7 hM hK ?_
     try simp only [pS, pN, sA, sB, sC]
     refine' tk_store hM (i := 8) (nthQ rfl) (by kernel_rfl) rfl rfl rfl ?_ ?_ ?_ ?_ ?_ ?_ ?_ hK hne ?_; rotate_left 6; (· constructor); (· repeat constructor); (· repeat constructor); (· repeat constructor); (· exact szT rfl); (· rfl); (· exact onecells rfl); (clear hM hK; intro W hM hK)
     try simp only [pS, pN, sA, sB, sC]
     refine tk_done (by kernel_rfl) ?_
     go_wp2_with (first | ((with_reducible refine lX ?_); first | refine aL hM rfl rfl ?_ | refine aM hM rfl rfl ?_) | ((with_reducible refine sX ?_); refine aS hM rfl rfl rfl ?_; clear hM; intro W hM) | ((with_reducible refine bX ?_); refine aB hM rfl rfl ?_; clear hM; intro g W hM) | ((with_reducible refine zX ?_); refine aN hM rfl rfl ?_; clear hM; intro g W hM))
     refine' end_m1 hM rfl rfl Tryz.isAgg77 Tryz.sizeOf77 rfl ?_ ?_ ⟨?_, hM.below⟩
     rotate_left 2
     · repeat constructor
     · rfl
     · rw [HT.out]; rfl
    ·
     go_wp2_with (first | (go_at_call 18; (with_reducible refine cb hM (dist_any _ _ _ _ _) ?_); clear hM; intro W1 hM))
     refine hK'.out _ _ (held_of hM hK) ?_
     clear hK' K'
     try simp only [pS, pN, sA, sB, sC]
     refine tk_call (i := 1) (nthQ rfl) (by kernel_rfl) rfl (fun K' hK' => ?_)
     first
      | (refine' mo_load1 hM rfl rfl ?_ ?_ ?_ ?_; rotate_left 3; (· repeat constructor); (· exact scT rfl); (· exact rfl))
      | (refine' mo_load hM rfl rfl ?_ ?_ ?_ ?_ ?_; rotate_left 4; (· repeat constructor); (· exact agT rfl); (· exact szT rfl); (· repeat constructor))
     refine hK'.out _ _ (held_of hM hK) ?_
     clear hK' K'
     try simp only [pS, pN, sA, sB, sC]
     refine kP 5 hM hK ?_
     try simp only [pS, pN, sA, sB, sC]
     refine' tk_store hM (i := 6) (nthQ rfl) (by kernel_rfl) rfl rfl rfl ?_ ?_ ?_ ?_ ?_ ?_ ?_ hK hne ?_; rotate_left 6; (· constructor); (· repeat constructor); (· repeat constructor); (· repeat constructor); (· exact szT rfl); (· rfl); (· exact onecells rfl); (clear hM hK; intro W hM hK)
     try simp only [pS, pN, sA, sB, sC]
     refine kP 7 hM hK ?_
     try simp only [pS, pN, sA, sB, sC]
     refine' tk_store hM (i := 8) (nthQ rfl) (by kernel_rfl) rfl rfl rfl ?_ ?_ ?_ ?_ ?_ ?_ ?_ hK hne ?_; rotate_left 6; (· constructor); (· repeat constructor); (· repeat constructor); (· repeat constructor); (· exact szT rfl); (· rfl); (· exact onecells rfl); (clear hM hK; intro W hM hK)
     try simp only [pS, pN, sA, sB, sC]
     refine tk_done (by kernel_rfl) ?_
     go_wp2_with (first | ((with_reducible refine lX ?_); first | refine aL hM rfl rfl ?_ | refine aM hM rfl rfl ?_) | ((with_reducible refine sX ?_); refine aS hM rfl rfl rfl ?_; clear hM; intro W hM) | ((with_reducible refine bX ?_); refine aB hM rfl rfl ?_; clear hM; intro g W hM) | ((with_reducible refine zX ?_); refine aN hM rfl rfl ?_; clear hM; intro g W hM))
     refine' end_m1 hM rfl rfl Tryz.isAgg77 Tryz.sizeOf77 rfl ?_ ?_ ⟨?_, hM.below⟩
     rotate_left 2
     · repeat constructor
     · rfl
     · rw [HT.out]; rfl
end Go.Proofs.YtbhpklpkcgcmfaaGreatDoor
/-
  resolve: climbs, legs to distances and radials, intercepts, courses to fixes, arcs; for all arguments.
-/
set_option maxRecDepth 100000
set_option maxHeartbeats 16000000
namespace Go.Proofs.YtbhpklpkcgcmfaaGreatDoor
open Go.RowKit
set_option linter.unusedVariables false
set_option linter.unusedSimpArgs false
theorem ceil_any (a b : Int) (ha : I64 a) (hb : I64 b) (w : World) :
 Calls Tryz.prog 181 #[.int .i64 a, .int .i64 b] w fun e w' => e = .returned (.tuple #[.int .i64 (muldiv 1 a 1 b).1, .int .i64 (muldiv 1 a 1 b).2]) ∧ ∃ n, w' = w.drewN n := by
 go_enter Tryz.func181, Tryz.ntmps181
 go_wp2_with (go_at_call 72; refine (scale_up_any _ _ _ (by first | assumption | exact I64_one) (by first | assumption | exact I64_one) (by assumption) _).mono ?_; rintro e w' ⟨rfl, m, rfl⟩)
 go_ret2
 exact ⟨rfl, _, rfl⟩
theorem climb_any (fx fy alt : Int) (x : En) (spd bank oalt gr : Int) (h1 : -200000 ≤ alt) (h1b : alt ≤ 6000000) (h2 : -200000 ≤ x.lo) (h2b : x.lo ≤ 6000000) (hg : 1 ≤ gr) (hgb : gr ≤ 100000) (hc : I64 x.crs) (w : World) :
 Calls Tryz.prog 108 #[.agg #[.int .i64 fx, .int .i64 fy], .int .i64 alt, .agg x.cells.toArray, .agg #[.int .i64 spd, .int .i64 bank, .int .i64 oalt, .int .i64 gr]] w fun e w' => e = .returned (.tuple #[.agg (climbT fx fy alt x gr).1.cells.toArray, .int .i64 (climbT fx fy alt x gr).2]) ∧ Below w.heap.size w w' := by
 have NB := climbN_bd h1 h2b hg
 obtain ⟨N, hN⟩ : ∃ N, climbN alt x.lo gr = N := ⟨_, rfl⟩
 have HN := hide hN
 rw [hN] at NB
 have HT : Hid (climbT fx fy alt x gr = if N > 8000000 then (Tk.zero, 2) else rayT fx fy x.crs N) := hide (by unfold climbT; rw [hN])
 clear hN
 by_cases hlt : alt < x.lo
 · have CE := fun W => ceil_any ((x.lo - alt) * 6000) gr (by unfold I64; omega) (by unfold I64; omega) W
   rw [climb_p hlt h1 h2b hg, HN.out] at CE
   have hM := mem_nil w
   go_enter Tryz.func108, Tryz.ntmps108
   go_wp2_with (first | (go_at_call 181; (with_reducible refine (CE _).mono ?_); rintro e W1 ⟨rfl, n, rfl⟩; replace hM := mem_drewN hM n) | (go_at_call 109; (with_reducible refine (rray_t _ _ _ _ ?_ ?_ _).mono ?_); (· first | assumption | (unfold I64; omega)); (· first | assumption | (unfold I64; omega)); rintro e W1 ⟨rfl, hb⟩; replace hM := mem_below hM hb; clear hb) | ((with_reducible refine lX ?_); first | refine aL hM rfl rfl ?_ | refine aM hM rfl rfl ?_) | ((with_reducible refine sX ?_); refine aS hM rfl rfl rfl ?_; clear hM; intro W hM) | ((with_reducible refine bX ?_); refine aB hM rfl rfl ?_; clear hM; intro g W hM) | ((with_reducible refine zX ?_); refine aN hM rfl rfl ?_; clear hM; intro g W hM))
   all_goals
    refine' end_m2 hM rfl rfl Tryz.isAgg77 Tryz.sizeOf77 rfl rfl ?_ ?_ ⟨?_, hM.below⟩
    rotate_left 2
    · repeat constructor
    · rfl
    · rw [HT.out]; first | rw [if_pos (by omega)]; rfl | rw [if_neg (by omega)]; rfl
 · have hN0 : N = 0 := by rw [← HN.out]; unfold climbN; rw [if_neg hlt]
   subst hN0
   have hM := mem_nil w
   go_enter Tryz.func108, Tryz.ntmps108
   go_wp2_with (first | (go_at_call 181; (with_reducible refine (CE _).mono ?_); rintro e W1 ⟨rfl, n, rfl⟩; replace hM := mem_drewN hM n) | (go_at_call 109; (with_reducible refine (rray_t _ _ _ _ ?_ ?_ _).mono ?_); (· first | assumption | (unfold I64; omega)); (· first | assumption | (unfold I64; omega)); rintro e W1 ⟨rfl, hb⟩; replace hM := mem_below hM hb; clear hb) | ((with_reducible refine lX ?_); first | refine aL hM rfl rfl ?_ | refine aM hM rfl rfl ?_) | ((with_reducible refine sX ?_); refine aS hM rfl rfl rfl ?_; clear hM; intro W hM) | ((with_reducible refine bX ?_); refine aB hM rfl rfl ?_; clear hM; intro g W hM) | ((with_reducible refine zX ?_); refine aN hM rfl rfl ?_; clear hM; intro g W hM))
   all_goals
    refine' end_m2 hM rfl rfl Tryz.isAgg77 Tryz.sizeOf77 rfl rfl ?_ ?_ ⟨?_, hM.below⟩
    rotate_left 2
    · repeat constructor
    · rfl
    · rw [HT.out]; first | rw [if_pos (by omega)]; rfl | rw [if_neg (by omega)]; rfl
theorem todist_any (fx fy : Int) (x : En) (hd : 0 ≤ x.dst) (hd2 : x.dst ≤ 2000000) (hc : I64 x.crs) (w : World) :
 Calls Tryz.prog 110 #[.agg #[.int .i64 fx, .int .i64 fy], .agg x.cells.toArray] w fun e w' => e = .returned (.tuple #[.agg (toDistT fx fy x).1.cells.toArray, .int .i64 (toDistT fx fy x).2]) ∧ Below w.heap.size w w' := by
 obtain ⟨px, py, pe, hP⟩ : ∃ px py pe, rayF fx fy x.crs 60000 = (px, py, pe) := ⟨_, _, _, rfl⟩
 have HP := hide hP
 have RA := fun W => ray_any fx fy x.crs 60000 hc (by unfold I64; omega) W _ rfl
 rw [hP] at RA
 clear hP
 have ob := off_bd fx fy px py x.mx x.my
 obtain ⟨o, al, oe, hO⟩ : ∃ o al oe, offF fx fy px py x.mx x.my = (o, al, oe) := ⟨_, _, _, rfl⟩
 have HO := hide hO
 have OA := fun W => off_any fx fy px py x.mx x.my W _ rfl
 rw [hO] at OA ob
 clear hO
 have HT : Hid (toDistT fx fy x = if pe ≠ 0 then (Tk.zero, pe) else if oe ≠ 0 then (Tk.zero, oe) else if o > x.dst ∨ o < -x.dst then (Tk.zero, 10) else if ¬ (al - isq (x.dst * x.dst - o * o).toNat < 0) then rayT fx fy x.crs (al - isq (x.dst * x.dst - o * o).toNat) else
  if al + isq (x.dst * x.dst - o * o).toNat < 0 then (Tk.zero, 10) else rayT fx fy x.crs (al + isq (x.dst * x.dst - o * o).toNat)) := hide (by unfold toDistT; rw [HP.out]; dsimp only; rw [HO.out])
 by_cases hr : o > x.dst ∨ o < -x.dst
 · have hM := mem_nil w
   go_enter Tryz.func110, Tryz.ntmps110
   go_wp2_with (first | (go_at_call 71; (with_reducible refine cb hM (RA _) ?_); clear hM; intro W1 hM) | (go_at_call 19; (with_reducible refine cb hM (OA _) ?_); clear hM; intro W1 hM) | ((with_reducible refine lX ?_); first | refine aL hM rfl rfl ?_ | refine aM hM rfl rfl ?_) | ((with_reducible refine sX ?_); refine aS hM rfl rfl rfl ?_; clear hM; intro W hM) | ((with_reducible refine bX ?_); refine aB hM rfl rfl ?_; clear hM; intro g W hM) | ((with_reducible refine zX ?_); refine aN hM rfl rfl ?_; clear hM; intro g W hM))
   all_goals
    refine' end_m2 hM rfl rfl Tryz.isAgg77 Tryz.sizeOf77 rfl rfl ?_ ?_ ⟨?_, hM.below⟩
    rotate_left 2
    · repeat constructor
    · rfl
    · refine' ret_tk ?_ ?_; rotate_left 1; (· (rw [HT.out]; (repeat (first | (refine (if_pos ?_).trans ?_; (· first | omega | (exact bne_t (by assumption)) | (exact bne_f (by assumption)) | (simp_all; done) | (simp_all; omega))) | (refine (if_neg ?_).trans ?_; (· first | omega | (exact bne_t (by assumption)) | (exact bne_f (by assumption)) | (simp_all; done) | (simp_all; omega))))); rfl)); (· rfl)
 · have q1 := pr_bd (a := x.dst) (b := x.dst) (k := 2000000) (by omega) (by omega) (by omega)
   have q2 := pr_bd (a := o) (b := o) (k := 2000000) (by omega) (by omega) (by omega)
   have hq := isq_le (x.dst * x.dst - o * o).toNat
   have hr1 : o ≤ x.dst := by omega
   have hr2 : -x.dst ≤ o := by omega
   clear hr
   have SQ := fun W => sqrt_any (x.dst * x.dst - o * o) (by unfold I64; omega) W
   obtain ⟨h, hh⟩ : ∃ h, isq (x.dst * x.dst - o * o).toNat = h := ⟨_, rfl⟩
   rw [hh] at SQ HT hq
   clear hh
   have hM := mem_nil w
   go_enter Tryz.func110, Tryz.ntmps110
   go_wp2_with (first | (go_at_call 71; (with_reducible refine cb hM (RA _) ?_); clear hM; intro W1 hM) | (go_at_call 19; (with_reducible refine cb hM (OA _) ?_); clear hM; intro W1 hM) | (go_at_call 42; (with_reducible refine (SQ _).mono ?_); rintro e W1 ⟨rfl, n, rfl⟩; replace hM := mem_drewN hM n) | (go_at_call 109; (with_reducible refine (rray_t _ _ _ _ ?_ ?_ _).mono ?_); (· first | assumption | (unfold I64; omega)); (· first | assumption | (unfold I64; omega)); rintro e W1 ⟨rfl, hb⟩; replace hM := mem_below hM hb; clear hb) | ((with_reducible refine lX ?_); first | refine aL hM rfl rfl ?_ | refine aM hM rfl rfl ?_) | ((with_reducible refine sX ?_); refine aS hM rfl rfl rfl ?_; clear hM; intro W hM) | ((with_reducible refine bX ?_); refine aB hM rfl rfl ?_; clear hM; intro g W hM) | ((with_reducible refine zX ?_); refine aN hM rfl rfl ?_; clear hM; intro g W hM))
   all_goals
    refine' end_m2 hM rfl rfl Tryz.isAgg77 Tryz.sizeOf77 rfl rfl ?_ ?_ ⟨?_, hM.below⟩
    rotate_left 2
    · repeat constructor
    · rfl
    · refine' ret_tk ?_ ?_; rotate_left 1; (· (rw [HT.out]; (repeat (first | (refine (if_pos ?_).trans ?_; (· first | omega | (exact bne_t (by assumption)) | (exact bne_f (by assumption)) | (simp_all; done) | (simp_all; omega))) | (refine (if_neg ?_).trans ?_; (· first | omega | (exact bne_t (by assumption)) | (exact bne_f (by assumption)) | (simp_all; done) | (simp_all; omega))))); rfl)); (· rfl)
theorem torad_any (fx fy : Int) (x : En) (hc : I64 x.crs) (ht : I64 x.tht) (w : World) :
 Calls Tryz.prog 111 #[.agg #[.int .i64 fx, .int .i64 fy], .agg x.cells.toArray] w fun e w' => e = .returned (.tuple #[.agg (toRadT fx fy x).1.cells.toArray, .int .i64 (toRadT fx fy x).2]) ∧ Below w.heap.size w w' := by
 have hM := mem_nil w
 go_enter Tryz.func111, Tryz.ntmps111
 go_wp2_with (first | (go_at_call 71; (with_reducible refine (ray_any _ _ _ _ ?_ ?_ _ _ rfl).mono ?_); (· first | assumption | (unfold I64; omega)); (· first | assumption | (unfold I64; omega)); rintro e W1 ⟨rfl, hb⟩; replace hM := mem_below hM hb; clear hb) | (go_at_call 182; (with_reducible refine cb hM (meet_any _ _ _ _ _ _ _ _ _ _ rfl) ?_); clear hM; intro W1 hM) | (go_at_call 183; (with_reducible refine cb hM (before_any _ _ _ _ _ _ _) ?_); clear hM; intro W1 hM) | (go_at_call 184; (with_reducible refine cb hM (until_any _ _ _ _ _ _) ?_); clear hM; intro W1 hM) | ((with_reducible refine lX ?_); first | refine aL hM rfl rfl ?_ | refine aM hM rfl rfl ?_) | ((with_reducible refine sX ?_); refine aS hM rfl rfl rfl ?_; clear hM; intro W hM) | ((with_reducible refine bX ?_); refine aB hM rfl rfl ?_; clear hM; intro g W hM) | ((with_reducible refine zX ?_); refine aN hM rfl rfl ?_; clear hM; intro g W hM))
 all_goals
  refine' end_m2 hM rfl rfl Tryz.isAgg77 Tryz.sizeOf77 rfl rfl ?_ ?_ ⟨?_, hM.below⟩
  rotate_left 2
  · repeat constructor
  · rfl
  · refine' ret_tk ?_ ?_; rotate_left 1; (· (unfold toRadT; (try dsimp only); (repeat (first | (refine (if_pos ?_).trans ?_; (· first | omega | (exact bne_t (by assumption)) | (exact bne_f (by assumption)) | (simp_all; done) | (simp_all; omega))) | (refine (if_neg ?_).trans ?_; (· first | omega | (exact bne_t (by assumption)) | (exact bne_f (by assumption)) | (simp_all; done) | (simp_all; omega))))); rfl)); (· first | rfl | exact congrArg Tk.cells (straight_co _ _ _ _ _ _))
end Go.Proofs.YtbhpklpkcgcmfaaGreatDoor
