/-
  resolve: climbs, legs to distances and radials, intercepts, courses to fixes, arcs; for all arguments.
-/
import Derived.Test.YtjjdojokkmfbmaaGreatDoorMLineC
import Derived.Test.YtjjdojokkmfbmaaGreatDoorMResA
set_option maxRecDepth 100000
set_option maxHeartbeats 16000000
namespace Go.Proofs.YtjjdojokkmfbmaaGreatDoor
open Go.RowKit
set_option linter.unusedVariables false
set_option linter.unusedSimpArgs false
theorem ceil_any (a b : Int) (ha : I64 a) (hb : I64 b) (w : World) :
    Calls Tryz.prog 68 #[.int .i64 a, .int .i64 b] w fun e w' => e = .returned (.tuple #[.int .i64 (muldiv 1 a 1 b).1, .int .i64 (muldiv 1 a 1 b).2]) ∧ ∃ n, w' = w.drewN n := by
  go_enter Tryz.func68, Tryz.ntmps68
  go_wp2_with (go_at_call 119; refine (scale_up_any _ _ _ (by first | assumption | exact I64_one) (by first | assumption | exact I64_one) (by assumption) _).mono ?_; rintro e w' ⟨rfl, m, rfl⟩)
  go_ret2
  exact ⟨rfl, _, rfl⟩
theorem climb_any (fx fy alt : Int) (x : En) (spd bank oalt gr : Int) (h1 : -200000 ≤ alt) (h1b : alt ≤ 6000000) (h2 : -200000 ≤ x.lo) (h2b : x.lo ≤ 6000000) (hg : 1 ≤ gr) (hgb : gr ≤ 100000) (hc : I64 x.crs) (w : World) :
    Calls Tryz.prog 29 #[.agg #[.int .i64 fx, .int .i64 fy], .int .i64 alt, .agg x.cells.toArray, .agg #[.int .i64 spd, .int .i64 bank, .int .i64 oalt, .int .i64 gr]] w fun e w' => e = .returned (.tuple #[.agg (climbT fx fy alt x gr).1.cells.toArray, .int .i64 (climbT fx fy alt x gr).2]) ∧ Below w.heap.size w w' := by
  have NB := climbN_bd h1 h2b hg
  obtain ⟨N, hN⟩ : ∃ N, climbN alt x.lo gr = N := ⟨_, rfl⟩
  have HN := hide hN
  rw [hN] at NB
  have HT : Hid (climbT fx fy alt x gr = if N > 8000000 then (Tk.zero, 2) else rayT fx fy x.crs N) := hide (by unfold climbT; rw [hN])
  clear hN
  by_cases hlt : alt < x.lo
  · have CE := fun W => ceil_any ((x.lo - alt) * 6000) gr (by unfold I64; omega) (by unfold I64; omega) W
    rw [climb_p hlt h1 h2b hg, HN.out] at CE
    have hM := mem_nil w
    go_enter Tryz.func29, Tryz.ntmps29
    go_wp2_with (first | (go_at_call 68; (with_reducible refine (CE _).mono ?_); rintro e W1 ⟨rfl, n, rfl⟩; replace hM := mem_drewN hM n) | (go_at_call 30; (with_reducible refine (rray_t _ _ _ _ ?_ ?_ _).mono ?_); (· first | assumption | (unfold I64; omega)); (· first | assumption | (unfold I64; omega)); rintro e W1 ⟨rfl, hb⟩; replace hM := mem_below hM hb; clear hb) | ((with_reducible refine lX ?_); first | refine aL hM rfl rfl ?_ | refine aM hM rfl rfl ?_) | ((with_reducible refine sX ?_); refine aS hM rfl rfl rfl ?_; clear hM; intro W hM) | ((with_reducible refine bX ?_); refine aB hM rfl rfl ?_; clear hM; intro g W hM) | ((with_reducible refine zX ?_); refine aN hM rfl rfl ?_; clear hM; intro g W hM))
    all_goals
      refine' end_m2 hM rfl rfl Tryz.isAgg44 Tryz.sizeOf44 rfl rfl ?_ ?_ ⟨?_, hM.below⟩
      rotate_left 2
      · repeat constructor
      · rfl
      · rw [HT.out]; first | rw [if_pos (by omega)]; rfl | rw [if_neg (by omega)]; rfl
  · have hN0 : N = 0 := by rw [← HN.out]; unfold climbN; rw [if_neg hlt]
    subst hN0
    have hM := mem_nil w
    go_enter Tryz.func29, Tryz.ntmps29
    go_wp2_with (first | (go_at_call 68; (with_reducible refine (CE _).mono ?_); rintro e W1 ⟨rfl, n, rfl⟩; replace hM := mem_drewN hM n) | (go_at_call 30; (with_reducible refine (rray_t _ _ _ _ ?_ ?_ _).mono ?_); (· first | assumption | (unfold I64; omega)); (· first | assumption | (unfold I64; omega)); rintro e W1 ⟨rfl, hb⟩; replace hM := mem_below hM hb; clear hb) | ((with_reducible refine lX ?_); first | refine aL hM rfl rfl ?_ | refine aM hM rfl rfl ?_) | ((with_reducible refine sX ?_); refine aS hM rfl rfl rfl ?_; clear hM; intro W hM) | ((with_reducible refine bX ?_); refine aB hM rfl rfl ?_; clear hM; intro g W hM) | ((with_reducible refine zX ?_); refine aN hM rfl rfl ?_; clear hM; intro g W hM))
    all_goals
      refine' end_m2 hM rfl rfl Tryz.isAgg44 Tryz.sizeOf44 rfl rfl ?_ ?_ ⟨?_, hM.below⟩
      rotate_left 2
      · repeat constructor
      · rfl
      · rw [HT.out]; first | rw [if_pos (by omega)]; rfl | rw [if_neg (by omega)]; rfl
theorem todist_any (fx fy : Int) (x : En) (hd : 0 ≤ x.dst) (hd2 : x.dst ≤ 2000000) (hc : I64 x.crs) (w : World) :
    Calls Tryz.prog 31 #[.agg #[.int .i64 fx, .int .i64 fy], .agg x.cells.toArray] w fun e w' => e = .returned (.tuple #[.agg (toDistT fx fy x).1.cells.toArray, .int .i64 (toDistT fx fy x).2]) ∧ Below w.heap.size w w' := by
  obtain ⟨px, py, pe, hP⟩ : ∃ px py pe, rayF fx fy x.crs 60000 = (px, py, pe) := ⟨_, _, _, rfl⟩
  have HP := hide hP
  have RA := fun W => ray_any fx fy x.crs 60000 hc (by unfold I64; omega) W _ rfl
  rw [hP] at RA
  clear hP
  have ob := off_bd fx fy px py x.mx x.my
  obtain ⟨o, al, oe, hO⟩ : ∃ o al oe, offF fx fy px py x.mx x.my = (o, al, oe) := ⟨_, _, _, rfl⟩
  have HO := hide hO
  have OA := fun W => off_any fx fy px py x.mx x.my W _ rfl
  rw [hO] at OA ob
  clear hO
  have HT : Hid (toDistT fx fy x = if pe ≠ 0 then (Tk.zero, pe) else if oe ≠ 0 then (Tk.zero, oe) else if o > x.dst ∨ o < -x.dst then (Tk.zero, 10) else if ¬ (al - isq (x.dst * x.dst - o * o).toNat < 0) then rayT fx fy x.crs (al - isq (x.dst * x.dst - o * o).toNat) else
    if al + isq (x.dst * x.dst - o * o).toNat < 0 then (Tk.zero, 10) else rayT fx fy x.crs (al + isq (x.dst * x.dst - o * o).toNat)) := hide (by unfold toDistT; rw [HP.out]; dsimp only; rw [HO.out])
  by_cases hr : o > x.dst ∨ o < -x.dst
  · have hM := mem_nil w
    go_enter Tryz.func31, Tryz.ntmps31
    go_wp2_with (first | (go_at_call 60; (with_reducible refine cb hM (RA _) ?_); clear hM; intro W1 hM) | (go_at_call 62; (with_reducible refine cb hM (OA _) ?_); clear hM; intro W1 hM) | ((with_reducible refine lX ?_); first | refine aL hM rfl rfl ?_ | refine aM hM rfl rfl ?_) | ((with_reducible refine sX ?_); refine aS hM rfl rfl rfl ?_; clear hM; intro W hM) | ((with_reducible refine bX ?_); refine aB hM rfl rfl ?_; clear hM; intro g W hM) | ((with_reducible refine zX ?_); refine aN hM rfl rfl ?_; clear hM; intro g W hM))
    all_goals
      refine' end_m2 hM rfl rfl Tryz.isAgg44 Tryz.sizeOf44 rfl rfl ?_ ?_ ⟨?_, hM.below⟩
      rotate_left 2
      · repeat constructor
      · rfl
      · refine' ret_tk ?_ ?_; rotate_left 1; (· (rw [HT.out]; (repeat (first | (refine (if_pos ?_).trans ?_; (· first | omega | (exact bne_t (by assumption)) | (exact bne_f (by assumption)) | (simp_all; done) | (simp_all; omega))) | (refine (if_neg ?_).trans ?_; (· first | omega | (exact bne_t (by assumption)) | (exact bne_f (by assumption)) | (simp_all; done) | (simp_all; omega))))); rfl)); (· rfl)
  · have q1 := pr_bd (a := x.dst) (b := x.dst) (k := 2000000) (by omega) (by omega) (by omega)
    have q2 := pr_bd (a := o) (b := o) (k := 2000000) (by omega) (by omega) (by omega)
    have hq := isq_le (x.dst * x.dst - o * o).toNat
    have hr1 : o ≤ x.dst := by omega
    have hr2 : -x.dst ≤ o := by omega
    clear hr
    have SQ := fun W => sqrt_any (x.dst * x.dst - o * o) (by unfold I64; omega) W
    obtain ⟨h, hh⟩ : ∃ h, isq (x.dst * x.dst - o * o).toNat = h := ⟨_, rfl⟩
    rw [hh] at SQ HT hq
    clear hh
    have hM := mem_nil w
    go_enter Tryz.func31, Tryz.ntmps31
    go_wp2_with (first | (go_at_call 60; (with_reducible refine cb hM (RA _) ?_); clear hM; intro W1 hM) | (go_at_call 62; (with_reducible refine cb hM (OA _) ?_); clear hM; intro W1 hM) | (go_at_call 48; (with_reducible refine (SQ _).mono ?_); rintro e W1 ⟨rfl, n, rfl⟩; replace hM := mem_drewN hM n) | (go_at_call 30; (with_reducible refine (rray_t _ _ _ _ ?_ ?_ _).mono ?_); (· first | assumption | (unfold I64; omega)); (· first | assumption | (unfold I64; omega)); rintro e W1 ⟨rfl, hb⟩; replace hM := mem_below hM hb; clear hb) | ((with_reducible refine lX ?_); first | refine aL hM rfl rfl ?_ | refine aM hM rfl rfl ?_) | ((with_reducible refine sX ?_); refine aS hM rfl rfl rfl ?_; clear hM; intro W hM) | ((with_reducible refine bX ?_); refine aB hM rfl rfl ?_; clear hM; intro g W hM) | ((with_reducible refine zX ?_); refine aN hM rfl rfl ?_; clear hM; intro g W hM))
    all_goals
      refine' end_m2 hM rfl rfl Tryz.isAgg44 Tryz.sizeOf44 rfl rfl ?_ ?_ ⟨?_, hM.below⟩
      rotate_left 2
      · repeat constructor
      · rfl
      · refine' ret_tk ?_ ?_; rotate_left 1; (· (rw [HT.out]; (repeat (first | (refine (if_pos ?_).trans ?_; (· first | omega | (exact bne_t (by assumption)) | (exact bne_f (by assumption)) | (simp_all; done) | (simp_all; omega))) | (refine (if_neg ?_).trans ?_; (· first | omega | (exact bne_t (by assumption)) | (exact bne_f (by assumption)) | (simp_all; done) | (simp_all; omega))))); rfl)); (· rfl)
theorem torad_any (fx fy : Int) (x : En) (hc : I64 x.crs) (ht : I64 x.tht) (w : World) :
    Calls Tryz.prog 32 #[.agg #[.int .i64 fx, .int .i64 fy], .agg x.cells.toArray] w fun e w' => e = .returned (.tuple #[.agg (toRadT fx fy x).1.cells.toArray, .int .i64 (toRadT fx fy x).2]) ∧ Below w.heap.size w w' := by
  have hM := mem_nil w
  go_enter Tryz.func32, Tryz.ntmps32
  go_wp2_with (first | (go_at_call 60; (with_reducible refine (ray_any _ _ _ _ ?_ ?_ _ _ rfl).mono ?_); (· first | assumption | (unfold I64; omega)); (· first | assumption | (unfold I64; omega)); rintro e W1 ⟨rfl, hb⟩; replace hM := mem_below hM hb; clear hb) | (go_at_call 69; (with_reducible refine cb hM (meet_any _ _ _ _ _ _ _ _ _ _ rfl) ?_); clear hM; intro W1 hM) | (go_at_call 70; (with_reducible refine cb hM (before_any _ _ _ _ _ _ _) ?_); clear hM; intro W1 hM) | (go_at_call 71; (with_reducible refine cb hM (until_any _ _ _ _ _ _) ?_); clear hM; intro W1 hM) | ((with_reducible refine lX ?_); first | refine aL hM rfl rfl ?_ | refine aM hM rfl rfl ?_) | ((with_reducible refine sX ?_); refine aS hM rfl rfl rfl ?_; clear hM; intro W hM) | ((with_reducible refine bX ?_); refine aB hM rfl rfl ?_; clear hM; intro g W hM) | ((with_reducible refine zX ?_); refine aN hM rfl rfl ?_; clear hM; intro g W hM))
  all_goals
    refine' end_m2 hM rfl rfl Tryz.isAgg44 Tryz.sizeOf44 rfl rfl ?_ ?_ ⟨?_, hM.below⟩
    rotate_left 2
    · repeat constructor
    · rfl
    · refine' ret_tk ?_ ?_; rotate_left 1; (· (unfold toRadT; (try dsimp only); (repeat (first | (refine (if_pos ?_).trans ?_; (· first | omega | (exact bne_t (by assumption)) | (exact bne_f (by assumption)) | (simp_all; done) | (simp_all; omega))) | (refine (if_neg ?_).trans ?_; (· first | omega | (exact bne_t (by assumption)) | (exact bne_f (by assumption)) | (simp_all; done) | (simp_all; omega))))); rfl)); (· first | rfl | exact congrArg Tk.cells (straight_co _ _ _ _ _ _))
end Go.Proofs.YtjjdojokkmfbmaaGreatDoor
