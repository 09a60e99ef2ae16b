/-
  The reference of chapter 25: lines, for all arguments.
-/
import Derived.Test.YtjjdojokkmfbmaaGreatDoorMLineD
import Derived.Test.YtjjdojokkmfbmaaGreatDoorMLineE
import Derived.Test.YtjjdojokkmfbmaaGreatDoorMMem
import Derived.Test.YtjjdojokkmfbmaaGreatDoorMResP
import Derived.LaidMore
import Derived.Lib.Bytealg
set_option maxRecDepth 100000
set_option maxHeartbeats 16000000
namespace Go.Proofs.YtjjdojokkmfbmaaGreatDoor
open Go.RowKit
set_option linter.unusedVariables false
set_option linter.unusedSimpArgs false
theorem qstraight_any (ax ay bx b_y c : Int) (w : World) :
    Calls Tryz.prog 37 #[.agg #[.int .i64 ax, .int .i64 ay], .agg #[.int .i64 bx, .int .i64 b_y], .int .i64 c] w fun e w' => e = .returned (.agg (straightF ax ay bx b_y c).cells.toArray) ∧ Below w.heap.size w w' := by
  by_cases he : ax = bx ∧ ay = b_y
  · have HT : Hid (straightF ax ay bx b_y c = tkS 1 ax ay bx b_y c 0) := hide (by unfold straightF; rw [if_pos he])
    obtain ⟨rfl, rfl⟩ := he
    have hM := mem_nil w
    go_enter Tryz.func37, Tryz.ntmps37
    go_wp2_with (first | ((with_reducible refine lX ?_); first | refine aL hM rfl rfl ?_ | refine aM hM rfl rfl ?_) | ((with_reducible refine sX ?_); refine aS hM rfl rfl rfl ?_; clear hM; intro W hM) | ((with_reducible refine bX ?_); refine aB hM rfl rfl ?_; clear hM; intro g W hM) | ((with_reducible refine zX ?_); refine aN hM rfl rfl ?_; clear hM; intro g W hM))
    all_goals
      refine' end_m1 hM rfl rfl Tryz.isAgg44 Tryz.sizeOf44 rfl ?_ ?_ ⟨?_, hM.below⟩
      rotate_left 2
      · repeat constructor
      · rfl
      · rw [HT.out]; rfl
  · have HT : Hid (straightF ax ay bx b_y c = tkS 1 ax ay bx b_y (courseF ax ay bx b_y).1 (distF ax ay bx b_y)) := hide (by unfold straightF; rw [if_neg he])
    have hne : (ax == bx && ay == b_y) = false := by
      rw [Bool.eq_false_iff]; simp; intro h1 h2; exact he ⟨h1, h2⟩
    have hq : ((ax == bx) = false) ∨ ((ax == bx) = true ∧ (ay == b_y) = false) := by
      rcases h : (ax == bx) with _ | _
      · exact .inl rfl
      · rw [h] at hne; exact .inr ⟨rfl, by simpa using hne⟩
    clear he hne
    rcases hq with hx | ⟨hx, hy⟩
    all_goals
      have hM := mem_nil w
      go_enter Tryz.func37, Tryz.ntmps37
      go_wp2_with (first | (go_at_call 77; (with_reducible refine cb hM (rcourse_any _ _ _ _ _) ?_); clear hM; intro W1 hM) | (go_at_call 78; (with_reducible refine cb hM (rdist_any _ _ _ _ _) ?_); clear hM; intro W1 hM) | ((with_reducible refine lX ?_); first | refine aL hM rfl rfl ?_ | refine aM hM rfl rfl ?_) | ((with_reducible refine sX ?_); refine aS hM rfl rfl rfl ?_; clear hM; intro W hM) | ((with_reducible refine bX ?_); refine aB hM rfl rfl ?_; clear hM; intro g W hM) | ((with_reducible refine zX ?_); refine aN hM rfl rfl ?_; clear hM; intro g W hM))
      all_goals
        refine' end_m1 hM rfl rfl Tryz.isAgg44 Tryz.sizeOf44 rfl ?_ ?_ ⟨?_, hM.below⟩
        rotate_left 2
        · repeat constructor
        · rfl
        · rw [HT.out]; rfl
theorem qalong_any (ax ay c l : Int) (hc : I64 c) (hl : I64 l) (hl8 : l ≤ 8000000) (w : World) :
    Calls Tryz.prog 40 #[.agg #[.int .i64 ax, .int .i64 ay], .int .i64 c, .int .i64 l] w fun e w' => e = .returned (.tuple #[.agg (rayT ax ay c l).1.cells.toArray, .int .i64 (rayT ax ay c l).2]) ∧ Below w.heap.size w w' := by
  have hM := mem_nil w
  go_enter Tryz.func40, Tryz.ntmps40
  go_wp2_with (first | (go_at_call 79; (with_reducible refine (rray_any _ _ _ _ ?_ ?_ _ _ rfl).mono ?_); (· first | assumption | (unfold I64; omega)); (· first | assumption | (unfold I64; omega)); rintro e W1 ⟨rfl, hb⟩; replace hM := mem_below hM hb; clear hb) | ((with_reducible refine lX ?_); first | refine aL hM rfl rfl ?_ | refine aM hM rfl rfl ?_) | ((with_reducible refine sX ?_); refine aS hM rfl rfl rfl ?_; clear hM; intro W hM) | ((with_reducible refine bX ?_); refine aB hM rfl rfl ?_; clear hM; intro g W hM) | ((with_reducible refine zX ?_); refine aN hM rfl rfl ?_; clear hM; intro g W hM))
  all_goals
    refine' end_m2 hM rfl rfl Tryz.isAgg44 Tryz.sizeOf44 rfl rfl ?_ ?_ ⟨?_, hM.below⟩
    rotate_left 2
    · repeat constructor
    · rfl
    · unfold rayT; first | (rw [if_pos (by simp_all)]; rfl) | (rw [if_neg (by simp_all)]; rfl)
theorem qalong_far (ax ay c l : Int) (hl : 8000000 < l) (w : World) :
    Calls Tryz.prog 40 #[.agg #[.int .i64 ax, .int .i64 ay], .int .i64 c, .int .i64 l] w fun e w' => e = .returned (.tuple #[.agg Tk.zero.cells.toArray, .int .i64 2]) ∧ Below w.heap.size w w' := by
  have hM := mem_nil w
  go_enter Tryz.func40, Tryz.ntmps40
  go_wp2_with (first | (go_at_call 79; (with_reducible refine (rray_any _ _ _ _ ?_ ?_ _ _ rfl).mono ?_); (· first | assumption | (unfold I64; omega)); (· first | assumption | (unfold I64; omega)); rintro e W1 ⟨rfl, hb⟩; replace hM := mem_below hM hb; clear hb) | ((with_reducible refine lX ?_); first | refine aL hM rfl rfl ?_ | refine aM hM rfl rfl ?_) | ((with_reducible refine sX ?_); refine aS hM rfl rfl rfl ?_; clear hM; intro W hM) | ((with_reducible refine bX ?_); refine aB hM rfl rfl ?_; clear hM; intro g W hM) | ((with_reducible refine zX ?_); refine aN hM rfl rfl ?_; clear hM; intro g W hM))
  all_goals
    refine' end_m2 hM rfl rfl Tryz.isAgg44 Tryz.sizeOf44 rfl rfl ?_ ?_ ⟨?_, hM.below⟩
    rotate_left 2
    · repeat constructor
    · rfl
    · rfl
theorem qbefore_any (ax ay bx b_y px py : Int) (w : World) :
    Calls Tryz.prog 89 #[.agg #[.int .i64 ax, .int .i64 ay], .agg #[.int .i64 bx, .int .i64 b_y], .agg #[.int .i64 px, .int .i64 py]] w fun e w' => e = .returned (.bool (beforeB ax ay bx b_y px py)) ∧ Below w.heap.size w w' := by
  have hM := mem_nil w
  go_enter Tryz.func89, Tryz.ntmps89
  go_wp2_with (first | (go_at_call 81; (with_reducible refine cb hM (roff_any _ _ _ _ _ _ _ _ rfl) ?_); clear hM; intro W1 hM) | ((with_reducible refine lX ?_); first | refine aL hM rfl rfl ?_ | refine aM hM rfl rfl ?_) | ((with_reducible refine sX ?_); refine aS hM rfl rfl rfl ?_; clear hM; intro W hM) | ((with_reducible refine bX ?_); refine aB hM rfl rfl ?_; clear hM; intro g W hM) | ((with_reducible refine zX ?_); refine aN hM rfl rfl ?_; clear hM; intro g W hM))
  all_goals
    go_ret
    exact ⟨rfl, hM.below⟩
theorem qto_any (ax ay bx b_y c : Int) (w : World) :
    Calls Tryz.prog 90 #[.agg #[.int .i64 ax, .int .i64 ay], .agg #[.int .i64 bx, .int .i64 b_y], .int .i64 c] w fun e w' => e = .returned (.tuple #[.agg (untilT ax ay c bx b_y).cells.toArray, .int .i64 0]) ∧ Below w.heap.size w w' := by
  have hM := mem_nil w
  go_enter Tryz.func90, Tryz.ntmps90
  go_upto_region 1 with (first | ((with_reducible refine lX ?_); first | refine aL hM rfl rfl ?_ | refine aM hM rfl rfl ?_) | ((with_reducible refine sX ?_); refine aS hM rfl rfl rfl ?_; clear hM; intro W hM) | ((with_reducible refine bX ?_); refine aB hM rfl rfl ?_; clear hM; intro g W hM) | ((with_reducible refine zX ?_); refine aN hM rfl rfl ?_; clear hM; intro g W hM))
  refine' region_del hM (by kernel_rfl) (.tmp 6) rfl ?_ ?_; rotate_left 1; (· repeat constructor); (clear hM; intro W hM hK hne)
  first | refine kL 0 hM hK ?_ | refine kM 0 hM hK ?_
  try simp only [pS, pN, sA, sB, sC]
  first | refine kL 1 hM hK ?_ | refine kM 1 hM hK ?_
  try simp only [pS, pN, sA, sB, sC]
  refine kP 2 hM hK ?_
  try simp only [pS, pN, sA, sB, sC]
  refine kP 3 hM hK ?_
  try simp only [pS, pN, sA, sB, sC]
  first | refine kL 4 hM hK ?_ | refine kM 4 hM hK ?_
  try simp only [pS, pN, sA, sB, sC]
  first | refine kL 5 hM hK ?_ | refine kM 5 hM hK ?_
  try simp only [pS, pN, sA, sB, sC]
  refine tk_call (i := 6) (nthQ rfl) (by kernel_rfl) rfl (fun K' hK' => ?_)
  go_wp2_with (first | (go_at_call 78; (with_reducible refine cb hM (rdist_any _ _ _ _ _) ?_); clear hM; intro W1 hM))
  refine hK'.out _ _ (held_of hM hK) ?_
  clear hK' K'
  try simp only [pS, pN, sA, sB, sC]
  refine kP 7 hM hK ?_
  try simp only [pS, pN, sA, sB, sC]
  refine' tk_store hM (i := 8) (nthQ rfl) (by kernel_rfl) rfl rfl rfl ?_ ?_ ?_ ?_ ?_ ?_ ?_ hK hne ?_; rotate_left 6; (· constructor); (· repeat constructor); (· repeat constructor); (· repeat constructor); (· exact szT rfl); (· rfl); (· exact onecells rfl); (clear hM hK; intro W hM hK)
  try simp only [pS, pN, sA, sB, sC]
  refine kP 9 hM hK ?_
  try simp only [pS, pN, sA, sB, sC]
  refine tk_done (by kernel_rfl) ?_
  go_wp2_with (first | ((with_reducible refine lX ?_); first | refine aL hM rfl rfl ?_ | refine aM hM rfl rfl ?_) | ((with_reducible refine sX ?_); refine aS hM rfl rfl rfl ?_; clear hM; intro W hM) | ((with_reducible refine bX ?_); refine aB hM rfl rfl ?_; clear hM; intro g W hM) | ((with_reducible refine zX ?_); refine aN hM rfl rfl ?_; clear hM; intro g W hM))
  refine' end_m2 hM rfl rfl Tryz.isAgg44 Tryz.sizeOf44 rfl rfl ?_ ?_ ⟨?_, hM.below⟩
  rotate_left 2
  · repeat constructor
  · rfl
  · rfl
theorem qclimb_any (alt lo gr : Int) (h1 : -200000 ≤ alt) (h1b : alt ≤ 6000000) (h2 : -200000 ≤ lo) (h2b : lo ≤ 6000000) (hg : 1 ≤ gr) (hgb : gr ≤ 100000) (w : World) :
    Calls Tryz.prog 41 #[.int .i64 alt, .int .i64 lo, .int .i64 gr] w fun e w' => e = .returned (.int .i64 (climbN alt lo gr)) ∧ Below w.heap.size w w' := by
  by_cases hlt : alt < lo
  · have HN : Hid (climbN alt lo gr = rnd 1 ((lo - alt) * 6000) gr) := hide (if_pos hlt)
    have MU := fun W => rmuldivup_any (lo - alt) 6000 gr (by unfold I64; omega) (by unfold I64; omega) (by unfold I64; omega) W
    rw [climb_r hlt h1 h2b hg] at MU
    obtain ⟨N, hN⟩ : ∃ N, climbN alt lo gr = N := ⟨_, rfl⟩
    rw [hN] at MU
    have HN := hide hN
    clear hN
    have hM := mem_nil w
    go_enter Tryz.func41, Tryz.ntmps41
    go_wp2_with (first | (go_at_call 86; (with_reducible refine (MU _).mono ?_); rintro e W1 ⟨rfl, n, rfl⟩; replace hM := mem_drewN hM n) | ((with_reducible refine lX ?_); first | refine aL hM rfl rfl ?_ | refine aM hM rfl rfl ?_) | ((with_reducible refine sX ?_); refine aS hM rfl rfl rfl ?_; clear hM; intro W hM) | ((with_reducible refine bX ?_); refine aB hM rfl rfl ?_; clear hM; intro g W hM) | ((with_reducible refine zX ?_); refine aN hM rfl rfl ?_; clear hM; intro g W hM))
    all_goals
      go_ret
      exact ⟨ret_int HN.out.symm, hM.below⟩
  · have HN : Hid (climbN alt lo gr = 0) := hide (if_neg hlt)
    have hM := mem_nil w
    go_enter Tryz.func41, Tryz.ntmps41
    go_wp2_with (first | ((with_reducible refine lX ?_); first | refine aL hM rfl rfl ?_ | refine aM hM rfl rfl ?_) | ((with_reducible refine sX ?_); refine aS hM rfl rfl rfl ?_; clear hM; intro W hM) | ((with_reducible refine bX ?_); refine aB hM rfl rfl ?_; clear hM; intro g W hM) | ((with_reducible refine zX ?_); refine aN hM rfl rfl ?_; clear hM; intro g W hM))
    all_goals
      go_ret
      exact ⟨ret_int HN.out.symm, hM.below⟩
end Go.Proofs.YtjjdojokkmfbmaaGreatDoor
/-
  Check of the options in the reference.
-/
namespace Go.Proofs.YtjjdojokkmfbmaaGreatDoor
open Go.RowKit
set_option linter.unusedVariables false
set_option linter.unusedSimpArgs false
set_option maxRecDepth 100000 in
set_option maxHeartbeats 8000000 in
theorem ropts_any (spd bank oalt gr : Int) (w : World) :
    Calls Tryz.prog 13 #[.agg #[.int .i64 spd, .int .i64 bank, .int .i64 oalt, .int .i64 gr]] w fun e w' => e = .returned (.int .i64 (optE spd bank oalt gr)) ∧ Below w.heap.size w w' := by
  have hM := mem_nil w
  go_enter Tryz.func13, Tryz.ntmps13
  go_wp2_with (first | ((with_reducible refine lX ?_); first | refine aL hM rfl rfl ?_ | refine aM hM rfl rfl ?_) | ((with_reducible refine sX ?_); refine aS hM rfl rfl rfl ?_; clear hM; intro W hM) | ((with_reducible refine bX ?_); refine aB hM rfl rfl ?_; clear hM; intro g W hM) | ((with_reducible refine zX ?_); refine aN hM rfl rfl ?_; clear hM; intro g W hM))
  all_goals
    go_ret
    exact ⟨ret_int (by unfold optE; first | rw [if_pos (by omega)] | rw [if_neg (by omega)]), hM.below⟩
end Go.Proofs.YtjjdojokkmfbmaaGreatDoor
