/-
  resolve: rays, lines to points, climbs; for all arguments.
-/
import Derived.Test.YtjjdojokkmfbmaaGreatDoorMLineD
import Derived.Test.YtjjdojokkmfbmaaGreatDoorMLineE
import Derived.Test.YtjjdojokkmfbmaaGreatDoorMMem
import Derived.Test.YtjjdojokkmfbmaaGreatDoorMResP
set_option maxRecDepth 100000
set_option maxHeartbeats 16000000
namespace Go.Proofs.YtjjdojokkmfbmaaGreatDoor
open Go.RowKit
set_option linter.unusedVariables false
set_option linter.unusedSimpArgs false
theorem rray_t (ax ay c l : Int) (hc : I64 c) (hl : I64 l) (w : World) :
    Calls Tryz.prog 30 #[.agg #[.int .i64 ax, .int .i64 ay], .int .i64 c, .int .i64 l] w fun e w' => e = .returned (.tuple #[.agg (rayT ax ay c l).1.cells.toArray, .int .i64 (rayT ax ay c l).2]) ∧ Below w.heap.size w w' := by
  have hM := mem_nil w
  go_enter Tryz.func30, Tryz.ntmps30
  go_wp2_with (first | (go_at_call 60; (with_reducible refine (ray_any _ _ _ _ ?_ ?_ _ _ rfl).mono ?_); (· first | assumption | (unfold I64; omega)); (· first | assumption | (unfold I64; omega)); rintro e W1 ⟨rfl, hb⟩; replace hM := mem_below hM hb; clear hb) | ((with_reducible refine lX ?_); first | refine aL hM rfl rfl ?_ | refine aM hM rfl rfl ?_) | ((with_reducible refine sX ?_); refine aS hM rfl rfl rfl ?_; clear hM; intro W hM) | ((with_reducible refine bX ?_); refine aB hM rfl rfl ?_; clear hM; intro g W hM) | ((with_reducible refine zX ?_); refine aN hM rfl rfl ?_; clear hM; intro g W hM))
  all_goals
    refine' end_m2 hM rfl rfl Tryz.isAgg44 Tryz.sizeOf44 rfl rfl ?_ ?_ ⟨?_, hM.below⟩
    rotate_left 2
    · repeat constructor
    · rfl
    · unfold rayT; first | (rw [if_pos (by simp_all)]; rfl) | (rw [if_neg (by simp_all)]; rfl)
theorem before_any (ax ay bx b_y px py : Int) (w : World) :
    Calls Tryz.prog 70 #[.agg #[.int .i64 ax, .int .i64 ay], .agg #[.int .i64 bx, .int .i64 b_y], .agg #[.int .i64 px, .int .i64 py]] w fun e w' => e = .returned (.bool (beforeB ax ay bx b_y px py)) ∧ Below w.heap.size w w' := by
  have hM := mem_nil w
  go_enter Tryz.func70, Tryz.ntmps70
  go_wp2_with (first | (go_at_call 62; (with_reducible refine cb hM (off_any _ _ _ _ _ _ _ _ rfl) ?_); clear hM; intro W1 hM) | ((with_reducible refine lX ?_); first | refine aL hM rfl rfl ?_ | refine aM hM rfl rfl ?_) | ((with_reducible refine sX ?_); refine aS hM rfl rfl rfl ?_; clear hM; intro W hM) | ((with_reducible refine bX ?_); refine aB hM rfl rfl ?_; clear hM; intro g W hM) | ((with_reducible refine zX ?_); refine aN hM rfl rfl ?_; clear hM; intro g W hM))
  all_goals
    go_ret
    exact ⟨rfl, hM.below⟩
theorem until_any (ax ay c bx b_y : Int) (w : World) :
    Calls Tryz.prog 71 #[.agg #[.int .i64 ax, .int .i64 ay], .int .i64 c, .agg #[.int .i64 bx, .int .i64 b_y]] w fun e w' => e = .returned (.agg (untilT ax ay c bx b_y).cells.toArray) ∧ Below w.heap.size w w' := by
  have hM := mem_nil w
  go_enter Tryz.func71, Tryz.ntmps71
  go_upto_region 1 with (first | ((with_reducible refine lX ?_); first | refine aL hM rfl rfl ?_ | refine aM hM rfl rfl ?_) | ((with_reducible refine sX ?_); refine aS hM rfl rfl rfl ?_; clear hM; intro W hM) | ((with_reducible refine bX ?_); refine aB hM rfl rfl ?_; clear hM; intro g W hM) | ((with_reducible refine zX ?_); refine aN hM rfl rfl ?_; clear hM; intro g W hM))
  refine' region_del hM (by kernel_rfl) (.tmp 6) rfl ?_ ?_; rotate_left 1; (· repeat constructor); (clear hM; intro W hM hK hne)
  first | refine kL 0 hM hK ?_ | refine kM 0 hM hK ?_
  try simp only [pS, pN, sA, sB, sC]
  first | refine kL 1 hM hK ?_ | refine kM 1 hM hK ?_
  try simp only [pS, pN, sA, sB, sC]
  refine kP 2 hM hK ?_
  try simp only [pS, pN, sA, sB, sC]
  refine kP 3 hM hK ?_
  try simp only [pS, pN, sA, sB, sC]
  first | refine kL 4 hM hK ?_ | refine kM 4 hM hK ?_
  try simp only [pS, pN, sA, sB, sC]
  first | refine kL 5 hM hK ?_ | refine kM 5 hM hK ?_
  try simp only [pS, pN, sA, sB, sC]
  refine tk_call (i := 6) (nthQ rfl) (by kernel_rfl) rfl (fun K' hK' => ?_)
  go_wp2_with (first | (go_at_call 16; (with_reducible refine cb hM (dist_any _ _ _ _ _) ?_); clear hM; intro W1 hM))
  refine hK'.out _ _ (held_of hM hK) ?_
  clear hK' K'
  try simp only [pS, pN, sA, sB, sC]
  refine kP 7 hM hK ?_
  try simp only [pS, pN, sA, sB, sC]
  refine' tk_store hM (i := 8) (nthQ rfl) (by kernel_rfl) rfl rfl rfl ?_ ?_ ?_ ?_ ?_ ?_ ?_ hK hne ?_; rotate_left 6; (· constructor); (· repeat constructor); (· repeat constructor); (· repeat constructor); (· exact szT rfl); (· rfl); (· exact onecells rfl); (clear hM hK; intro W hM hK)
  try simp only [pS, pN, sA, sB, sC]
  refine tk_done (by kernel_rfl) ?_
  go_wp2_with (first | ((with_reducible refine lX ?_); first | refine aL hM rfl rfl ?_ | refine aM hM rfl rfl ?_) | ((with_reducible refine sX ?_); refine aS hM rfl rfl rfl ?_; clear hM; intro W hM) | ((with_reducible refine bX ?_); refine aB hM rfl rfl ?_; clear hM; intro g W hM) | ((with_reducible refine zX ?_); refine aN hM rfl rfl ?_; clear hM; intro g W hM))
  refine' end_m1 hM rfl rfl Tryz.isAgg44 Tryz.sizeOf44 rfl ?_ ?_ ⟨?_, hM.below⟩
  rotate_left 2
  · repeat constructor
  · rfl
  · rfl
theorem straight_any (ax ay bx b_y c : Int) (w : World) :
    Calls Tryz.prog 26 #[.agg #[.int .i64 ax, .int .i64 ay], .agg #[.int .i64 bx, .int .i64 b_y], .int .i64 c] w fun e w' => e = .returned (.agg (straightF ax ay bx b_y c).cells.toArray) ∧ Below w.heap.size w w' := by
  by_cases he : ax = bx ∧ ay = b_y
  · have HT : Hid (straightF ax ay bx b_y c = tkS 1 ax ay bx b_y c 0) := hide (by unfold straightF; rw [if_pos he])
    obtain ⟨rfl, rfl⟩ := he
    have hM := mem_nil w
    go_enter Tryz.func26, Tryz.ntmps26
    go_wp2_with (first | ((with_reducible refine lX ?_); first | refine aL hM rfl rfl ?_ | refine aM hM rfl rfl ?_) | ((with_reducible refine sX ?_); refine aS hM rfl rfl rfl ?_; clear hM; intro W hM) | ((with_reducible refine bX ?_); refine aB hM rfl rfl ?_; clear hM; intro g W hM) | ((with_reducible refine zX ?_); refine aN hM rfl rfl ?_; clear hM; intro g W hM))
    all_goals
      refine' end_m1 hM rfl rfl Tryz.isAgg44 Tryz.sizeOf44 rfl ?_ ?_ ⟨?_, hM.below⟩
      rotate_left 2
      · repeat constructor
      · rfl
      · rw [HT.out]; rfl
  · have HT : Hid (straightF ax ay bx b_y c = tkS 1 ax ay bx b_y (courseF ax ay bx b_y).1 (distF ax ay bx b_y)) := hide (by unfold straightF; rw [if_neg he])
    have hne : (ax == bx && ay == b_y) = false := by
      rw [Bool.eq_false_iff]; simp; intro h1 h2; exact he ⟨h1, h2⟩
    have hq : ((ax == bx) = false) ∨ ((ax == bx) = true ∧ (ay == b_y) = false) := by
      rcases h : (ax == bx) with _ | _
      · exact .inl rfl
      · rw [h] at hne; exact .inr ⟨rfl, by simpa using hne⟩
    clear he hne
    rcases hq with hx | ⟨hx, hy⟩
    all_goals
      have hM := mem_nil w
      go_enter Tryz.func26, Tryz.ntmps26
      go_upto_region 4 with (first | (go_at_call 17; (with_reducible refine cb hM (course_any _ _ _ _ _) ?_); clear hM; intro W1 hM) | ((with_reducible refine lX ?_); first | refine aL hM rfl rfl ?_ | refine aM hM rfl rfl ?_) | ((with_reducible refine sX ?_); refine aS hM rfl rfl rfl ?_; clear hM; intro W hM) | ((with_reducible refine bX ?_); refine aB hM rfl rfl ?_; clear hM; intro g W hM) | ((with_reducible refine zX ?_); refine aN hM rfl rfl ?_; clear hM; intro g W hM))
      refine' region_del hM (by kernel_rfl) (.tmp 7) rfl ?_ ?_; rotate_left 1; (· repeat constructor); (clear hM; intro W hM hK hne)
      refine kP 0 hM hK ?_
      try simp only [pS, pN, sA, sB, sC]
      first | refine kL 2 hM hK ?_ | refine kM 2 hM hK ?_
      try simp only [pS, pN, sA, sB, sC]
      first | refine kL 3 hM hK ?_ | refine kM 3 hM hK ?_
      try simp only [pS, pN, sA, sB, sC]
      refine tk_two (i := 1) (j := 4) (nthQ rfl) (nthQ rfl) (by kernel_rfl) rfl rfl (fun K' hK' => ?_) (fun K' hK' => ?_)
      ·
        first
          | (refine' mo_load1 hM rfl rfl ?_ ?_ ?_ ?_; rotate_left 3; (· repeat constructor); (· exact scT rfl); (· exact rfl))
          | (refine' mo_load hM rfl rfl ?_ ?_ ?_ ?_ ?_; rotate_left 4; (· repeat constructor); (· exact agT rfl); (· exact szT rfl); (· repeat constructor))
        refine hK'.out _ _ (held_of hM hK) ?_
        clear hK' K'
        try simp only [pS, pN, sA, sB, sC]
        refine kP 5 hM hK ?_
        try simp only [pS, pN, sA, sB, sC]
        refine tk_call (i := 4) (nthQ rfl) (by kernel_rfl) rfl (fun K' hK' => ?_)
        go_wp2_with (first | (go_at_call 16; (with_reducible refine cb hM (dist_any _ _ _ _ _) ?_); clear hM; intro W1 hM))
        refine hK'.out _ _ (held_of hM hK) ?_
        clear hK' K'
        try simp only [pS, pN, sA, sB, sC]
        refine' tk_store hM (i := 6) (nthQ rfl) (by kernel_rfl) rfl rfl rfl ?_ ?_ ?_ ?_ ?_ ?_ ?_ hK hne ?_; rotate_left 6; (· constructor); (· repeat constructor); (· repeat constructor); (· repeat constructor); (· exact szT rfl); (· rfl); (· exact onecells rfl); (clear hM hK; intro W hM hK)
        try simp only [pS, pN, sA, sB, sC]
        refine kP 7 hM hK ?_
        try simp only [pS, pN, sA, sB, sC]
        refine' tk_store hM (i := 8) (nthQ rfl) (by kernel_rfl) rfl rfl rfl ?_ ?_ ?_ ?_ ?_ ?_ ?_ hK hne ?_; rotate_left 6; (· constructor); (· repeat constructor); (· repeat constructor); (· repeat constructor); (· exact szT rfl); (· rfl); (· exact onecells rfl); (clear hM hK; intro W hM hK)
        try simp only [pS, pN, sA, sB, sC]
        refine tk_done (by kernel_rfl) ?_
        go_wp2_with (first | ((with_reducible refine lX ?_); first | refine aL hM rfl rfl ?_ | refine aM hM rfl rfl ?_) | ((with_reducible refine sX ?_); refine aS hM rfl rfl rfl ?_; clear hM; intro W hM) | ((with_reducible refine bX ?_); refine aB hM rfl rfl ?_; clear hM; intro g W hM) | ((with_reducible refine zX ?_); refine aN hM rfl rfl ?_; clear hM; intro g W hM))
        refine' end_m1 hM rfl rfl Tryz.isAgg44 Tryz.sizeOf44 rfl ?_ ?_ ⟨?_, hM.below⟩
        rotate_left 2
        · repeat constructor
        · rfl
        · rw [HT.out]; rfl
      ·
        go_wp2_with (first | (go_at_call 16; (with_reducible refine cb hM (dist_any _ _ _ _ _) ?_); clear hM; intro W1 hM))
        refine hK'.out _ _ (held_of hM hK) ?_
        clear hK' K'
        try simp only [pS, pN, sA, sB, sC]
        refine tk_call (i := 1) (nthQ rfl) (by kernel_rfl) rfl (fun K' hK' => ?_)
        first
          | (refine' mo_load1 hM rfl rfl ?_ ?_ ?_ ?_; rotate_left 3; (· repeat constructor); (· exact scT rfl); (· exact rfl))
          | (refine' mo_load hM rfl rfl ?_ ?_ ?_ ?_ ?_; rotate_left 4; (· repeat constructor); (· exact agT rfl); (· exact szT rfl); (· repeat constructor))
        refine hK'.out _ _ (held_of hM hK) ?_
        clear hK' K'
        try simp only [pS, pN, sA, sB, sC]
        refine kP 5 hM hK ?_
        try simp only [pS, pN, sA, sB, sC]
        refine' tk_store hM (i := 6) (nthQ rfl) (by kernel_rfl) rfl rfl rfl ?_ ?_ ?_ ?_ ?_ ?_ ?_ hK hne ?_; rotate_left 6; (· constructor); (· repeat constructor); (· repeat constructor); (· repeat constructor); (· exact szT rfl); (· rfl); (· exact onecells rfl); (clear hM hK; intro W hM hK)
        try simp only [pS, pN, sA, sB, sC]
        refine kP 7 hM hK ?_
        try simp only [pS, pN, sA, sB, sC]
        refine' tk_store hM (i := 8) (nthQ rfl) (by kernel_rfl) rfl rfl rfl ?_ ?_ ?_ ?_ ?_ ?_ ?_ hK hne ?_; rotate_left 6; (· constructor); (· repeat constructor); (· repeat constructor); (· repeat constructor); (· exact szT rfl); (· rfl); (· exact onecells rfl); (clear hM hK; intro W hM hK)
        try simp only [pS, pN, sA, sB, sC]
        refine tk_done (by kernel_rfl) ?_
        go_wp2_with (first | ((with_reducible refine lX ?_); first | refine aL hM rfl rfl ?_ | refine aM hM rfl rfl ?_) | ((with_reducible refine sX ?_); refine aS hM rfl rfl rfl ?_; clear hM; intro W hM) | ((with_reducible refine bX ?_); refine aB hM rfl rfl ?_; clear hM; intro g W hM) | ((with_reducible refine zX ?_); refine aN hM rfl rfl ?_; clear hM; intro g W hM))
        refine' end_m1 hM rfl rfl Tryz.isAgg44 Tryz.sizeOf44 rfl ?_ ?_ ⟨?_, hM.below⟩
        rotate_left 2
        · repeat constructor
        · rfl
        · rw [HT.out]; rfl
end Go.Proofs.YtjjdojokkmfbmaaGreatDoor
