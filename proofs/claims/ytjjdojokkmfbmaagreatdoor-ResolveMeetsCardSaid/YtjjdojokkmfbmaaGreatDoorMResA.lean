/-
  resolve: rays, lines to points, climbs; for all arguments.
-/
import Derived.Test.YtjjdojokkmfbmaaGreatDoorMFixed
import Derived.Test.YtjjdojokkmfbmaaGreatDoorMFrame
import Derived.Test.YtjjdojokkmfbmaaGreatDoorMLineA
import Derived.Test.YtjjdojokkmfbmaaGreatDoorMLineD
import Derived.Test.YtjjdojokkmfbmaaGreatDoorMLineE
import Derived.Test.YtjjdojokkmfbmaaGreatDoorMMem
import Derived.Test.YtjjdojokkmfbmaaGreatDoorMPlain
import Derived.Test.YtjjdojokkmfbmaaGreatDoorMResP
import Derived.Test.YtjjdojokkmfbmaaGreatDoorMWide
import Derived.Below
import Derived.Deep.RegionHeld3
import Derived.Test.YtjjdojokkmfbmaaGreatDoorProg
import Derived.WalkSpells
import Derived.WalkLawsBesides
import Derived.Deep.QuietTactic
import Derived.BigQuiet
import Derived.Lib.ItoaNum
import Derived.Shelf.Small.Bits
import Derived.Shelf.Strconv.Itoa0
import Derived.Shelf.Bits.Mul64
import Derived.Shelf.Spec.BitsCarry
import Derived.WalkKit
import Derived.ProofKit
import Derived.OpenShut
import Derived.ChangeSame
import Derived.Test.YtjjdojokkmfbmaaGreatDoorRows
import Derived.Deep.DeepCutAuto
import Derived.Laws.BitsAllLaws
import Derived.Laws.Rows
import Derived.Laws.Tables
import Derived.Laws.Cells
import Derived.Deep.Draws
import Derived.Deep.RegionHeld
namespace Go.Proofs.YtjjdojokkmfbmaaGreatDoor
open Go.RowKit
set_option linter.unusedVariables false
set_option linter.unusedSimpArgs false
set_option maxRecDepth 100000 in
set_option maxHeartbeats 8000000 in
theorem rray_t (ax ay c l : Int) (hc : I64 c) (hl : I64 l) (w : World) :
    Calls Tryz.prog 30 #[.agg #[.int .i64 ax, .int .i64 ay], .int .i64 c, .int .i64 l] w fun e w' => e = .returned (.tuple #[.agg (rayT ax ay c l).1.cells.toArray, .int .i64 (rayT ax ay c l).2]) ∧ Below w.heap.size w w' := by
  have hM := mem_nil w
  go_enter Tryz.func30, Tryz.ntmps30
  go_wp2_with (first
    | (go_at_call 60; (with_reducible refine (ray_any _ _ _ _ ?_ ?_ _ _ rfl).mono ?_); (· first | assumption | (unfold I64; omega)); (· first | assumption | (unfold I64; omega)); rintro e W1 ⟨rfl, hb⟩; replace hM := mem_below hM hb; clear hb)
    | ((with_reducible refine at_ldx ?_); refine' mg_load1 hM rfl rfl ?_ ?_ ?_ ?_ ?_; rotate_left 3; (· first | exact rfl | (go_simp; done)); (· repeat constructor); (· exact scT rfl); (· exact rfl))
    | ((with_reducible refine at_ldx ?_); refine' mg_load hM rfl rfl ?_ ?_ ?_ ?_ ?_ ?_; rotate_left 4; (· first | exact rfl | (go_simp; done)); (· repeat constructor); (· exact agT rfl); (· exact szT rfl); (· repeat constructor))
    | ((with_reducible refine at_stx ?_); refine' ms_store hM rfl rfl rfl ?_ ?_ ?_ ?_ ?_ ?_ ?_ ?_; rotate_left 6; (· constructor); (· repeat constructor); (· repeat constructor); (· repeat constructor); (· exact szT rfl); (· rfl); (· exact onecells rfl); (clear hM; intro W hM))
    | ((with_reducible refine at_bxx ?_); refine' mp_box hM rfl rfl ?_ ?_; rotate_left 1; (· constructor); (clear hM; intro g W hM))
    | ((with_reducible refine at_alx ?_); refine' mp_alloc hM rfl rfl ?_ rfl ?_; rotate_left 1; (· exact zoT rfl); (clear hM; intro g W hM)))
  all_goals
    refine' end_m2 hM rfl rfl Tryz.isAgg44 Tryz.sizeOf44 rfl rfl ?_ ?_ ⟨?_, hM.below⟩
    rotate_left 2
    · repeat constructor
    · rfl
    · unfold rayT; first | (rw [if_pos (by simp_all)]; rfl) | (rw [if_neg (by simp_all)]; rfl)
set_option maxRecDepth 100000 in
set_option maxHeartbeats 8000000 in
theorem before_any (ax ay bx b_y px py : Int) (w : World) :
    Calls Tryz.prog 70 #[.agg #[.int .i64 ax, .int .i64 ay], .agg #[.int .i64 bx, .int .i64 b_y], .agg #[.int .i64 px, .int .i64 py]] w fun e w' => e = .returned (.bool (beforeB ax ay bx b_y px py)) ∧ Below w.heap.size w w' := by
  have hM := mem_nil w
  go_enter Tryz.func70, Tryz.ntmps70
  go_wp2_with (first
    | (go_at_call 62; (with_reducible refine (off_any _ _ _ _ _ _ _ _ rfl).mono ?_); rintro e W1 ⟨rfl, hb⟩; replace hM := mem_below hM hb; clear hb)
    | ((with_reducible refine at_ldx ?_); refine' mg_load1 hM rfl rfl ?_ ?_ ?_ ?_ ?_; rotate_left 3; (· first | exact rfl | (go_simp; done)); (· repeat constructor); (· exact scT rfl); (· exact rfl))
    | ((with_reducible refine at_ldx ?_); refine' mg_load hM rfl rfl ?_ ?_ ?_ ?_ ?_ ?_; rotate_left 4; (· first | exact rfl | (go_simp; done)); (· repeat constructor); (· exact agT rfl); (· exact szT rfl); (· repeat constructor))
    | ((with_reducible refine at_stx ?_); refine' ms_store hM rfl rfl rfl ?_ ?_ ?_ ?_ ?_ ?_ ?_ ?_; rotate_left 6; (· constructor); (· repeat constructor); (· repeat constructor); (· repeat constructor); (· exact szT rfl); (· rfl); (· exact onecells rfl); (clear hM; intro W hM))
    | ((with_reducible refine at_bxx ?_); refine' mp_box hM rfl rfl ?_ ?_; rotate_left 1; (· constructor); (clear hM; intro g W hM))
    | ((with_reducible refine at_alx ?_); refine' mp_alloc hM rfl rfl ?_ rfl ?_; rotate_left 1; (· exact zoT rfl); (clear hM; intro g W hM)))
  all_goals
    go_ret
    exact ⟨rfl, hM.below⟩
set_option maxRecDepth 100000 in
set_option maxHeartbeats 8000000 in
theorem until_any (ax ay c bx b_y : Int) (w : World) :
    Calls Tryz.prog 71 #[.agg #[.int .i64 ax, .int .i64 ay], .int .i64 c, .agg #[.int .i64 bx, .int .i64 b_y]] w fun e w' => e = .returned (.agg (untilT ax ay c bx b_y).cells.toArray) ∧ Below w.heap.size w w' := by
  have hM := mem_nil w
  go_enter Tryz.func71, Tryz.ntmps71
  go_upto_region 1 with (first
    | ((with_reducible refine at_ldx ?_); refine' mg_load1 hM rfl rfl ?_ ?_ ?_ ?_ ?_; rotate_left 3; (· first | exact rfl | (go_simp; done)); (· repeat constructor); (· exact scT rfl); (· exact rfl))
    | ((with_reducible refine at_ldx ?_); refine' mg_load hM rfl rfl ?_ ?_ ?_ ?_ ?_ ?_; rotate_left 4; (· first | exact rfl | (go_simp; done)); (· repeat constructor); (· exact agT rfl); (· exact szT rfl); (· repeat constructor))
    | ((with_reducible refine at_stx ?_); refine' ms_store hM rfl rfl rfl ?_ ?_ ?_ ?_ ?_ ?_ ?_ ?_; rotate_left 6; (· constructor); (· repeat constructor); (· repeat constructor); (· repeat constructor); (· exact szT rfl); (· rfl); (· exact onecells rfl); (clear hM; intro W hM))
    | ((with_reducible refine at_bxx ?_); refine' mp_box hM rfl rfl ?_ ?_; rotate_left 1; (· constructor); (clear hM; intro g W hM))
    | ((with_reducible refine at_alx ?_); refine' mp_alloc hM rfl rfl ?_ rfl ?_; rotate_left 1; (· exact zoT rfl); (clear hM; intro g W hM)))
  refine' region_del hM (by kernel_rfl) (.tmp 6) rfl ?_ ?_; rotate_left 1; (· repeat constructor); (clear hM; intro W hM hK hne)
  first
    | (refine' tk_load1 hM hK (i := 0) (nthQ rfl) (by kernel_rfl) (by kernel_rfl) (by kernel_rfl) rfl rfl rfl ?_ ?_ ?_ (fun _ _ _ _ h => h) ?_; rotate_left 3; (· repeat constructor); (· exact scT rfl); (· exact rfl))
    | (refine' tk_load hM hK (i := 0) (nthQ rfl) (by kernel_rfl) (by kernel_rfl) (by kernel_rfl) rfl rfl rfl ?_ ?_ ?_ ?_ (fun _ _ _ _ h => h) ?_; rotate_left 4; (· repeat constructor); (· exact agT rfl); (· exact szT rfl); (· repeat constructor))
  try simp only [Act.put, List.setIfInBounds_toArray, List.set_cons_zero, List.set_cons_succ]
  first
    | (refine' tk_load1 hM hK (i := 1) (nthQ rfl) (by kernel_rfl) (by kernel_rfl) (by kernel_rfl) rfl rfl rfl ?_ ?_ ?_ (fun _ _ _ _ h => h) ?_; rotate_left 3; (· repeat constructor); (· exact scT rfl); (· exact rfl))
    | (refine' tk_load hM hK (i := 1) (nthQ rfl) (by kernel_rfl) (by kernel_rfl) (by kernel_rfl) rfl rfl rfl ?_ ?_ ?_ ?_ (fun _ _ _ _ h => h) ?_; rotate_left 4; (· repeat constructor); (· exact agT rfl); (· exact szT rfl); (· repeat constructor))
  try simp only [Act.put, List.setIfInBounds_toArray, List.set_cons_zero, List.set_cons_succ]
  refine' tk_pure hM hK (i := 2) (nthQ rfl) (by kernel_rfl) (by kernel_rfl) (by kernel_rfl) rfl ?_ (fun _ _ _ _ h => h) ?_; rotate_left 1; (· (intro W0; go_simp <;> with_reducible rfl))
  try simp only [Act.put, List.setIfInBounds_toArray, List.set_cons_zero, List.set_cons_succ]
  refine' tk_pure hM hK (i := 3) (nthQ rfl) (by kernel_rfl) (by kernel_rfl) (by kernel_rfl) rfl ?_ (fun _ _ _ _ h => h) ?_; rotate_left 1; (· (intro W0; go_simp <;> with_reducible rfl))
  try simp only [Act.put, List.setIfInBounds_toArray, List.set_cons_zero, List.set_cons_succ]
  first
    | (refine' tk_load1 hM hK (i := 4) (nthQ rfl) (by kernel_rfl) (by kernel_rfl) (by kernel_rfl) rfl rfl rfl ?_ ?_ ?_ (fun _ _ _ _ h => h) ?_; rotate_left 3; (· repeat constructor); (· exact scT rfl); (· exact rfl))
    | (refine' tk_load hM hK (i := 4) (nthQ rfl) (by kernel_rfl) (by kernel_rfl) (by kernel_rfl) rfl rfl rfl ?_ ?_ ?_ ?_ (fun _ _ _ _ h => h) ?_; rotate_left 4; (· repeat constructor); (· exact agT rfl); (· exact szT rfl); (· repeat constructor))
  try simp only [Act.put, List.setIfInBounds_toArray, List.set_cons_zero, List.set_cons_succ]
  first
    | (refine' tk_load1 hM hK (i := 5) (nthQ rfl) (by kernel_rfl) (by kernel_rfl) (by kernel_rfl) rfl rfl rfl ?_ ?_ ?_ (fun _ _ _ _ h => h) ?_; rotate_left 3; (· repeat constructor); (· exact scT rfl); (· exact rfl))
    | (refine' tk_load hM hK (i := 5) (nthQ rfl) (by kernel_rfl) (by kernel_rfl) (by kernel_rfl) rfl rfl rfl ?_ ?_ ?_ ?_ (fun _ _ _ _ h => h) ?_; rotate_left 4; (· repeat constructor); (· exact agT rfl); (· exact szT rfl); (· repeat constructor))
  try simp only [Act.put, List.setIfInBounds_toArray, List.set_cons_zero, List.set_cons_succ]
  refine tk_call (i := 6) (nthQ rfl) (by kernel_rfl) rfl (fun K' hK' => ?_)
  go_wp2_with (first
    | (go_at_call 16; (with_reducible refine (dist_any _ _ _ _ _).mono ?_); rintro e W1 ⟨rfl, hb⟩; replace hM := mem_below hM hb; clear hb))
  refine hK'.out _ _ (held_of hM hK) ?_
  clear hK' K'
  try simp only [Act.put, List.setIfInBounds_toArray, List.set_cons_zero, List.set_cons_succ]
  refine' tk_pure hM hK (i := 7) (nthQ rfl) (by kernel_rfl) (by kernel_rfl) (by kernel_rfl) rfl ?_ (fun _ _ _ _ h => h) ?_; rotate_left 1; (· (intro W0; go_simp <;> with_reducible rfl))
  try simp only [Act.put, List.setIfInBounds_toArray, List.set_cons_zero, List.set_cons_succ]
  refine' tk_store hM (i := 8) (nthQ rfl) (by kernel_rfl) rfl rfl rfl ?_ ?_ ?_ ?_ ?_ ?_ ?_ hK hne ?_; rotate_left 6; (· constructor); (· repeat constructor); (· repeat constructor); (· repeat constructor); (· exact szT rfl); (· rfl); (· exact onecells rfl); (clear hM hK; intro W hM hK)
  try simp only [Act.put, List.setIfInBounds_toArray, List.set_cons_zero, List.set_cons_succ]
  refine tk_done (by kernel_rfl) ?_
  go_wp2_with (first
    | ((with_reducible refine at_ldx ?_); refine' mg_load1 hM rfl rfl ?_ ?_ ?_ ?_ ?_; rotate_left 3; (· first | exact rfl | (go_simp; done)); (· repeat constructor); (· exact scT rfl); (· exact rfl))
    | ((with_reducible refine at_ldx ?_); refine' mg_load hM rfl rfl ?_ ?_ ?_ ?_ ?_ ?_; rotate_left 4; (· first | exact rfl | (go_simp; done)); (· repeat constructor); (· exact agT rfl); (· exact szT rfl); (· repeat constructor))
    | ((with_reducible refine at_stx ?_); refine' ms_store hM rfl rfl rfl ?_ ?_ ?_ ?_ ?_ ?_ ?_ ?_; rotate_left 6; (· constructor); (· repeat constructor); (· repeat constructor); (· repeat constructor); (· exact szT rfl); (· rfl); (· exact onecells rfl); (clear hM; intro W hM))
    | ((with_reducible refine at_bxx ?_); refine' mp_box hM rfl rfl ?_ ?_; rotate_left 1; (· constructor); (clear hM; intro g W hM))
    | ((with_reducible refine at_alx ?_); refine' mp_alloc hM rfl rfl ?_ rfl ?_; rotate_left 1; (· exact zoT rfl); (clear hM; intro g W hM)))
  refine' end_m1 hM rfl rfl Tryz.isAgg44 Tryz.sizeOf44 rfl ?_ ?_ ⟨?_, hM.below⟩
  rotate_left 2
  · repeat constructor
  · rfl
  · rfl
set_option maxRecDepth 100000 in
set_option maxHeartbeats 8000000 in
theorem straight_any (ax ay bx b_y c : Int) (w : World) :
    Calls Tryz.prog 26 #[.agg #[.int .i64 ax, .int .i64 ay], .agg #[.int .i64 bx, .int .i64 b_y], .int .i64 c] w fun e w' => e = .returned (.agg (straightF ax ay bx b_y c).cells.toArray) ∧ Below w.heap.size w w' := by
  by_cases he : ax = bx ∧ ay = b_y
  · have HT : Hid (straightF ax ay bx b_y c = tkS 1 ax ay bx b_y c 0) := hide (by unfold straightF; rw [if_pos he])
    obtain ⟨rfl, rfl⟩ := he
    have hM := mem_nil w
    go_enter Tryz.func26, Tryz.ntmps26
    go_wp2_with (first
    | ((with_reducible refine at_ldx ?_); refine' mg_load1 hM rfl rfl ?_ ?_ ?_ ?_ ?_; rotate_left 3; (· first | exact rfl | (go_simp; done)); (· repeat constructor); (· exact scT rfl); (· exact rfl))
    | ((with_reducible refine at_ldx ?_); refine' mg_load hM rfl rfl ?_ ?_ ?_ ?_ ?_ ?_; rotate_left 4; (· first | exact rfl | (go_simp; done)); (· repeat constructor); (· exact agT rfl); (· exact szT rfl); (· repeat constructor))
    | ((with_reducible refine at_stx ?_); refine' ms_store hM rfl rfl rfl ?_ ?_ ?_ ?_ ?_ ?_ ?_ ?_; rotate_left 6; (· constructor); (· repeat constructor); (· repeat constructor); (· repeat constructor); (· exact szT rfl); (· rfl); (· exact onecells rfl); (clear hM; intro W hM))
    | ((with_reducible refine at_bxx ?_); refine' mp_box hM rfl rfl ?_ ?_; rotate_left 1; (· constructor); (clear hM; intro g W hM))
    | ((with_reducible refine at_alx ?_); refine' mp_alloc hM rfl rfl ?_ rfl ?_; rotate_left 1; (· exact zoT rfl); (clear hM; intro g W hM)))
    all_goals
      refine' end_m1 hM rfl rfl Tryz.isAgg44 Tryz.sizeOf44 rfl ?_ ?_ ⟨?_, hM.below⟩
      rotate_left 2
      · repeat constructor
      · rfl
      · rw [HT.out]; rfl
  · have HT : Hid (straightF ax ay bx b_y c = tkS 1 ax ay bx b_y (courseF ax ay bx b_y).1 (distF ax ay bx b_y)) := hide (by unfold straightF; rw [if_neg he])
    have hne : (ax == bx && ay == b_y) = false := by
      rw [Bool.eq_false_iff]; simp; intro h1 h2; exact he ⟨h1, h2⟩
    have hq : ((ax == bx) = false) ∨ ((ax == bx) = true ∧ (ay == b_y) = false) := by
      rcases h : (ax == bx) with _ | _
      · exact .inl rfl
      · rw [h] at hne; exact .inr ⟨rfl, by simpa using hne⟩
    clear he hne
    rcases hq with hx | ⟨hx, hy⟩
    all_goals
      have hM := mem_nil w
      go_enter Tryz.func26, Tryz.ntmps26
      go_upto_region 4 with (first
    | (go_at_call 17; (with_reducible refine (course_any _ _ _ _ _).mono ?_); rintro e W1 ⟨rfl, hb⟩; replace hM := mem_below hM hb; clear hb)
    | ((with_reducible refine at_ldx ?_); refine' mg_load1 hM rfl rfl ?_ ?_ ?_ ?_ ?_; rotate_left 3; (· first | exact rfl | (go_simp; done)); (· repeat constructor); (· exact scT rfl); (· exact rfl))
    | ((with_reducible refine at_ldx ?_); refine' mg_load hM rfl rfl ?_ ?_ ?_ ?_ ?_ ?_; rotate_left 4; (· first | exact rfl | (go_simp; done)); (· repeat constructor); (· exact agT rfl); (· exact szT rfl); (· repeat constructor))
    | ((with_reducible refine at_stx ?_); refine' ms_store hM rfl rfl rfl ?_ ?_ ?_ ?_ ?_ ?_ ?_ ?_; rotate_left 6; (· constructor); (· repeat constructor); (· repeat constructor); (· repeat constructor); (· exact szT rfl); (· rfl); (· exact onecells rfl); (clear hM; intro W hM))
    | ((with_reducible refine at_bxx ?_); refine' mp_box hM rfl rfl ?_ ?_; rotate_left 1; (· constructor); (clear hM; intro g W hM))
    | ((with_reducible refine at_alx ?_); refine' mp_alloc hM rfl rfl ?_ rfl ?_; rotate_left 1; (· exact zoT rfl); (clear hM; intro g W hM)))
      refine' region_del hM (by kernel_rfl) (.tmp 7) rfl ?_ ?_; rotate_left 1; (· repeat constructor); (clear hM; intro W hM hK hne)
      refine' tk_pure hM hK (i := 0) (nthQ rfl) (by kernel_rfl) (by kernel_rfl) (by kernel_rfl) rfl ?_ (fun _ _ _ _ h => h) ?_; rotate_left 1; (· (intro W0; go_simp <;> with_reducible rfl))
      try simp only [Act.put, List.setIfInBounds_toArray, List.set_cons_zero, List.set_cons_succ]
      first
        | (refine' tk_load1 hM hK (i := 2) (nthQ rfl) (by kernel_rfl) (by kernel_rfl) (by kernel_rfl) rfl rfl rfl ?_ ?_ ?_ (fun _ _ _ _ h => h) ?_; rotate_left 3; (· repeat constructor); (· exact scT rfl); (· exact rfl))
        | (refine' tk_load hM hK (i := 2) (nthQ rfl) (by kernel_rfl) (by kernel_rfl) (by kernel_rfl) rfl rfl rfl ?_ ?_ ?_ ?_ (fun _ _ _ _ h => h) ?_; rotate_left 4; (· repeat constructor); (· exact agT rfl); (· exact szT rfl); (· repeat constructor))
      try simp only [Act.put, List.setIfInBounds_toArray, List.set_cons_zero, List.set_cons_succ]
      first
        | (refine' tk_load1 hM hK (i := 3) (nthQ rfl) (by kernel_rfl) (by kernel_rfl) (by kernel_rfl) rfl rfl rfl ?_ ?_ ?_ (fun _ _ _ _ h => h) ?_; rotate_left 3; (· repeat constructor); (· exact scT rfl); (· exact rfl))
        | (refine' tk_load hM hK (i := 3) (nthQ rfl) (by kernel_rfl) (by kernel_rfl) (by kernel_rfl) rfl rfl rfl ?_ ?_ ?_ ?_ (fun _ _ _ _ h => h) ?_; rotate_left 4; (· repeat constructor); (· exact agT rfl); (· exact szT rfl); (· repeat constructor))
      try simp only [Act.put, List.setIfInBounds_toArray, List.set_cons_zero, List.set_cons_succ]
      refine tk_two (i := 1) (j := 4) (nthQ rfl) (nthQ rfl) (by kernel_rfl) rfl rfl (fun K' hK' => ?_) (fun K' hK' => ?_)
      ·
        first
          | (refine' mo_load1 hM rfl rfl ?_ ?_ ?_ ?_; rotate_left 3; (· repeat constructor); (· exact scT rfl); (· exact rfl))
          | (refine' mo_load hM rfl rfl ?_ ?_ ?_ ?_ ?_; rotate_left 4; (· repeat constructor); (· exact agT rfl); (· exact szT rfl); (· repeat constructor))
        refine hK'.out _ _ (held_of hM hK) ?_
        clear hK' K'
        try simp only [Act.put, List.setIfInBounds_toArray, List.set_cons_zero, List.set_cons_succ]
        refine' tk_pure hM hK (i := 5) (nthQ rfl) (by kernel_rfl) (by kernel_rfl) (by kernel_rfl) rfl ?_ (fun _ _ _ _ h => h) ?_; rotate_left 1; (· (intro W0; go_simp <;> with_reducible rfl))
        try simp only [Act.put, List.setIfInBounds_toArray, List.set_cons_zero, List.set_cons_succ]
        refine tk_call (i := 4) (nthQ rfl) (by kernel_rfl) rfl (fun K' hK' => ?_)
        go_wp2_with (first
          | (go_at_call 16; (with_reducible refine (dist_any _ _ _ _ _).mono ?_); rintro e W1 ⟨rfl, hb⟩; replace hM := mem_below hM hb; clear hb))
        refine hK'.out _ _ (held_of hM hK) ?_
        clear hK' K'
        try simp only [Act.put, List.setIfInBounds_toArray, List.set_cons_zero, List.set_cons_succ]
        refine' tk_store hM (i := 6) (nthQ rfl) (by kernel_rfl) rfl rfl rfl ?_ ?_ ?_ ?_ ?_ ?_ ?_ hK hne ?_; rotate_left 6; (· constructor); (· repeat constructor); (· repeat constructor); (· repeat constructor); (· exact szT rfl); (· rfl); (· exact onecells rfl); (clear hM hK; intro W hM hK)
        try simp only [Act.put, List.setIfInBounds_toArray, List.set_cons_zero, List.set_cons_succ]
        refine' tk_pure hM hK (i := 7) (nthQ rfl) (by kernel_rfl) (by kernel_rfl) (by kernel_rfl) rfl ?_ (fun _ _ _ _ h => h) ?_; rotate_left 1; (· (intro W0; go_simp <;> with_reducible rfl))
        try simp only [Act.put, List.setIfInBounds_toArray, List.set_cons_zero, List.set_cons_succ]
        refine' tk_store hM (i := 8) (nthQ rfl) (by kernel_rfl) rfl rfl rfl ?_ ?_ ?_ ?_ ?_ ?_ ?_ hK hne ?_; rotate_left 6; (· constructor); (· repeat constructor); (· repeat constructor); (· repeat constructor); (· exact szT rfl); (· rfl); (· exact onecells rfl); (clear hM hK; intro W hM hK)
        try simp only [Act.put, List.setIfInBounds_toArray, List.set_cons_zero, List.set_cons_succ]
        refine tk_done (by kernel_rfl) ?_
        go_wp2_with (first
            | ((with_reducible refine at_ldx ?_); refine' mg_load1 hM rfl rfl ?_ ?_ ?_ ?_ ?_; rotate_left 3; (· first | exact rfl | (go_simp; done)); (· repeat constructor); (· exact scT rfl); (· exact rfl))
            | ((with_reducible refine at_ldx ?_); refine' mg_load hM rfl rfl ?_ ?_ ?_ ?_ ?_ ?_; rotate_left 4; (· first | exact rfl | (go_simp; done)); (· repeat constructor); (· exact agT rfl); (· exact szT rfl); (· repeat constructor))
            | ((with_reducible refine at_stx ?_); refine' ms_store hM rfl rfl rfl ?_ ?_ ?_ ?_ ?_ ?_ ?_ ?_; rotate_left 6; (· constructor); (· repeat constructor); (· repeat constructor); (· repeat constructor); (· exact szT rfl); (· rfl); (· exact onecells rfl); (clear hM; intro W hM))
            | ((with_reducible refine at_bxx ?_); refine' mp_box hM rfl rfl ?_ ?_; rotate_left 1; (· constructor); (clear hM; intro g W hM))
            | ((with_reducible refine at_alx ?_); refine' mp_alloc hM rfl rfl ?_ rfl ?_; rotate_left 1; (· exact zoT rfl); (clear hM; intro g W hM)))
        refine' end_m1 hM rfl rfl Tryz.isAgg44 Tryz.sizeOf44 rfl ?_ ?_ ⟨?_, hM.below⟩
        rotate_left 2
        · repeat constructor
        · rfl
        · rw [HT.out]; rfl
      ·
        go_wp2_with (first
          | (go_at_call 16; (with_reducible refine (dist_any _ _ _ _ _).mono ?_); rintro e W1 ⟨rfl, hb⟩; replace hM := mem_below hM hb; clear hb))
        refine hK'.out _ _ (held_of hM hK) ?_
        clear hK' K'
        try simp only [Act.put, List.setIfInBounds_toArray, List.set_cons_zero, List.set_cons_succ]
        refine tk_call (i := 1) (nthQ rfl) (by kernel_rfl) rfl (fun K' hK' => ?_)
        first
          | (refine' mo_load1 hM rfl rfl ?_ ?_ ?_ ?_; rotate_left 3; (· repeat constructor); (· exact scT rfl); (· exact rfl))
          | (refine' mo_load hM rfl rfl ?_ ?_ ?_ ?_ ?_; rotate_left 4; (· repeat constructor); (· exact agT rfl); (· exact szT rfl); (· repeat constructor))
        refine hK'.out _ _ (held_of hM hK) ?_
        clear hK' K'
        try simp only [Act.put, List.setIfInBounds_toArray, List.set_cons_zero, List.set_cons_succ]
        refine' tk_pure hM hK (i := 5) (nthQ rfl) (by kernel_rfl) (by kernel_rfl) (by kernel_rfl) rfl ?_ (fun _ _ _ _ h => h) ?_; rotate_left 1; (· (intro W0; go_simp <;> with_reducible rfl))
        try simp only [Act.put, List.setIfInBounds_toArray, List.set_cons_zero, List.set_cons_succ]
        refine' tk_store hM (i := 6) (nthQ rfl) (by kernel_rfl) rfl rfl rfl ?_ ?_ ?_ ?_ ?_ ?_ ?_ hK hne ?_; rotate_left 6; (· constructor); (· repeat constructor); (· repeat constructor); (· repeat constructor); (· exact szT rfl); (· rfl); (· exact onecells rfl); (clear hM hK; intro W hM hK)
        try simp only [Act.put, List.setIfInBounds_toArray, List.set_cons_zero, List.set_cons_succ]
        refine' tk_pure hM hK (i := 7) (nthQ rfl) (by kernel_rfl) (by kernel_rfl) (by kernel_rfl) rfl ?_ (fun _ _ _ _ h => h) ?_; rotate_left 1; (· (intro W0; go_simp <;> with_reducible rfl))
        try simp only [Act.put, List.setIfInBounds_toArray, List.set_cons_zero, List.set_cons_succ]
        refine' tk_store hM (i := 8) (nthQ rfl) (by kernel_rfl) rfl rfl rfl ?_ ?_ ?_ ?_ ?_ ?_ ?_ hK hne ?_; rotate_left 6; (· constructor); (· repeat constructor); (· repeat constructor); (· repeat constructor); (· exact szT rfl); (· rfl); (· exact onecells rfl); (clear hM hK; intro W hM hK)
        try simp only [Act.put, List.setIfInBounds_toArray, List.set_cons_zero, List.set_cons_succ]
        refine tk_done (by kernel_rfl) ?_
        go_wp2_with (first
            | ((with_reducible refine at_ldx ?_); refine' mg_load1 hM rfl rfl ?_ ?_ ?_ ?_ ?_; rotate_left 3; (· first | exact rfl | (go_simp; done)); (· repeat constructor); (· exact scT rfl); (· exact rfl))
            | ((with_reducible refine at_ldx ?_); refine' mg_load hM rfl rfl ?_ ?_ ?_ ?_ ?_ ?_; rotate_left 4; (· first | exact rfl | (go_simp; done)); (· repeat constructor); (· exact agT rfl); (· exact szT rfl); (· repeat constructor))
            | ((with_reducible refine at_stx ?_); refine' ms_store hM rfl rfl rfl ?_ ?_ ?_ ?_ ?_ ?_ ?_ ?_; rotate_left 6; (· constructor); (· repeat constructor); (· repeat constructor); (· repeat constructor); (· exact szT rfl); (· rfl); (· exact onecells rfl); (clear hM; intro W hM))
            | ((with_reducible refine at_bxx ?_); refine' mp_box hM rfl rfl ?_ ?_; rotate_left 1; (· constructor); (clear hM; intro g W hM))
            | ((with_reducible refine at_alx ?_); refine' mp_alloc hM rfl rfl ?_ rfl ?_; rotate_left 1; (· exact zoT rfl); (clear hM; intro g W hM)))
        refine' end_m1 hM rfl rfl Tryz.isAgg44 Tryz.sizeOf44 rfl ?_ ?_ ⟨?_, hM.below⟩
        rotate_left 2
        · repeat constructor
        · rfl
        · rw [HT.out]; rfl
end Go.Proofs.YtjjdojokkmfbmaaGreatDoor
