/-
  resolve: courses to fixes, intercepts, arcs; for all arguments.
-/
import Derived.Test.YtjjdojokkmfbmaaGreatDoorMAroM
import Derived.Test.YtjjdojokkmfbmaaGreatDoorMFixed
import Derived.Test.YtjjdojokkmfbmaaGreatDoorMFrame
import Derived.Test.YtjjdojokkmfbmaaGreatDoorMLineA
import Derived.Test.YtjjdojokkmfbmaaGreatDoorMLineB
import Derived.Test.YtjjdojokkmfbmaaGreatDoorMLineC
import Derived.Test.YtjjdojokkmfbmaaGreatDoorMLineD
import Derived.Test.YtjjdojokkmfbmaaGreatDoorMLineE
import Derived.Test.YtjjdojokkmfbmaaGreatDoorMMem
import Derived.Test.YtjjdojokkmfbmaaGreatDoorMPlain
import Derived.Test.YtjjdojokkmfbmaaGreatDoorMResA
import Derived.Test.YtjjdojokkmfbmaaGreatDoorMResP
import Derived.Test.YtjjdojokkmfbmaaGreatDoorMResP2
import Derived.Test.YtjjdojokkmfbmaaGreatDoorMScale
import Derived.Test.YtjjdojokkmfbmaaGreatDoorMTrig
import Derived.Test.YtjjdojokkmfbmaaGreatDoorMTurnA
import Derived.Test.YtjjdojokkmfbmaaGreatDoorMTurnB
import Derived.Test.YtjjdojokkmfbmaaGreatDoorMWide
import Derived.Test.YtjjdojokkmfbmaaGreatDoorProg
import Derived.WalkSpells
import Derived.WalkLawsBesides
import Derived.Deep.QuietTactic
import Derived.BigQuiet
import Derived.Lib.ItoaNum
import Derived.Shelf.Small.Bits
import Derived.Shelf.Strconv.Itoa0
import Derived.Shelf.Bits.Mul64
import Derived.Shelf.Spec.BitsCarry
import Derived.WalkKit
import Derived.ProofKit
import Derived.OpenShut
import Derived.Below
import Derived.ChangeSame
import Derived.Test.YtjjdojokkmfbmaaGreatDoorRows
import Derived.Deep.DeepCutAuto
import Derived.Laws.BitsAllLaws
import Derived.Deep.RegionHeld3
import Derived.Laws.Rows
import Derived.Laws.Tables
import Derived.Laws.Cells
import Derived.Deep.Draws
import Derived.Deep.RegionHeld
namespace Go.Proofs.YtjjdojokkmfbmaaGreatDoor
open Go.RowKit
set_option linter.unusedVariables false
set_option linter.unusedSimpArgs false
theorem turn_i64 (a b : Int) : I64 (turnF a b) := by
  rw [turnF_eq]
  unfold I64
  omega
set_option maxRecDepth 100000 in
set_option maxHeartbeats 8000000 in
theorem tofix_any (fx fy c : Int) (x : En) (hc : 0 ≤ x.crs) (hc2 : x.crs ≤ 129599999) (w : World) :
    Calls Tryz.prog 27 #[.agg #[.int .i64 fx, .int .i64 fy], .int .i64 c, .agg x.cells.toArray] w fun e w' => e = .returned (.tuple #[.agg (toFixT fx fy c x).1.cells.toArray, .int .i64 (toFixT fx fy c x).2]) ∧ Below w.heap.size w w' := by
  have hM := mem_nil w
  go_enter Tryz.func27, Tryz.ntmps27
  go_upto_region 15 with (first
    | (go_at_call 60; (with_reducible refine (ray_any _ _ _ _ ?_ ?_ _ _ rfl).mono ?_); (· first | assumption | (unfold I64; omega)); (· first | assumption | (unfold I64; omega)); rintro e W1 ⟨rfl, hb⟩; replace hM := mem_below hM hb; clear hb)
    | (go_at_call 61; (with_reducible refine (ahead_any _ _ _ _ _ _ _).mono ?_); rintro e W1 ⟨rfl, hb⟩; replace hM := mem_below hM hb; clear hb)
    | (go_at_call 62; (with_reducible refine (off_any _ _ _ _ _ _ _ _ rfl).mono ?_); rintro e W1 ⟨rfl, hb⟩; replace hM := mem_below hM hb; clear hb)
    | (go_at_call 63; (with_reducible refine (foot_any _ _ _ _ _ _ _ _ rfl).mono ?_); rintro e W1 ⟨rfl, hb⟩; replace hM := mem_below hM hb; clear hb)
    | (go_at_call 26; (with_reducible refine (straight_any _ _ _ _ _ _).mono ?_); rintro e W1 ⟨rfl, hb⟩; replace hM := mem_below hM hb; clear hb)
    | ((with_reducible refine at_ldx ?_); refine' mg_load1 hM rfl rfl ?_ ?_ ?_ ?_ ?_; rotate_left 3; (· first | exact rfl | (go_simp; done)); (· repeat constructor); (· exact scT rfl); (· exact rfl))
    | ((with_reducible refine at_ldx ?_); refine' mg_load hM rfl rfl ?_ ?_ ?_ ?_ ?_ ?_; rotate_left 4; (· first | exact rfl | (go_simp; done)); (· repeat constructor); (· exact agT rfl); (· exact szT rfl); (· repeat constructor))
    | ((with_reducible refine at_stx ?_); refine' ms_store hM rfl rfl rfl ?_ ?_ ?_ ?_ ?_ ?_ ?_ ?_; rotate_left 6; (· constructor); (· repeat constructor); (· repeat constructor); (· repeat constructor); (· exact szT rfl); (· rfl); (· exact onecells rfl); (clear hM; intro W hM))
    | ((with_reducible refine at_bxx ?_); refine' mp_box hM rfl rfl ?_ ?_; rotate_left 1; (· constructor); (clear hM; intro g W hM))
    | ((with_reducible refine at_alx ?_); refine' mp_alloc hM rfl rfl ?_ rfl ?_; rotate_left 1; (· exact zoT rfl); (clear hM; intro g W hM)))
  all_goals first
    | (refine' end_m2 hM rfl rfl Tryz.isAgg44 Tryz.sizeOf44 rfl rfl ?_ ?_ ⟨?_, hM.below⟩; rotate_left 2; (· repeat constructor); (· rfl); (· refine' ret_tk ?_ ?_; rotate_left 1; (· (unfold toFixT; (try dsimp only); (repeat (first | (refine (if_pos ?_).trans ?_; (· first | omega | (exact bne_t (by assumption)) | (exact bne_f (by assumption)) | (simp_all; done) | (simp_all; omega))) | (refine (if_neg ?_).trans ?_; (· first | omega | (exact bne_t (by assumption)) | (exact bne_f (by assumption)) | (simp_all; done) | (simp_all; omega))))); rfl)); (· first | rfl | exact congrArg Tk.cells (straight_co _ _ _ _ _ _))))
    | skip
  all_goals
    refine' region_del hM (by kernel_rfl) (.tmp 13) rfl ?_ ?_; rotate_left 1; (· repeat constructor); (clear hM; intro W hM hK hne)
    refine' tk_pure hM hK (i := 0) (nthQ rfl) (by kernel_rfl) (by kernel_rfl) (by kernel_rfl) rfl ?_ (fun _ _ _ _ h => h) ?_; rotate_left 1; (· (intro W0; go_simp <;> with_reducible rfl))
    try simp only [Act.put, List.setIfInBounds_toArray, List.set_cons_zero, List.set_cons_succ]
    refine' tk_pure hM hK (i := 1) (nthQ rfl) (by kernel_rfl) (by kernel_rfl) (by kernel_rfl) rfl ?_ (fun _ _ _ _ h => h) ?_; rotate_left 1; (· (intro W0; go_simp <;> with_reducible rfl))
    try simp only [Act.put, List.setIfInBounds_toArray, List.set_cons_zero, List.set_cons_succ]
    first
      | (refine' tk_load1 hM hK (i := 2) (nthQ rfl) (by kernel_rfl) (by kernel_rfl) (by kernel_rfl) rfl rfl rfl ?_ ?_ ?_ (fun _ _ _ _ h => h) ?_; rotate_left 3; (· repeat constructor); (· exact scT rfl); (· exact rfl))
      | (refine' tk_load hM hK (i := 2) (nthQ rfl) (by kernel_rfl) (by kernel_rfl) (by kernel_rfl) rfl rfl rfl ?_ ?_ ?_ ?_ (fun _ _ _ _ h => h) ?_; rotate_left 4; (· repeat constructor); (· exact agT rfl); (· exact szT rfl); (· repeat constructor))
    try simp only [Act.put, List.setIfInBounds_toArray, List.set_cons_zero, List.set_cons_succ]
    refine' tk_pure hM hK (i := 3) (nthQ rfl) (by kernel_rfl) (by kernel_rfl) (by kernel_rfl) rfl ?_ (fun _ _ _ _ h => h) ?_; rotate_left 1; (· (intro W0; go_simp <;> with_reducible rfl))
    try simp only [Act.put, List.setIfInBounds_toArray, List.set_cons_zero, List.set_cons_succ]
    refine' tk_pure hM hK (i := 4) (nthQ rfl) (by kernel_rfl) (by kernel_rfl) (by kernel_rfl) rfl ?_ (fun _ _ _ _ h => h) ?_; rotate_left 1; (· (intro W0; go_simp <;> with_reducible rfl))
    try simp only [Act.put, List.setIfInBounds_toArray, List.set_cons_zero, List.set_cons_succ]
    first
      | (refine' tk_load1 hM hK (i := 5) (nthQ rfl) (by kernel_rfl) (by kernel_rfl) (by kernel_rfl) rfl rfl rfl ?_ ?_ ?_ (fun _ _ _ _ h => h) ?_; rotate_left 3; (· repeat constructor); (· exact scT rfl); (· exact rfl))
      | (refine' tk_load hM hK (i := 5) (nthQ rfl) (by kernel_rfl) (by kernel_rfl) (by kernel_rfl) rfl rfl rfl ?_ ?_ ?_ ?_ (fun _ _ _ _ h => h) ?_; rotate_left 4; (· repeat constructor); (· exact agT rfl); (· exact szT rfl); (· repeat constructor))
    try simp only [Act.put, List.setIfInBounds_toArray, List.set_cons_zero, List.set_cons_succ]
    refine' tk_pure hM hK (i := 6) (nthQ rfl) (by kernel_rfl) (by kernel_rfl) (by kernel_rfl) rfl ?_ (fun _ _ _ _ h => h) ?_; rotate_left 1; (· (intro W0; go_simp <;> with_reducible rfl))
    try simp only [Act.put, List.setIfInBounds_toArray, List.set_cons_zero, List.set_cons_succ]
    refine' tk_store hM (i := 7) (nthQ rfl) (by kernel_rfl) rfl rfl rfl ?_ ?_ ?_ ?_ ?_ ?_ ?_ hK hne ?_; rotate_left 6; (· constructor); (· repeat constructor); (· repeat constructor); (· repeat constructor); (· exact szT rfl); (· rfl); (· exact onecells rfl); (clear hM hK; intro W hM hK)
    try simp only [Act.put, List.setIfInBounds_toArray, List.set_cons_zero, List.set_cons_succ]
    refine' tk_pure hM hK (i := 8) (nthQ rfl) (by kernel_rfl) (by kernel_rfl) (by kernel_rfl) rfl ?_ (fun _ _ _ _ h => h) ?_; rotate_left 1; (· (intro W0; go_simp <;> with_reducible rfl))
    try simp only [Act.put, List.setIfInBounds_toArray, List.set_cons_zero, List.set_cons_succ]
    refine' tk_store hM (i := 9) (nthQ rfl) (by kernel_rfl) rfl rfl rfl ?_ ?_ ?_ ?_ ?_ ?_ ?_ hK hne ?_; rotate_left 6; (· constructor); (· repeat constructor); (· repeat constructor); (· repeat constructor); (· exact szT rfl); (· rfl); (· exact onecells rfl); (clear hM hK; intro W hM hK)
    try simp only [Act.put, List.setIfInBounds_toArray, List.set_cons_zero, List.set_cons_succ]
    refine tk_done (by kernel_rfl) ?_
    go_wp2_with (first
        | (go_at_call 60; (with_reducible refine (ray_any _ _ _ _ ?_ ?_ _ _ rfl).mono ?_); (· first | assumption | (unfold I64; omega)); (· first | assumption | (unfold I64; omega)); rintro e W1 ⟨rfl, hb⟩; replace hM := mem_below hM hb; clear hb)
        | (go_at_call 61; (with_reducible refine (ahead_any _ _ _ _ _ _ _).mono ?_); rintro e W1 ⟨rfl, hb⟩; replace hM := mem_below hM hb; clear hb)
        | (go_at_call 62; (with_reducible refine (off_any _ _ _ _ _ _ _ _ rfl).mono ?_); rintro e W1 ⟨rfl, hb⟩; replace hM := mem_below hM hb; clear hb)
        | (go_at_call 63; (with_reducible refine (foot_any _ _ _ _ _ _ _ _ rfl).mono ?_); rintro e W1 ⟨rfl, hb⟩; replace hM := mem_below hM hb; clear hb)
        | (go_at_call 26; (with_reducible refine (straight_any _ _ _ _ _ _).mono ?_); rintro e W1 ⟨rfl, hb⟩; replace hM := mem_below hM hb; clear hb)
        | ((with_reducible refine at_ldx ?_); refine' mg_load1 hM rfl rfl ?_ ?_ ?_ ?_ ?_; rotate_left 3; (· first | exact rfl | (go_simp; done)); (· repeat constructor); (· exact scT rfl); (· exact rfl))
        | ((with_reducible refine at_ldx ?_); refine' mg_load hM rfl rfl ?_ ?_ ?_ ?_ ?_ ?_; rotate_left 4; (· first | exact rfl | (go_simp; done)); (· repeat constructor); (· exact agT rfl); (· exact szT rfl); (· repeat constructor))
        | ((with_reducible refine at_stx ?_); refine' ms_store hM rfl rfl rfl ?_ ?_ ?_ ?_ ?_ ?_ ?_ ?_; rotate_left 6; (· constructor); (· repeat constructor); (· repeat constructor); (· repeat constructor); (· exact szT rfl); (· rfl); (· exact onecells rfl); (clear hM; intro W hM))
        | ((with_reducible refine at_bxx ?_); refine' mp_box hM rfl rfl ?_ ?_; rotate_left 1; (· constructor); (clear hM; intro g W hM))
        | ((with_reducible refine at_alx ?_); refine' mp_alloc hM rfl rfl ?_ rfl ?_; rotate_left 1; (· exact zoT rfl); (clear hM; intro g W hM)))
    refine' end_m2 hM rfl rfl Tryz.isAgg44 Tryz.sizeOf44 rfl rfl ?_ ?_ ⟨?_, hM.below⟩
    rotate_left 2
    · repeat constructor
    · rfl
    · refine' ret_tk ?_ ?_; rotate_left 1; (· (unfold toFixT; (try dsimp only); (repeat (first | (refine (if_pos ?_).trans ?_; (· first | omega | (exact bne_t (by assumption)) | (exact bne_f (by assumption)) | (simp_all; done) | (simp_all; omega))) | (refine (if_neg ?_).trans ?_; (· first | omega | (exact bne_t (by assumption)) | (exact bne_f (by assumption)) | (simp_all; done) | (simp_all; omega))))); rfl)); (· first | rfl | exact congrArg Tk.cells (straight_co _ _ _ _ _ _))
set_option maxRecDepth 100000 in
set_option maxHeartbeats 8000000 in
theorem inter_any (fx fy : Int) (x y : En) (hc : I64 x.crs) (hy : I64 y.crs) (ty : 0 ≤ y.ty) (w : World) :
    Calls Tryz.prog 33 #[.agg #[.int .i64 fx, .int .i64 fy], .agg x.cells.toArray, .agg y.cells.toArray] w fun e w' => e = .returned (.tuple #[.agg (interT fx fy x y).1.cells.toArray, .int .i64 (interT fx fy x y).2]) ∧ Below w.heap.size w w' := by
  have hT := turn_i64 y.crs 64800000
  have hM := mem_nil w
  go_enter Tryz.func33, Tryz.ntmps33
  go_upto_region 6 with (first
    | (go_at_call 60; (with_reducible refine (ray_any _ _ _ _ ?_ ?_ _ _ rfl).mono ?_); (· first | assumption | (unfold I64; omega)); (· first | assumption | (unfold I64; omega)); rintro e W1 ⟨rfl, hb⟩; replace hM := mem_below hM hb; clear hb)
    | (go_at_call 69; (with_reducible refine (meet_any _ _ _ _ _ _ _ _ _ _ rfl).mono ?_); rintro e W1 ⟨rfl, hb⟩; replace hM := mem_below hM hb; clear hb)
    | (go_at_call 70; (with_reducible refine (before_any _ _ _ _ _ _ _).mono ?_); rintro e W1 ⟨rfl, hb⟩; replace hM := mem_below hM hb; clear hb)
    | (go_at_call 71; (with_reducible refine (until_any _ _ _ _ _ _).mono ?_); rintro e W1 ⟨rfl, hb⟩; replace hM := mem_below hM hb; clear hb)
    | (go_at_call 61; (with_reducible refine (ahead_any _ _ _ _ _ _ _).mono ?_); rintro e W1 ⟨rfl, hb⟩; replace hM := mem_below hM hb; clear hb)
    | (go_at_call 72; (with_reducible refine (opposite_any _ ?_ _).mono ?_); (· first | assumption | (unfold I64; omega)); rintro e W1 ⟨rfl, rfl⟩)
    | ((with_reducible refine at_ldx ?_); refine' mg_load1 hM rfl rfl ?_ ?_ ?_ ?_ ?_; rotate_left 3; (· first | exact rfl | (go_simp; done)); (· repeat constructor); (· exact scT rfl); (· exact rfl))
    | ((with_reducible refine at_ldx ?_); refine' mg_load hM rfl rfl ?_ ?_ ?_ ?_ ?_ ?_; rotate_left 4; (· first | exact rfl | (go_simp; done)); (· repeat constructor); (· exact agT rfl); (· exact szT rfl); (· repeat constructor))
    | ((with_reducible refine at_ldg ?_); refine mg_case (fun hg => ?_) (fun hg => ?_) <;> simp [go_sem, Region.wanted] at hg)
    | ((with_reducible refine at_stx ?_); refine' ms_store hM rfl rfl rfl ?_ ?_ ?_ ?_ ?_ ?_ ?_ ?_; rotate_left 6; (· constructor); (· repeat constructor); (· repeat constructor); (· repeat constructor); (· exact szT rfl); (· rfl); (· exact onecells rfl); (clear hM; intro W hM))
    | ((with_reducible refine at_bxx ?_); refine' mp_box hM rfl rfl ?_ ?_; rotate_left 1; (· constructor); (clear hM; intro g W hM))
    | ((with_reducible refine at_alx ?_); refine' mp_alloc hM rfl rfl ?_ rfl ?_; rotate_left 1; (· exact zoT rfl); (clear hM; intro g W hM)))
  all_goals first
    | (refine' end_m2 hM rfl rfl Tryz.isAgg44 Tryz.sizeOf44 rfl rfl ?_ ?_ ⟨?_, hM.below⟩; rotate_left 2; (· repeat constructor); (· rfl); (· refine' ret_tk ?_ ?_; rotate_left 1; (· (unfold interT; (try dsimp only); (repeat (first | (refine (if_pos ?_).trans ?_; (· first | omega | (exact bne_t (by assumption)) | (exact bne_f (by assumption)) | (simp_all; done) | (simp_all; omega))) | (refine (if_neg ?_).trans ?_; (· first | omega | (exact bne_t (by assumption)) | (exact bne_f (by assumption)) | (simp_all; done) | (simp_all; omega))))); rfl)); (· first | rfl | exact congrArg Tk.cells (straight_co _ _ _ _ _ _))))
    | skip
  refine region_all hM (by kernel_rfl) ?_; (clear hM; intro W hM hK)
  refine' tk_pure hM hK (i := 0) (nthQ rfl) (by kernel_rfl) (by kernel_rfl) (by kernel_rfl) rfl ?_ (fun _ _ _ _ h => h) ?_; rotate_left 1; (· (intro W0; go_simp <;> with_reducible rfl))
  try simp only [Act.put, List.setIfInBounds_toArray, List.set_cons_zero, List.set_cons_succ]
  first
    | (refine' tk_load1 hM hK (i := 1) (nthQ rfl) (by kernel_rfl) (by kernel_rfl) (by kernel_rfl) rfl rfl rfl ?_ ?_ ?_ (fun _ _ _ _ h => h) ?_; rotate_left 3; (· repeat constructor); (· exact scT rfl); (· exact rfl))
    | (refine' tk_load hM hK (i := 1) (nthQ rfl) (by kernel_rfl) (by kernel_rfl) (by kernel_rfl) rfl rfl rfl ?_ ?_ ?_ ?_ (fun _ _ _ _ h => h) ?_; rotate_left 4; (· repeat constructor); (· exact agT rfl); (· exact szT rfl); (· repeat constructor))
  try simp only [Act.put, List.setIfInBounds_toArray, List.set_cons_zero, List.set_cons_succ]
  refine' tk_pure hM hK (i := 2) (nthQ rfl) (by kernel_rfl) (by kernel_rfl) (by kernel_rfl) rfl ?_ (fun _ _ _ _ h => h) ?_; rotate_left 1; (· (intro W0; go_simp <;> with_reducible rfl))
  try simp only [Act.put, List.setIfInBounds_toArray, List.set_cons_zero, List.set_cons_succ]
  refine' tk_pure hM hK (i := 3) (nthQ rfl) (by kernel_rfl) (by kernel_rfl) (by kernel_rfl) rfl ?_ (fun _ _ _ _ h => h) ?_; rotate_left 1; (· (intro W0; go_simp <;> with_reducible rfl))
  try simp only [Act.put, List.setIfInBounds_toArray, List.set_cons_zero, List.set_cons_succ]
  first
    | (refine' tk_load1 hM hK (i := 4) (nthQ rfl) (by kernel_rfl) (by kernel_rfl) (by kernel_rfl) rfl rfl rfl ?_ ?_ ?_ (fun _ _ _ _ h => h) ?_; rotate_left 3; (· repeat constructor); (· exact scT rfl); (· exact rfl))
    | (refine' tk_load hM hK (i := 4) (nthQ rfl) (by kernel_rfl) (by kernel_rfl) (by kernel_rfl) rfl rfl rfl ?_ ?_ ?_ ?_ (fun _ _ _ _ h => h) ?_; rotate_left 4; (· repeat constructor); (· exact agT rfl); (· exact szT rfl); (· repeat constructor))
  try simp only [Act.put, List.setIfInBounds_toArray, List.set_cons_zero, List.set_cons_succ]
  refine tk_two (i := 5) (j := 10) (nthQ rfl) (nthQ rfl) (by kernel_rfl) rfl rfl (fun K' hK' => ?_) (fun K' hK' => ?_)
  ·
    go_wp2_with (first
      | (go_at_call 72; (with_reducible refine (opposite_any _ ?_ _).mono ?_); (· first | assumption | (unfold I64; omega)); rintro e W1 ⟨rfl, rfl⟩)
      | (go_at_call 60; (with_reducible refine (ray_any _ _ _ _ ?_ ?_ _ _ rfl).mono ?_); (· first | assumption | (unfold I64; omega)); (· first | assumption | (unfold I64; omega)); rintro e W1 ⟨rfl, hb⟩; replace hM := mem_below hM hb; clear hb))
    refine hK'.out _ _ (held_of hM hK) ?_
    clear hK' K'
    try simp only [Act.put, List.setIfInBounds_toArray, List.set_cons_zero, List.set_cons_succ]
    refine tk_two (i := 6) (j := 10) (nthQ rfl) (nthQ rfl) (by kernel_rfl) rfl rfl (fun K' hK' => ?_) (fun K' hK' => ?_)
    ·
      go_wp2_with (first
        | (go_at_call 72; (with_reducible refine (opposite_any _ ?_ _).mono ?_); (· first | assumption | (unfold I64; omega)); rintro e W1 ⟨rfl, rfl⟩)
        | (go_at_call 60; (with_reducible refine (ray_any _ _ _ _ ?_ ?_ _ _ rfl).mono ?_); (· first | assumption | (unfold I64; omega)); (· first | assumption | (unfold I64; omega)); rintro e W1 ⟨rfl, hb⟩; replace hM := mem_below hM hb; clear hb))
      refine hK'.out _ _ (held_of hM hK) ?_
      clear hK' K'
      try simp only [Act.put, List.setIfInBounds_toArray, List.set_cons_zero, List.set_cons_succ]
      refine' tk_pure hM hK (i := 7) (nthQ rfl) (by kernel_rfl) (by kernel_rfl) (by kernel_rfl) rfl ?_ (fun _ _ _ _ h => h) ?_; rotate_left 1; (· (intro W0; go_simp <;> with_reducible rfl))
      try simp only [Act.put, List.setIfInBounds_toArray, List.set_cons_zero, List.set_cons_succ]
      refine' tk_pure hM hK (i := 8) (nthQ rfl) (by kernel_rfl) (by kernel_rfl) (by kernel_rfl) rfl ?_ (fun _ _ _ _ h => h) ?_; rotate_left 1; (· (intro W0; go_simp <;> with_reducible rfl))
      try simp only [Act.put, List.setIfInBounds_toArray, List.set_cons_zero, List.set_cons_succ]
      refine' tk_pure hM hK (i := 9) (nthQ rfl) (by kernel_rfl) (by kernel_rfl) (by kernel_rfl) rfl ?_ (fun _ _ _ _ h => h) ?_; rotate_left 1; (· (intro W0; go_simp <;> with_reducible rfl))
      try simp only [Act.put, List.setIfInBounds_toArray, List.set_cons_zero, List.set_cons_succ]
      refine tk_call (i := 10) (nthQ rfl) (by kernel_rfl) rfl (fun K' hK' => ?_)
      refine' wp_alloc_mem hM rfl ?_ rfl ?_; rotate_left 1; (· exact zoT rfl); (have hKo := hK; clear hK hM; intro g W hM; have hne := new_ne hM hKo; have hK := keep_new hM hKo; clear hKo)
      refine hK'.out _ _ (held_of hM hK) ?_
      clear hK' K'
      try simp only [Act.put, List.setIfInBounds_toArray, List.set_cons_zero, List.set_cons_succ]
      refine' tk_store hM (i := 11) (nthQ rfl) (by kernel_rfl) rfl rfl rfl ?_ ?_ ?_ ?_ ?_ ?_ ?_ hK hne ?_; rotate_left 6; (· constructor); (· repeat constructor); (· repeat constructor); (· repeat constructor); (· exact szT rfl); (· rfl); (· exact onecells rfl); (clear hM hK; intro W hM hK)
      try simp only [Act.put, List.setIfInBounds_toArray, List.set_cons_zero, List.set_cons_succ]
      refine' tk_pure hM hK (i := 12) (nthQ rfl) (by kernel_rfl) (by kernel_rfl) (by kernel_rfl) rfl ?_ (fun _ _ _ _ h => h) ?_; rotate_left 1; (· (intro W0; go_simp <;> with_reducible rfl))
      try simp only [Act.put, List.setIfInBounds_toArray, List.set_cons_zero, List.set_cons_succ]
      refine tk_done (by kernel_rfl) ?_
      go_wp2_with (first
          | (go_at_call 60; (with_reducible refine (ray_any _ _ _ _ ?_ ?_ _ _ rfl).mono ?_); (· first | assumption | (unfold I64; omega)); (· first | assumption | (unfold I64; omega)); rintro e W1 ⟨rfl, hb⟩; replace hM := mem_below hM hb; clear hb)
          | (go_at_call 69; (with_reducible refine (meet_any _ _ _ _ _ _ _ _ _ _ rfl).mono ?_); rintro e W1 ⟨rfl, hb⟩; replace hM := mem_below hM hb; clear hb)
          | (go_at_call 70; (with_reducible refine (before_any _ _ _ _ _ _ _).mono ?_); rintro e W1 ⟨rfl, hb⟩; replace hM := mem_below hM hb; clear hb)
          | (go_at_call 71; (with_reducible refine (until_any _ _ _ _ _ _).mono ?_); rintro e W1 ⟨rfl, hb⟩; replace hM := mem_below hM hb; clear hb)
          | (go_at_call 61; (with_reducible refine (ahead_any _ _ _ _ _ _ _).mono ?_); rintro e W1 ⟨rfl, hb⟩; replace hM := mem_below hM hb; clear hb)
          | (go_at_call 72; (with_reducible refine (opposite_any _ ?_ _).mono ?_); (· first | assumption | (unfold I64; omega)); rintro e W1 ⟨rfl, rfl⟩)
          | ((with_reducible refine at_ldx ?_); refine' mg_load1 hM rfl rfl ?_ ?_ ?_ ?_ ?_; rotate_left 3; (· first | exact rfl | (go_simp; done)); (· repeat constructor); (· exact scT rfl); (· exact rfl))
          | ((with_reducible refine at_ldx ?_); refine' mg_load hM rfl rfl ?_ ?_ ?_ ?_ ?_ ?_; rotate_left 4; (· first | exact rfl | (go_simp; done)); (· repeat constructor); (· exact agT rfl); (· exact szT rfl); (· repeat constructor))
          | ((with_reducible refine at_ldg ?_); refine mg_case (fun hg => ?_) (fun hg => ?_) <;> simp [go_sem, Region.wanted] at hg)
          | ((with_reducible refine at_stx ?_); refine' ms_store hM rfl rfl rfl ?_ ?_ ?_ ?_ ?_ ?_ ?_ ?_; rotate_left 6; (· constructor); (· repeat constructor); (· repeat constructor); (· repeat constructor); (· exact szT rfl); (· rfl); (· exact onecells rfl); (clear hM; intro W hM))
          | ((with_reducible refine at_bxx ?_); refine' mp_box hM rfl rfl ?_ ?_; rotate_left 1; (· constructor); (clear hM; intro g W hM))
          | ((with_reducible refine at_alx ?_); refine' mp_alloc hM rfl rfl ?_ rfl ?_; rotate_left 1; (· exact zoT rfl); (clear hM; intro g W hM)))
      all_goals
        refine' end_m2 hM rfl rfl Tryz.isAgg44 Tryz.sizeOf44 rfl rfl ?_ ?_ ⟨?_, hM.below⟩
        rotate_left 2
        · repeat constructor
        · rfl
        · refine' ret_tk ?_ ?_; rotate_left 1; (· (unfold interT; (try dsimp only); (repeat (first | (refine (if_pos ?_).trans ?_; (· first | omega | (exact bne_t (by assumption)) | (exact bne_f (by assumption)) | (simp_all; done) | (simp_all; omega))) | (refine (if_neg ?_).trans ?_; (· first | omega | (exact bne_t (by assumption)) | (exact bne_f (by assumption)) | (simp_all; done) | (simp_all; omega))))); rfl)); (· first | rfl | exact congrArg Tk.cells (straight_co _ _ _ _ _ _))
    ·
      refine' wp_alloc_mem hM rfl ?_ rfl ?_; rotate_left 1; (· exact zoT rfl); (have hKo := hK; clear hK hM; intro g W hM; have hne := new_ne hM hKo; have hK := keep_new hM hKo; clear hKo)
      refine hK'.out _ _ (held_of hM hK) ?_
      clear hK' K'
      try simp only [Act.put, List.setIfInBounds_toArray, List.set_cons_zero, List.set_cons_succ]
      refine tk_call (i := 6) (nthQ rfl) (by kernel_rfl) rfl (fun K' hK' => ?_)
      go_wp2_with (first
        | (go_at_call 72; (with_reducible refine (opposite_any _ ?_ _).mono ?_); (· first | assumption | (unfold I64; omega)); rintro e W1 ⟨rfl, rfl⟩)
        | (go_at_call 60; (with_reducible refine (ray_any _ _ _ _ ?_ ?_ _ _ rfl).mono ?_); (· first | assumption | (unfold I64; omega)); (· first | assumption | (unfold I64; omega)); rintro e W1 ⟨rfl, hb⟩; replace hM := mem_below hM hb; clear hb))
      refine hK'.out _ _ (held_of hM hK) ?_
      clear hK' K'
      try simp only [Act.put, List.setIfInBounds_toArray, List.set_cons_zero, List.set_cons_succ]
      refine' tk_pure hM hK (i := 7) (nthQ rfl) (by kernel_rfl) (by kernel_rfl) (by kernel_rfl) rfl ?_ (fun _ _ _ _ h => h) ?_; rotate_left 1; (· (intro W0; go_simp <;> with_reducible rfl))
      try simp only [Act.put, List.setIfInBounds_toArray, List.set_cons_zero, List.set_cons_succ]
      refine' tk_pure hM hK (i := 8) (nthQ rfl) (by kernel_rfl) (by kernel_rfl) (by kernel_rfl) rfl ?_ (fun _ _ _ _ h => h) ?_; rotate_left 1; (· (intro W0; go_simp <;> with_reducible rfl))
      try simp only [Act.put, List.setIfInBounds_toArray, List.set_cons_zero, List.set_cons_succ]
      refine' tk_pure hM hK (i := 9) (nthQ rfl) (by kernel_rfl) (by kernel_rfl) (by kernel_rfl) rfl ?_ (fun _ _ _ _ h => h) ?_; rotate_left 1; (· (intro W0; go_simp <;> with_reducible rfl))
      try simp only [Act.put, List.setIfInBounds_toArray, List.set_cons_zero, List.set_cons_succ]
      refine' tk_store hM (i := 11) (nthQ rfl) (by kernel_rfl) rfl rfl rfl ?_ ?_ ?_ ?_ ?_ ?_ ?_ hK hne ?_; rotate_left 6; (· constructor); (· repeat constructor); (· repeat constructor); (· repeat constructor); (· exact szT rfl); (· rfl); (· exact onecells rfl); (clear hM hK; intro W hM hK)
      try simp only [Act.put, List.setIfInBounds_toArray, List.set_cons_zero, List.set_cons_succ]
      refine' tk_pure hM hK (i := 12) (nthQ rfl) (by kernel_rfl) (by kernel_rfl) (by kernel_rfl) rfl ?_ (fun _ _ _ _ h => h) ?_; rotate_left 1; (· (intro W0; go_simp <;> with_reducible rfl))
      try simp only [Act.put, List.setIfInBounds_toArray, List.set_cons_zero, List.set_cons_succ]
      refine tk_done (by kernel_rfl) ?_
      go_wp2_with (first
          | (go_at_call 60; (with_reducible refine (ray_any _ _ _ _ ?_ ?_ _ _ rfl).mono ?_); (· first | assumption | (unfold I64; omega)); (· first | assumption | (unfold I64; omega)); rintro e W1 ⟨rfl, hb⟩; replace hM := mem_below hM hb; clear hb)
          | (go_at_call 69; (with_reducible refine (meet_any _ _ _ _ _ _ _ _ _ _ rfl).mono ?_); rintro e W1 ⟨rfl, hb⟩; replace hM := mem_below hM hb; clear hb)
          | (go_at_call 70; (with_reducible refine (before_any _ _ _ _ _ _ _).mono ?_); rintro e W1 ⟨rfl, hb⟩; replace hM := mem_below hM hb; clear hb)
          | (go_at_call 71; (with_reducible refine (until_any _ _ _ _ _ _).mono ?_); rintro e W1 ⟨rfl, hb⟩; replace hM := mem_below hM hb; clear hb)
          | (go_at_call 61; (with_reducible refine (ahead_any _ _ _ _ _ _ _).mono ?_); rintro e W1 ⟨rfl, hb⟩; replace hM := mem_below hM hb; clear hb)
          | (go_at_call 72; (with_reducible refine (opposite_any _ ?_ _).mono ?_); (· first | assumption | (unfold I64; omega)); rintro e W1 ⟨rfl, rfl⟩)
          | ((with_reducible refine at_ldx ?_); refine' mg_load1 hM rfl rfl ?_ ?_ ?_ ?_ ?_; rotate_left 3; (· first | exact rfl | (go_simp; done)); (· repeat constructor); (· exact scT rfl); (· exact rfl))
          | ((with_reducible refine at_ldx ?_); refine' mg_load hM rfl rfl ?_ ?_ ?_ ?_ ?_ ?_; rotate_left 4; (· first | exact rfl | (go_simp; done)); (· repeat constructor); (· exact agT rfl); (· exact szT rfl); (· repeat constructor))
          | ((with_reducible refine at_ldg ?_); refine mg_case (fun hg => ?_) (fun hg => ?_) <;> simp [go_sem, Region.wanted] at hg)
          | ((with_reducible refine at_stx ?_); refine' ms_store hM rfl rfl rfl ?_ ?_ ?_ ?_ ?_ ?_ ?_ ?_; rotate_left 6; (· constructor); (· repeat constructor); (· repeat constructor); (· repeat constructor); (· exact szT rfl); (· rfl); (· exact onecells rfl); (clear hM; intro W hM))
          | ((with_reducible refine at_bxx ?_); refine' mp_box hM rfl rfl ?_ ?_; rotate_left 1; (· constructor); (clear hM; intro g W hM))
          | ((with_reducible refine at_alx ?_); refine' mp_alloc hM rfl rfl ?_ rfl ?_; rotate_left 1; (· exact zoT rfl); (clear hM; intro g W hM)))
      all_goals
        refine' end_m2 hM rfl rfl Tryz.isAgg44 Tryz.sizeOf44 rfl rfl ?_ ?_ ⟨?_, hM.below⟩
        rotate_left 2
        · repeat constructor
        · rfl
        · refine' ret_tk ?_ ?_; rotate_left 1; (· (unfold interT; (try dsimp only); (repeat (first | (refine (if_pos ?_).trans ?_; (· first | omega | (exact bne_t (by assumption)) | (exact bne_f (by assumption)) | (simp_all; done) | (simp_all; omega))) | (refine (if_neg ?_).trans ?_; (· first | omega | (exact bne_t (by assumption)) | (exact bne_f (by assumption)) | (simp_all; done) | (simp_all; omega))))); rfl)); (· first | rfl | exact congrArg Tk.cells (straight_co _ _ _ _ _ _))
  ·
    refine' wp_alloc_mem hM rfl ?_ rfl ?_; rotate_left 1; (· exact zoT rfl); (have hKo := hK; clear hK hM; intro g W hM; have hne := new_ne hM hKo; have hK := keep_new hM hKo; clear hKo)
    refine hK'.out _ _ (held_of hM hK) ?_
    clear hK' K'
    try simp only [Act.put, List.setIfInBounds_toArray, List.set_cons_zero, List.set_cons_succ]
    refine tk_call (i := 5) (nthQ rfl) (by kernel_rfl) rfl (fun K' hK' => ?_)
    go_wp2_with (first
      | (go_at_call 72; (with_reducible refine (opposite_any _ ?_ _).mono ?_); (· first | assumption | (unfold I64; omega)); rintro e W1 ⟨rfl, rfl⟩)
      | (go_at_call 60; (with_reducible refine (ray_any _ _ _ _ ?_ ?_ _ _ rfl).mono ?_); (· first | assumption | (unfold I64; omega)); (· first | assumption | (unfold I64; omega)); rintro e W1 ⟨rfl, hb⟩; replace hM := mem_below hM hb; clear hb))
    refine hK'.out _ _ (held_of hM hK) ?_
    clear hK' K'
    try simp only [Act.put, List.setIfInBounds_toArray, List.set_cons_zero, List.set_cons_succ]
    refine tk_call (i := 6) (nthQ rfl) (by kernel_rfl) rfl (fun K' hK' => ?_)
    go_wp2_with (first
      | (go_at_call 72; (with_reducible refine (opposite_any _ ?_ _).mono ?_); (· first | assumption | (unfold I64; omega)); rintro e W1 ⟨rfl, rfl⟩)
      | (go_at_call 60; (with_reducible refine (ray_any _ _ _ _ ?_ ?_ _ _ rfl).mono ?_); (· first | assumption | (unfold I64; omega)); (· first | assumption | (unfold I64; omega)); rintro e W1 ⟨rfl, hb⟩; replace hM := mem_below hM hb; clear hb))
    refine hK'.out _ _ (held_of hM hK) ?_
    clear hK' K'
    try simp only [Act.put, List.setIfInBounds_toArray, List.set_cons_zero, List.set_cons_succ]
    refine' tk_pure hM hK (i := 7) (nthQ rfl) (by kernel_rfl) (by kernel_rfl) (by kernel_rfl) rfl ?_ (fun _ _ _ _ h => h) ?_; rotate_left 1; (· (intro W0; go_simp <;> with_reducible rfl))
    try simp only [Act.put, List.setIfInBounds_toArray, List.set_cons_zero, List.set_cons_succ]
    refine' tk_pure hM hK (i := 8) (nthQ rfl) (by kernel_rfl) (by kernel_rfl) (by kernel_rfl) rfl ?_ (fun _ _ _ _ h => h) ?_; rotate_left 1; (· (intro W0; go_simp <;> with_reducible rfl))
    try simp only [Act.put, List.setIfInBounds_toArray, List.set_cons_zero, List.set_cons_succ]
    refine' tk_pure hM hK (i := 9) (nthQ rfl) (by kernel_rfl) (by kernel_rfl) (by kernel_rfl) rfl ?_ (fun _ _ _ _ h => h) ?_; rotate_left 1; (· (intro W0; go_simp <;> with_reducible rfl))
    try simp only [Act.put, List.setIfInBounds_toArray, List.set_cons_zero, List.set_cons_succ]
    refine' tk_store hM (i := 11) (nthQ rfl) (by kernel_rfl) rfl rfl rfl ?_ ?_ ?_ ?_ ?_ ?_ ?_ hK hne ?_; rotate_left 6; (· constructor); (· repeat constructor); (· repeat constructor); (· repeat constructor); (· exact szT rfl); (· rfl); (· exact onecells rfl); (clear hM hK; intro W hM hK)
    try simp only [Act.put, List.setIfInBounds_toArray, List.set_cons_zero, List.set_cons_succ]
    refine' tk_pure hM hK (i := 12) (nthQ rfl) (by kernel_rfl) (by kernel_rfl) (by kernel_rfl) rfl ?_ (fun _ _ _ _ h => h) ?_; rotate_left 1; (· (intro W0; go_simp <;> with_reducible rfl))
    try simp only [Act.put, List.setIfInBounds_toArray, List.set_cons_zero, List.set_cons_succ]
    refine tk_done (by kernel_rfl) ?_
    go_wp2_with (first
        | (go_at_call 60; (with_reducible refine (ray_any _ _ _ _ ?_ ?_ _ _ rfl).mono ?_); (· first | assumption | (unfold I64; omega)); (· first | assumption | (unfold I64; omega)); rintro e W1 ⟨rfl, hb⟩; replace hM := mem_below hM hb; clear hb)
        | (go_at_call 69; (with_reducible refine (meet_any _ _ _ _ _ _ _ _ _ _ rfl).mono ?_); rintro e W1 ⟨rfl, hb⟩; replace hM := mem_below hM hb; clear hb)
        | (go_at_call 70; (with_reducible refine (before_any _ _ _ _ _ _ _).mono ?_); rintro e W1 ⟨rfl, hb⟩; replace hM := mem_below hM hb; clear hb)
        | (go_at_call 71; (with_reducible refine (until_any _ _ _ _ _ _).mono ?_); rintro e W1 ⟨rfl, hb⟩; replace hM := mem_below hM hb; clear hb)
        | (go_at_call 61; (with_reducible refine (ahead_any _ _ _ _ _ _ _).mono ?_); rintro e W1 ⟨rfl, hb⟩; replace hM := mem_below hM hb; clear hb)
        | (go_at_call 72; (with_reducible refine (opposite_any _ ?_ _).mono ?_); (· first | assumption | (unfold I64; omega)); rintro e W1 ⟨rfl, rfl⟩)
        | ((with_reducible refine at_ldx ?_); refine' mg_load1 hM rfl rfl ?_ ?_ ?_ ?_ ?_; rotate_left 3; (· first | exact rfl | (go_simp; done)); (· repeat constructor); (· exact scT rfl); (· exact rfl))
        | ((with_reducible refine at_ldx ?_); refine' mg_load hM rfl rfl ?_ ?_ ?_ ?_ ?_ ?_; rotate_left 4; (· first | exact rfl | (go_simp; done)); (· repeat constructor); (· exact agT rfl); (· exact szT rfl); (· repeat constructor))
        | ((with_reducible refine at_ldg ?_); refine mg_case (fun hg => ?_) (fun hg => ?_) <;> simp [go_sem, Region.wanted] at hg)
        | ((with_reducible refine at_stx ?_); refine' ms_store hM rfl rfl rfl ?_ ?_ ?_ ?_ ?_ ?_ ?_ ?_; rotate_left 6; (· constructor); (· repeat constructor); (· repeat constructor); (· repeat constructor); (· exact szT rfl); (· rfl); (· exact onecells rfl); (clear hM; intro W hM))
        | ((with_reducible refine at_bxx ?_); refine' mp_box hM rfl rfl ?_ ?_; rotate_left 1; (· constructor); (clear hM; intro g W hM))
        | ((with_reducible refine at_alx ?_); refine' mp_alloc hM rfl rfl ?_ rfl ?_; rotate_left 1; (· exact zoT rfl); (clear hM; intro g W hM)))
    all_goals
      refine' end_m2 hM rfl rfl Tryz.isAgg44 Tryz.sizeOf44 rfl rfl ?_ ?_ ⟨?_, hM.below⟩
      rotate_left 2
      · repeat constructor
      · rfl
      · refine' ret_tk ?_ ?_; rotate_left 1; (· (unfold interT; (try dsimp only); (repeat (first | (refine (if_pos ?_).trans ?_; (· first | omega | (exact bne_t (by assumption)) | (exact bne_f (by assumption)) | (simp_all; done) | (simp_all; omega))) | (refine (if_neg ?_).trans ?_; (· first | omega | (exact bne_t (by assumption)) | (exact bne_f (by assumption)) | (simp_all; done) | (simp_all; omega))))); rfl)); (· first | rfl | exact congrArg Tk.cells (straight_co _ _ _ _ _ _))
set_option maxRecDepth 100000 in
set_option maxHeartbeats 8000000 in
theorem around_any (fx fy : Int) (x : En) (ht : x.tn = 1 ∨ x.tn = 2) (hr : 0 ≤ x.rad) (hr2 : x.rad ≤ 2000000) (w : World) :
    Calls Tryz.prog 28 #[.agg #[.int .i64 fx, .int .i64 fy], .agg x.cells.toArray] w fun e w' => e = .returned (.tuple #[.agg (aroundT fx fy x).1.cells.toArray, .int .i64 (aroundT fx fy x).2]) ∧ Below w.heap.size w w' := by
  obtain ⟨v0, v1, v2, v3, v4, e0, hF, hb0, hb1⟩ := around_form fx fy x.mx x.my x.ex x.ey (decide (x.tn = 2))
  have HF := hide hF
  have HT : Hid (aroundT fx fy x = if e0 ≠ 0 then (Tk.zero, e0) else if v2 - x.rad > 60 ∨ v2 - x.rad < -60 then (Tk.zero, 10) else
    if (arcAt v0 v1 v2 v3 v4 0).2.2.2 ≠ 0 then (Tk.zero, (arcAt v0 v1 v2 v3 v4 0).2.2.2) else
    if (arcAt v0 v1 v2 v3 v4 (arcLen v0 v1 v2 v3 v4)).2.2.2 ≠ 0 then (Tk.zero, (arcAt v0 v1 v2 v3 v4 (arcLen v0 v1 v2 v3 v4)).2.2.2) else
    (⟨2, fx, fy, x.ex, x.ey, v0, v1, v2, v3, v4, (arcAt v0 v1 v2 v3 v4 0).2.2.1, (arcAt v0 v1 v2 v3 v4 (arcLen v0 v1 v2 v3 v4)).2.2.1, arcLen v0 v1 v2 v3 v4, 0, false⟩, 0)) := hide (by unfold aroundT; rw [hF])
  clear hF
  rcases ht with htn | htn
  · have htq := hide htn
    have AR := fun W => around_l fx fy x.mx x.my x.ex x.ey W v0 v1 v2 v3 v4 e0 (by rw [← HF.out, htn]; rfl)
    have hM := mem_nil w
    go_enter Tryz.func28, Tryz.ntmps28
    go_wp2_with (first
        | (go_at_call 64; (with_reducible refine (AR _).mono ?_); rintro e W1 ⟨rfl, hb⟩; replace hM := mem_below hM hb; clear hb)
        | (go_at_call 67; (with_reducible refine (arcat_any _ _ _ _ _ _ _ _ rfl).mono ?_); rintro e W1 ⟨rfl, hb⟩; replace hM := mem_below hM hb; clear hb)
        | (go_at_call 66; (with_reducible refine (tlen_any _ _ _ _ _ _).mono ?_); rintro e W1 ⟨rfl, hb⟩; replace hM := mem_below hM hb; clear hb)
        | (go_at_call 65; (with_reducible refine (abs_any _ ?_ ?_ _).mono ?_); (· (unfold I64; omega)); (· omega); rintro e W1 ⟨rfl, rfl⟩)
        | ((with_reducible refine at_ldx ?_); refine' mg_load1 hM rfl rfl ?_ ?_ ?_ ?_ ?_; rotate_left 3; (· first | exact rfl | (go_simp; done)); (· repeat constructor); (· exact scT rfl); (· exact rfl))
        | ((with_reducible refine at_ldx ?_); refine' mg_load hM rfl rfl ?_ ?_ ?_ ?_ ?_ ?_; rotate_left 4; (· first | exact rfl | (go_simp; done)); (· repeat constructor); (· exact agT rfl); (· exact szT rfl); (· repeat constructor))
        | ((with_reducible refine at_stx ?_); refine' ms_store hM rfl rfl rfl ?_ ?_ ?_ ?_ ?_ ?_ ?_ ?_; rotate_left 6; (· constructor); (· repeat constructor); (· repeat constructor); (· repeat constructor); (· exact szT rfl); (· rfl); (· exact onecells rfl); (clear hM; intro W hM))
        | ((with_reducible refine at_bxx ?_); refine' mp_box hM rfl rfl ?_ ?_; rotate_left 1; (· constructor); (clear hM; intro g W hM))
        | ((with_reducible refine at_alx ?_); refine' mp_alloc hM rfl rfl ?_ rfl ?_; rotate_left 1; (· exact zoT rfl); (clear hM; intro g W hM)))
    all_goals
      refine' end_m2 hM rfl rfl Tryz.isAgg44 Tryz.sizeOf44 rfl rfl ?_ ?_ ⟨?_, hM.below⟩
      rotate_left 2
      · repeat constructor
      · rfl
      · refine' ret_tk ?_ ?_; rotate_left 1; (· (rw [HT.out]; (repeat (first | (refine (if_pos ?_).trans ?_; (· first | omega | (exact bne_t (by assumption)) | (exact bne_f (by assumption)) | (simp_all; done) | (simp_all; omega))) | (refine (if_neg ?_).trans ?_; (· first | omega | (exact bne_t (by assumption)) | (exact bne_f (by assumption)) | (simp_all; done) | (simp_all; omega))))); rfl)); (· rfl)
  · have htq := hide htn
    have AR := fun W => around_r fx fy x.mx x.my x.ex x.ey W v0 v1 v2 v3 v4 e0 (by rw [← HF.out, htn]; rfl)
    have hM := mem_nil w
    go_enter Tryz.func28, Tryz.ntmps28
    go_wp2_with (first
        | (go_at_call 64; (with_reducible refine (AR _).mono ?_); rintro e W1 ⟨rfl, hb⟩; replace hM := mem_below hM hb; clear hb)
        | (go_at_call 67; (with_reducible refine (arcat_any _ _ _ _ _ _ _ _ rfl).mono ?_); rintro e W1 ⟨rfl, hb⟩; replace hM := mem_below hM hb; clear hb)
        | (go_at_call 66; (with_reducible refine (tlen_any _ _ _ _ _ _).mono ?_); rintro e W1 ⟨rfl, hb⟩; replace hM := mem_below hM hb; clear hb)
        | (go_at_call 65; (with_reducible refine (abs_any _ ?_ ?_ _).mono ?_); (· (unfold I64; omega)); (· omega); rintro e W1 ⟨rfl, rfl⟩)
        | ((with_reducible refine at_ldx ?_); refine' mg_load1 hM rfl rfl ?_ ?_ ?_ ?_ ?_; rotate_left 3; (· first | exact rfl | (go_simp; done)); (· repeat constructor); (· exact scT rfl); (· exact rfl))
        | ((with_reducible refine at_ldx ?_); refine' mg_load hM rfl rfl ?_ ?_ ?_ ?_ ?_ ?_; rotate_left 4; (· first | exact rfl | (go_simp; done)); (· repeat constructor); (· exact agT rfl); (· exact szT rfl); (· repeat constructor))
        | ((with_reducible refine at_stx ?_); refine' ms_store hM rfl rfl rfl ?_ ?_ ?_ ?_ ?_ ?_ ?_ ?_; rotate_left 6; (· constructor); (· repeat constructor); (· repeat constructor); (· repeat constructor); (· exact szT rfl); (· rfl); (· exact onecells rfl); (clear hM; intro W hM))
        | ((with_reducible refine at_bxx ?_); refine' mp_box hM rfl rfl ?_ ?_; rotate_left 1; (· constructor); (clear hM; intro g W hM))
        | ((with_reducible refine at_alx ?_); refine' mp_alloc hM rfl rfl ?_ rfl ?_; rotate_left 1; (· exact zoT rfl); (clear hM; intro g W hM)))
    all_goals
      refine' end_m2 hM rfl rfl Tryz.isAgg44 Tryz.sizeOf44 rfl rfl ?_ ?_ ⟨?_, hM.below⟩
      rotate_left 2
      · repeat constructor
      · rfl
      · refine' ret_tk ?_ ?_; rotate_left 1; (· (rw [HT.out]; (repeat (first | (refine (if_pos ?_).trans ?_; (· first | omega | (exact bne_t (by assumption)) | (exact bne_f (by assumption)) | (simp_all; done) | (simp_all; omega))) | (refine (if_neg ?_).trans ?_; (· first | omega | (exact bne_t (by assumption)) | (exact bne_f (by assumption)) | (simp_all; done) | (simp_all; omega))))); rfl)); (· rfl)
end Go.Proofs.YtjjdojokkmfbmaaGreatDoor
