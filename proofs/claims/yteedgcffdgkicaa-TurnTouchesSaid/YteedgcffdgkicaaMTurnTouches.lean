/-
  The walk of the law TurnTouches.
-/
import Derived.Test.YteedgcffdgkicaaMAwakeT
import Derived.Test.YteedgcffdgkicaaMLineE
import Derived.Test.YteedgcffdgkicaaRows
import Derived.Test.YteedgcffdgkicaaMFrame
namespace Go.Proofs.Yteedgcffdgkicaa
open Go.RowKit
set_option linter.unusedVariables false
set_option linter.unusedSimpArgs false
set_option maxRecDepth 100000 in
set_option maxHeartbeats 4000000 in
theorem turnTouches_walk (ax ay bx b_y cx cy r : Int) (right : Bool) (hax : I64 ax) (hay : I64 ay) (hbx : I64 bx) (hb_y : I64 b_y) (hcx : I64 cx) (hcy : I64 cy) (hr : I64 r) (w : World) :
    Calls Try.prog 19 #[.agg #[.int .i64 ax, .int .i64 ay, .int .i64 bx, .int .i64 b_y, .int .i64 cx, .int .i64 cy, .int .i64 r], .bool right] w fun e w' => e = .returned (.bool true) ∧ Below w.heap.size w w' := by
  rcases right with _ | _
  · obtain ⟨X, Y, E, hR⟩ := tan_cells ax ay r bx b_y false
    by_cases hE : E = 0
    · subst hE
      obtain ⟨D, hD⟩ : ∃ D, D = distF X Y bx b_y := ⟨_, rfl⟩
      have DP := fun W => dist_any X Y bx b_y W
      have db := distF_bd X Y bx b_y
      rw [← hD] at DP db
      have HD := hide hD
      have HR := hide hR
      clear hR hD
      by_cases h1 : r < 100
      · have b1 : decide (r < 100) = true := decide_eq_true h1
        go_enter Try.func19, Try.ntmps19
        go_wp2_with fail
        refine (awake12_any _).mono ?_
        rintro e w1 ⟨rfl, hb1⟩
        obtain ⟨f1, f2, f3, f4, f5, f6, f7⟩ : w1.cell? ⟨w.heap.size, 0, none⟩ = some (.int .i64 ax) ∧ w1.cell? ⟨w.heap.size, 1, none⟩ = some (.int .i64 ay) ∧ w1.cell? ⟨w.heap.size, 2, none⟩ = some (.int .i64 bx) ∧ w1.cell? ⟨w.heap.size, 3, none⟩ = some (.int .i64 b_y) ∧ w1.cell? ⟨w.heap.size, 4, none⟩ = some (.int .i64 cx) ∧ w1.cell? ⟨w.heap.size, 5, none⟩ = some (.int .i64 cy) ∧ w1.cell? ⟨w.heap.size, 6, none⟩ = some (.int .i64 r) := by
          refine ⟨?_, ?_, ?_, ?_, ?_, ?_, ?_⟩ <;> (refine cell_below hb1 ?_; repeat (first | (with_reducible assumption) | ((with_reducible refine cell_set ?_ ?_ _); (· first | (simp; done) | (simp; omega) | omega)) | ((with_reducible refine cell_new ?_ ?_); (· (simp; done)); (· rfl)) | (with_reducible refine cell_alloc ?_ _) | (with_reducible refine cell_drew ?_) | (with_reducible refine cell_drewN ?_ _) | (with_reducible refine cell_below (by assumption) ?_)))
        have zf1 : w.heap.size < w1.heap.size := World.block_lt_of_cell? _ _ f1
        go_wp2_with fail
        refine (tan_l ax ay r bx b_y hr _ X Y 0 HR.out).mono ?_
        rintro e w2 ⟨rfl, hb2⟩
        obtain ⟨f8, f9, f10, f11, f12, f13, f14⟩ : w2.cell? ⟨w.heap.size, 0, none⟩ = some (.int .i64 ax) ∧ w2.cell? ⟨w.heap.size, 1, none⟩ = some (.int .i64 ay) ∧ w2.cell? ⟨w.heap.size, 2, none⟩ = some (.int .i64 bx) ∧ w2.cell? ⟨w.heap.size, 3, none⟩ = some (.int .i64 b_y) ∧ w2.cell? ⟨w.heap.size, 4, none⟩ = some (.int .i64 cx) ∧ w2.cell? ⟨w.heap.size, 5, none⟩ = some (.int .i64 cy) ∧ w2.cell? ⟨w.heap.size, 6, none⟩ = some (.int .i64 r) := by
          refine ⟨?_, ?_, ?_, ?_, ?_, ?_, ?_⟩ <;> (refine cell_below hb2 ?_; repeat (first | (with_reducible assumption) | ((with_reducible refine cell_set ?_ ?_ _); (· first | (simp; done) | (simp; omega) | omega)) | ((with_reducible refine cell_new ?_ ?_); (· (simp; done)); (· rfl)) | (with_reducible refine cell_alloc ?_ _) | (with_reducible refine cell_drew ?_) | (with_reducible refine cell_drewN ?_ _) | (with_reducible refine cell_below (by assumption) ?_)))
        have zf8 : w.heap.size < w2.heap.size := World.block_lt_of_cell? _ _ f8
        clear f1 zf1 f2 f3 f4 f5 f6 f7
        go_wp2_with fail
        go_quiet (fail)
        go_wp2_with fail
        all_goals
          go_ret
          exact ⟨rfl, by (repeat (with_reducible (first | assumption | exact Below.refl _ _ | refine Below.drew ?_ | refine below_drewN ?_ _ | refine below_set ?_ (by simp; try omega) _ | refine below_alloc ?_ (Nat.le_refl _) _ | refine below_sub (by assumption) ?_)))⟩
      have b1 : decide (r < 100) = false := decide_eq_false h1
      go_enter Try.func19, Try.ntmps19
      go_wp2_with fail
      refine (awake12_any _).mono ?_
      rintro e w1 ⟨rfl, hb1⟩
      obtain ⟨f1, f2, f3, f4, f5, f6, f7⟩ : w1.cell? ⟨w.heap.size, 0, none⟩ = some (.int .i64 ax) ∧ w1.cell? ⟨w.heap.size, 1, none⟩ = some (.int .i64 ay) ∧ w1.cell? ⟨w.heap.size, 2, none⟩ = some (.int .i64 bx) ∧ w1.cell? ⟨w.heap.size, 3, none⟩ = some (.int .i64 b_y) ∧ w1.cell? ⟨w.heap.size, 4, none⟩ = some (.int .i64 cx) ∧ w1.cell? ⟨w.heap.size, 5, none⟩ = some (.int .i64 cy) ∧ w1.cell? ⟨w.heap.size, 6, none⟩ = some (.int .i64 r) := by
        refine ⟨?_, ?_, ?_, ?_, ?_, ?_, ?_⟩ <;> (refine cell_below hb1 ?_; repeat (first | (with_reducible assumption) | ((with_reducible refine cell_set ?_ ?_ _); (· first | (simp; done) | (simp; omega) | omega)) | ((with_reducible refine cell_new ?_ ?_); (· (simp; done)); (· rfl)) | (with_reducible refine cell_alloc ?_ _) | (with_reducible refine cell_drew ?_) | (with_reducible refine cell_drewN ?_ _) | (with_reducible refine cell_below (by assumption) ?_)))
      have zf1 : w.heap.size < w1.heap.size := World.block_lt_of_cell? _ _ f1
      go_wp2_with fail
      refine (tan_l ax ay r bx b_y hr _ X Y 0 HR.out).mono ?_
      rintro e w2 ⟨rfl, hb2⟩
      obtain ⟨f8, f9, f10, f11, f12, f13, f14⟩ : w2.cell? ⟨w.heap.size, 0, none⟩ = some (.int .i64 ax) ∧ w2.cell? ⟨w.heap.size, 1, none⟩ = some (.int .i64 ay) ∧ w2.cell? ⟨w.heap.size, 2, none⟩ = some (.int .i64 bx) ∧ w2.cell? ⟨w.heap.size, 3, none⟩ = some (.int .i64 b_y) ∧ w2.cell? ⟨w.heap.size, 4, none⟩ = some (.int .i64 cx) ∧ w2.cell? ⟨w.heap.size, 5, none⟩ = some (.int .i64 cy) ∧ w2.cell? ⟨w.heap.size, 6, none⟩ = some (.int .i64 r) := by
        refine ⟨?_, ?_, ?_, ?_, ?_, ?_, ?_⟩ <;> (refine cell_below hb2 ?_; repeat (first | (with_reducible assumption) | ((with_reducible refine cell_set ?_ ?_ _); (· first | (simp; done) | (simp; omega) | omega)) | ((with_reducible refine cell_new ?_ ?_); (· (simp; done)); (· rfl)) | (with_reducible refine cell_alloc ?_ _) | (with_reducible refine cell_drew ?_) | (with_reducible refine cell_drewN ?_ _) | (with_reducible refine cell_below (by assumption) ?_)))
      have zf8 : w.heap.size < w2.heap.size := World.block_lt_of_cell? _ _ f8
      clear f1 zf1 f2 f3 f4 f5 f6 f7
      go_wp2_with fail
      generalize hwwp : w2.alloc (.cells #[.int .i64 X, .int .i64 Y] 23) = wp
      have x15 : wp.cell? ⟨w.heap.size, 0, none⟩ = some (.int .i64 ax) := by
        rw [← hwwp]; exact cell_alloc f8 _
      have x16 : wp.cell? ⟨w.heap.size, 1, none⟩ = some (.int .i64 ay) := by
        rw [← hwwp]; exact cell_alloc f9 _
      have x17 : wp.cell? ⟨w.heap.size, 2, none⟩ = some (.int .i64 bx) := by
        rw [← hwwp]; exact cell_alloc f10 _
      have x18 : wp.cell? ⟨w.heap.size, 3, none⟩ = some (.int .i64 b_y) := by
        rw [← hwwp]; exact cell_alloc f11 _
      have x19 : wp.cell? ⟨w.heap.size, 4, none⟩ = some (.int .i64 cx) := by
        rw [← hwwp]; exact cell_alloc f12 _
      have x20 : wp.cell? ⟨w.heap.size, 5, none⟩ = some (.int .i64 cy) := by
        rw [← hwwp]; exact cell_alloc f13 _
      have x21 : wp.cell? ⟨w.heap.size, 6, none⟩ = some (.int .i64 r) := by
        rw [← hwwp]; exact cell_alloc f14 _
      have x22 : wp.cell? ⟨w2.heap.size, 0, none⟩ = some (.int .i64 X) := by
        rw [← hwwp]; exact cell_new rfl rfl
      have x23 : wp.cell? ⟨w2.heap.size, 1, none⟩ = some (.int .i64 Y) := by
        rw [← hwwp]; exact cell_new rfl rfl
      have Bwp : Below w.heap.size w wp := by
        rw [← hwwp]
        (repeat (with_reducible (first | assumption | exact Below.refl _ _ | refine Below.drew ?_ | refine below_drewN ?_ _ | refine below_set ?_ (by simp; try omega) _ | refine below_alloc ?_ (Nat.le_refl _) _ | refine below_sub (by assumption) ?_)))
      clear f8 zf8 f9 f10 f11 f12 f13 f14 hwwp
      have zzx15 : w.heap.size < wp.heap.size := World.block_lt_of_cell? _ _ x15
      have zzx22 : w2.heap.size < wp.heap.size := World.block_lt_of_cell? _ _ x22
      go_cut [41] (fun sA wx => ∃ wy, sA = .bool (decide (D < r)) ∧ wy = wx ∧ Below wp.heap.size wp wy)
      case first =>
        go_region_with (first
          | (go_at_call 52; refine (DP _).mono ?_; rintro e w' ⟨rfl, hb'⟩; refine (fun hT => ?_) (cell_below hb' (b := w.heap.size) (o := 6) (v := .int .i64 r) ?_); rotate_left; (· (repeat (first | (with_reducible assumption) | ((with_reducible refine cell_set ?_ ?_ _); (· first | (simp; done) | (simp; omega) | omega)) | ((with_reducible refine cell_new ?_ ?_); (· (simp; done)); (· rfl)) | (with_reducible refine cell_alloc ?_ _) | (with_reducible refine cell_drew ?_) | (with_reducible refine cell_drewN ?_ _) | (with_reducible refine cell_below (by assumption) ?_))))))
        all_goals
          go_wp2_with fail
          go_meet
          refine ⟨_, by simp [*], rfl, ?_⟩
          (repeat (with_reducible (first | assumption | exact Below.refl _ _ | refine Below.drew ?_ | refine below_drewN ?_ _ | refine below_set ?_ (by simp; try omega) _ | refine below_alloc ?_ (Nat.le_refl _) _ | refine below_sub (by assumption) ?_)))
      case rest =>
        obtain ⟨wy, rfl, rfl, hbx⟩ := hcut
        obtain ⟨t24, t25, t26, t27, t28, t29, t30, t31, t32⟩ : wy.cell? ⟨w.heap.size, 0, none⟩ = some (.int .i64 ax) ∧ wy.cell? ⟨w.heap.size, 1, none⟩ = some (.int .i64 ay) ∧ wy.cell? ⟨w.heap.size, 2, none⟩ = some (.int .i64 bx) ∧ wy.cell? ⟨w.heap.size, 3, none⟩ = some (.int .i64 b_y) ∧ wy.cell? ⟨w.heap.size, 4, none⟩ = some (.int .i64 cx) ∧ wy.cell? ⟨w.heap.size, 5, none⟩ = some (.int .i64 cy) ∧ wy.cell? ⟨w.heap.size, 6, none⟩ = some (.int .i64 r) ∧ wy.cell? ⟨w2.heap.size, 0, none⟩ = some (.int .i64 X) ∧ wy.cell? ⟨w2.heap.size, 1, none⟩ = some (.int .i64 Y) := by
          refine ⟨?_, ?_, ?_, ?_, ?_, ?_, ?_, ?_, ?_⟩ <;> (refine cell_below hbx ?_; repeat (first | (with_reducible assumption) | ((with_reducible refine cell_set ?_ ?_ _); (· first | (simp; done) | (simp; omega) | omega)) | ((with_reducible refine cell_new ?_ ?_); (· (simp; done)); (· rfl)) | (with_reducible refine cell_alloc ?_ _) | (with_reducible refine cell_drew ?_) | (with_reducible refine cell_drewN ?_ _) | (with_reducible refine cell_below (by assumption) ?_)))
        have zt24 : w.heap.size < wy.heap.size := World.block_lt_of_cell? _ _ t24
        have zt31 : w2.heap.size < wy.heap.size := World.block_lt_of_cell? _ _ t31
        clear x15 zzx15 x16 x17 x18 x19 x20 x21 x22 zzx22 x23
        by_cases h2 : D < r
        · have b2 : decide (D < r) = true := decide_eq_true h2
          go_wp2_with fail
          all_goals
            go_ret
            exact ⟨rfl, by (repeat (with_reducible (first | assumption | exact Below.refl _ _ | refine Below.drew ?_ | refine below_drewN ?_ _ | refine below_set ?_ (by simp; try omega) _ | refine below_alloc ?_ (Nat.le_refl _) _ | refine below_sub (by assumption) ?_)))⟩
        · have b2 : decide (D < r) = false := decide_eq_false h2
          obtain ⟨o, l, hO, ⟨o1, o2⟩, ⟨l1, l2⟩, ⟨d1, d2⟩, r8⟩ := touch_at HR.out (by omega) (by rw [← HD.out]; omega)
          unfold sideR at o1 o2
          simp only [if_true, if_false, Bool.false_eq_true] at o1 o2
          have HO := hide hO
          have DC := fun W => dist_any ax ay X Y W
          clear hO
          generalize distF ax ay X Y = G at *
          have wn := wi' (x := -1 * r) (by omega) (by omega)
          have wn2 := wi' (x := -r) (by omega) (by omega)
          have wn3 := wi' (x := 1 * r) (by omega) (by omega)
          have wn4 := wi' (x := r) (by omega) (by omega)
          go_wp2_with fail
          refine (off_any X Y bx b_y ax ay _ (o, l, 0) HO.out).mono ?_
          rintro e w3 ⟨rfl, hb3⟩
          obtain ⟨f33, f34, f35, f36, f37, f38, f39, f40, f41⟩ : w3.cell? ⟨w.heap.size, 0, none⟩ = some (.int .i64 ax) ∧ w3.cell? ⟨w.heap.size, 1, none⟩ = some (.int .i64 ay) ∧ w3.cell? ⟨w.heap.size, 2, none⟩ = some (.int .i64 bx) ∧ w3.cell? ⟨w.heap.size, 3, none⟩ = some (.int .i64 b_y) ∧ w3.cell? ⟨w.heap.size, 4, none⟩ = some (.int .i64 cx) ∧ w3.cell? ⟨w.heap.size, 5, none⟩ = some (.int .i64 cy) ∧ w3.cell? ⟨w.heap.size, 6, none⟩ = some (.int .i64 r) ∧ w3.cell? ⟨w2.heap.size, 0, none⟩ = some (.int .i64 X) ∧ w3.cell? ⟨w2.heap.size, 1, none⟩ = some (.int .i64 Y) := by
            refine ⟨?_, ?_, ?_, ?_, ?_, ?_, ?_, ?_, ?_⟩ <;> (refine cell_below hb3 ?_; repeat (first | (with_reducible assumption) | ((with_reducible refine cell_set ?_ ?_ _); (· first | (simp; done) | (simp; omega) | omega)) | ((with_reducible refine cell_new ?_ ?_); (· (simp; done)); (· rfl)) | (with_reducible refine cell_alloc ?_ _) | (with_reducible refine cell_drew ?_) | (with_reducible refine cell_drewN ?_ _) | (with_reducible refine cell_below (by assumption) ?_)))
          have zf33 : w.heap.size < w3.heap.size := World.block_lt_of_cell? _ _ f33
          have zf40 : w2.heap.size < w3.heap.size := World.block_lt_of_cell? _ _ f40
          clear t24 zt24 t25 t26 t27 t28 t29 t30 t31 zt31 t32
          go_wp2_with fail
          go_region_held3 (fun w' => w'.cell? ⟨w.heap.size, 0, none⟩ = some (.int .i64 ax) ∧ w'.cell? ⟨w.heap.size, 1, none⟩ = some (.int .i64 ay) ∧ w'.cell? ⟨w.heap.size, 2, none⟩ = some (.int .i64 bx) ∧ w'.cell? ⟨w.heap.size, 3, none⟩ = some (.int .i64 b_y) ∧ w'.cell? ⟨w.heap.size, 4, none⟩ = some (.int .i64 cx) ∧ w'.cell? ⟨w.heap.size, 5, none⟩ = some (.int .i64 cy) ∧ w'.cell? ⟨w.heap.size, 6, none⟩ = some (.int .i64 r) ∧ w'.cell? ⟨w2.heap.size, 0, none⟩ = some (.int .i64 X) ∧ w'.cell? ⟨w2.heap.size, 1, none⟩ = some (.int .i64 Y)) ((go_split_ands; refine ⟨?_, ?_, ?_, ?_, ?_, ?_, ?_, ?_, ?_⟩ <;> (repeat (first | (with_reducible assumption) | ((with_reducible refine cell_set ?_ ?_ _); (· first | (simp; done) | (simp; omega) | omega)) | ((with_reducible refine cell_new ?_ ?_); (· (simp; done)); (· rfl)) | (with_reducible refine cell_alloc ?_ _) | (with_reducible refine cell_drew ?_) | (with_reducible refine cell_drewN ?_ _) | (with_reducible refine cell_below (by assumption) ?_)))))
            (first
              | (go_at_call 27; refine (near_true _ _ _ ?_ ?_ ?_ ?_ ?_ ?_ _).mono ?_; (· (first | omega | (rw [wn]; omega) | (simp only [wn, wn2, wn3]; omega) | (rw [wn4]; omega) | (simp; omega))); (· (first | omega | (rw [wn]; omega) | (simp only [wn, wn2, wn3]; omega) | (rw [wn4]; omega) | (simp; omega))); (· (first | omega | (rw [wn]; omega) | (simp only [wn, wn2, wn3]; omega) | (rw [wn4]; omega) | (simp; omega))); (· (first | omega | (rw [wn]; omega) | (simp only [wn, wn2, wn3]; omega) | (rw [wn4]; omega) | (simp; omega))); (· (first | omega | (rw [wn]; omega) | (simp only [wn, wn2, wn3]; omega) | (rw [wn4]; omega) | (simp; omega))); (· (first | omega | (rw [wn]; omega) | (simp only [wn, wn2, wn3]; omega) | (rw [wn4]; omega) | (simp; omega))); rintro e w' ⟨rfl, rfl⟩)
              | (go_at_call 52; (with_reducible refine (DC _).mono ?_); rintro e w' ⟨rfl, hb'⟩))
          rename_i hH
          obtain ⟨f42, f43, f44, f45, f46, f47, f48, f49, f50⟩ := hH
          have zf42 : w.heap.size < w'.heap.size := World.block_lt_of_cell? _ _ f42
          have zf49 : w2.heap.size < w'.heap.size := World.block_lt_of_cell? _ _ f49
          clear f33 zf33 f34 f35 f36 f37 f38 f39 f40 zf40 f41
          go_wp2_with fail
          all_goals
            go_ret
            exact ⟨rfl, by (repeat (with_reducible (first | assumption | exact Below.refl _ _ | refine Below.drew ?_ | refine below_drewN ?_ _ | refine below_set ?_ (by simp; try omega) _ | refine below_alloc ?_ (Nat.le_refl _) _ | refine below_sub (by assumption) ?_)))⟩
    · obtain ⟨hx, hy⟩ : X = 0 ∧ Y = 0 := by
        have := tan_err (right := false) (by rw [← hR]; exact hE)
        rw [← hR] at this
        exact this
      subst hx hy
      have T : (E != 0) = true := by rw [bne_iff_ne]; exact hE
      have T2 : (E == 0) = false := by rw [beq_eq_false_iff_ne]; exact hE
      have HR := hide hR
      clear hR hE
      go_enter Try.func19, Try.ntmps19
      go_wp2_with fail
      refine (awake12_any _).mono ?_
      rintro e w1 ⟨rfl, hb1⟩
      obtain ⟨f1, f2, f3, f4, f5, f6, f7⟩ : w1.cell? ⟨w.heap.size, 0, none⟩ = some (.int .i64 ax) ∧ w1.cell? ⟨w.heap.size, 1, none⟩ = some (.int .i64 ay) ∧ w1.cell? ⟨w.heap.size, 2, none⟩ = some (.int .i64 bx) ∧ w1.cell? ⟨w.heap.size, 3, none⟩ = some (.int .i64 b_y) ∧ w1.cell? ⟨w.heap.size, 4, none⟩ = some (.int .i64 cx) ∧ w1.cell? ⟨w.heap.size, 5, none⟩ = some (.int .i64 cy) ∧ w1.cell? ⟨w.heap.size, 6, none⟩ = some (.int .i64 r) := by
        refine ⟨?_, ?_, ?_, ?_, ?_, ?_, ?_⟩ <;> (refine cell_below hb1 ?_; repeat (first | (with_reducible assumption) | ((with_reducible refine cell_set ?_ ?_ _); (· first | (simp; done) | (simp; omega) | omega)) | ((with_reducible refine cell_new ?_ ?_); (· (simp; done)); (· rfl)) | (with_reducible refine cell_alloc ?_ _) | (with_reducible refine cell_drew ?_) | (with_reducible refine cell_drewN ?_ _) | (with_reducible refine cell_below (by assumption) ?_)))
      have zf1 : w.heap.size < w1.heap.size := World.block_lt_of_cell? _ _ f1
      go_wp2_with fail
      refine (tan_l ax ay r bx b_y hr _ 0 0 E HR.out).mono ?_
      rintro e w2 ⟨rfl, hb2⟩
      obtain ⟨f8, f9, f10, f11, f12, f13, f14⟩ : w2.cell? ⟨w.heap.size, 0, none⟩ = some (.int .i64 ax) ∧ w2.cell? ⟨w.heap.size, 1, none⟩ = some (.int .i64 ay) ∧ w2.cell? ⟨w.heap.size, 2, none⟩ = some (.int .i64 bx) ∧ w2.cell? ⟨w.heap.size, 3, none⟩ = some (.int .i64 b_y) ∧ w2.cell? ⟨w.heap.size, 4, none⟩ = some (.int .i64 cx) ∧ w2.cell? ⟨w.heap.size, 5, none⟩ = some (.int .i64 cy) ∧ w2.cell? ⟨w.heap.size, 6, none⟩ = some (.int .i64 r) := by
        refine ⟨?_, ?_, ?_, ?_, ?_, ?_, ?_⟩ <;> (refine cell_below hb2 ?_; repeat (first | (with_reducible assumption) | ((with_reducible refine cell_set ?_ ?_ _); (· first | (simp; done) | (simp; omega) | omega)) | ((with_reducible refine cell_new ?_ ?_); (· (simp; done)); (· rfl)) | (with_reducible refine cell_alloc ?_ _) | (with_reducible refine cell_drew ?_) | (with_reducible refine cell_drewN ?_ _) | (with_reducible refine cell_below (by assumption) ?_)))
      have zf8 : w.heap.size < w2.heap.size := World.block_lt_of_cell? _ _ f8
      clear f1 zf1 f2 f3 f4 f5 f6 f7
      go_wp2_with fail
      go_quiet (fail)
      go_wp2_with fail
      all_goals
        go_ret
        exact ⟨rfl, by (repeat (with_reducible (first | assumption | exact Below.refl _ _ | refine Below.drew ?_ | refine below_drewN ?_ _ | refine below_set ?_ (by simp; try omega) _ | refine below_alloc ?_ (Nat.le_refl _) _ | refine below_sub (by assumption) ?_)))⟩
  · obtain ⟨X, Y, E, hR⟩ := tan_cells ax ay r bx b_y true
    by_cases hE : E = 0
    · subst hE
      obtain ⟨D, hD⟩ : ∃ D, D = distF X Y bx b_y := ⟨_, rfl⟩
      have DP := fun W => dist_any X Y bx b_y W
      have db := distF_bd X Y bx b_y
      rw [← hD] at DP db
      have HD := hide hD
      have HR := hide hR
      clear hR hD
      by_cases h1 : r < 100
      · have b1 : decide (r < 100) = true := decide_eq_true h1
        go_enter Try.func19, Try.ntmps19
        go_wp2_with fail
        refine (awake12_any _).mono ?_
        rintro e w1 ⟨rfl, hb1⟩
        obtain ⟨f1, f2, f3, f4, f5, f6, f7⟩ : w1.cell? ⟨w.heap.size, 0, none⟩ = some (.int .i64 ax) ∧ w1.cell? ⟨w.heap.size, 1, none⟩ = some (.int .i64 ay) ∧ w1.cell? ⟨w.heap.size, 2, none⟩ = some (.int .i64 bx) ∧ w1.cell? ⟨w.heap.size, 3, none⟩ = some (.int .i64 b_y) ∧ w1.cell? ⟨w.heap.size, 4, none⟩ = some (.int .i64 cx) ∧ w1.cell? ⟨w.heap.size, 5, none⟩ = some (.int .i64 cy) ∧ w1.cell? ⟨w.heap.size, 6, none⟩ = some (.int .i64 r) := by
          refine ⟨?_, ?_, ?_, ?_, ?_, ?_, ?_⟩ <;> (refine cell_below hb1 ?_; repeat (first | (with_reducible assumption) | ((with_reducible refine cell_set ?_ ?_ _); (· first | (simp; done) | (simp; omega) | omega)) | ((with_reducible refine cell_new ?_ ?_); (· (simp; done)); (· rfl)) | (with_reducible refine cell_alloc ?_ _) | (with_reducible refine cell_drew ?_) | (with_reducible refine cell_drewN ?_ _) | (with_reducible refine cell_below (by assumption) ?_)))
        have zf1 : w.heap.size < w1.heap.size := World.block_lt_of_cell? _ _ f1
        go_wp2_with fail
        refine (tan_r ax ay r bx b_y hr _ X Y 0 HR.out).mono ?_
        rintro e w2 ⟨rfl, hb2⟩
        obtain ⟨f8, f9, f10, f11, f12, f13, f14⟩ : w2.cell? ⟨w.heap.size, 0, none⟩ = some (.int .i64 ax) ∧ w2.cell? ⟨w.heap.size, 1, none⟩ = some (.int .i64 ay) ∧ w2.cell? ⟨w.heap.size, 2, none⟩ = some (.int .i64 bx) ∧ w2.cell? ⟨w.heap.size, 3, none⟩ = some (.int .i64 b_y) ∧ w2.cell? ⟨w.heap.size, 4, none⟩ = some (.int .i64 cx) ∧ w2.cell? ⟨w.heap.size, 5, none⟩ = some (.int .i64 cy) ∧ w2.cell? ⟨w.heap.size, 6, none⟩ = some (.int .i64 r) := by
          refine ⟨?_, ?_, ?_, ?_, ?_, ?_, ?_⟩ <;> (refine cell_below hb2 ?_; repeat (first | (with_reducible assumption) | ((with_reducible refine cell_set ?_ ?_ _); (· first | (simp; done) | (simp; omega) | omega)) | ((with_reducible refine cell_new ?_ ?_); (· (simp; done)); (· rfl)) | (with_reducible refine cell_alloc ?_ _) | (with_reducible refine cell_drew ?_) | (with_reducible refine cell_drewN ?_ _) | (with_reducible refine cell_below (by assumption) ?_)))
        have zf8 : w.heap.size < w2.heap.size := World.block_lt_of_cell? _ _ f8
        clear f1 zf1 f2 f3 f4 f5 f6 f7
        go_wp2_with fail
        go_quiet (fail)
        go_wp2_with fail
        all_goals
          go_ret
          exact ⟨rfl, by (repeat (with_reducible (first | assumption | exact Below.refl _ _ | refine Below.drew ?_ | refine below_drewN ?_ _ | refine below_set ?_ (by simp; try omega) _ | refine below_alloc ?_ (Nat.le_refl _) _ | refine below_sub (by assumption) ?_)))⟩
      have b1 : decide (r < 100) = false := decide_eq_false h1
      go_enter Try.func19, Try.ntmps19
      go_wp2_with fail
      refine (awake12_any _).mono ?_
      rintro e w1 ⟨rfl, hb1⟩
      obtain ⟨f1, f2, f3, f4, f5, f6, f7⟩ : w1.cell? ⟨w.heap.size, 0, none⟩ = some (.int .i64 ax) ∧ w1.cell? ⟨w.heap.size, 1, none⟩ = some (.int .i64 ay) ∧ w1.cell? ⟨w.heap.size, 2, none⟩ = some (.int .i64 bx) ∧ w1.cell? ⟨w.heap.size, 3, none⟩ = some (.int .i64 b_y) ∧ w1.cell? ⟨w.heap.size, 4, none⟩ = some (.int .i64 cx) ∧ w1.cell? ⟨w.heap.size, 5, none⟩ = some (.int .i64 cy) ∧ w1.cell? ⟨w.heap.size, 6, none⟩ = some (.int .i64 r) := by
        refine ⟨?_, ?_, ?_, ?_, ?_, ?_, ?_⟩ <;> (refine cell_below hb1 ?_; repeat (first | (with_reducible assumption) | ((with_reducible refine cell_set ?_ ?_ _); (· first | (simp; done) | (simp; omega) | omega)) | ((with_reducible refine cell_new ?_ ?_); (· (simp; done)); (· rfl)) | (with_reducible refine cell_alloc ?_ _) | (with_reducible refine cell_drew ?_) | (with_reducible refine cell_drewN ?_ _) | (with_reducible refine cell_below (by assumption) ?_)))
      have zf1 : w.heap.size < w1.heap.size := World.block_lt_of_cell? _ _ f1
      go_wp2_with fail
      refine (tan_r ax ay r bx b_y hr _ X Y 0 HR.out).mono ?_
      rintro e w2 ⟨rfl, hb2⟩
      obtain ⟨f8, f9, f10, f11, f12, f13, f14⟩ : w2.cell? ⟨w.heap.size, 0, none⟩ = some (.int .i64 ax) ∧ w2.cell? ⟨w.heap.size, 1, none⟩ = some (.int .i64 ay) ∧ w2.cell? ⟨w.heap.size, 2, none⟩ = some (.int .i64 bx) ∧ w2.cell? ⟨w.heap.size, 3, none⟩ = some (.int .i64 b_y) ∧ w2.cell? ⟨w.heap.size, 4, none⟩ = some (.int .i64 cx) ∧ w2.cell? ⟨w.heap.size, 5, none⟩ = some (.int .i64 cy) ∧ w2.cell? ⟨w.heap.size, 6, none⟩ = some (.int .i64 r) := by
        refine ⟨?_, ?_, ?_, ?_, ?_, ?_, ?_⟩ <;> (refine cell_below hb2 ?_; repeat (first | (with_reducible assumption) | ((with_reducible refine cell_set ?_ ?_ _); (· first | (simp; done) | (simp; omega) | omega)) | ((with_reducible refine cell_new ?_ ?_); (· (simp; done)); (· rfl)) | (with_reducible refine cell_alloc ?_ _) | (with_reducible refine cell_drew ?_) | (with_reducible refine cell_drewN ?_ _) | (with_reducible refine cell_below (by assumption) ?_)))
      have zf8 : w.heap.size < w2.heap.size := World.block_lt_of_cell? _ _ f8
      clear f1 zf1 f2 f3 f4 f5 f6 f7
      go_wp2_with fail
      generalize hwwp : w2.alloc (.cells #[.int .i64 X, .int .i64 Y] 23) = wp
      have x15 : wp.cell? ⟨w.heap.size, 0, none⟩ = some (.int .i64 ax) := by
        rw [← hwwp]; exact cell_alloc f8 _
      have x16 : wp.cell? ⟨w.heap.size, 1, none⟩ = some (.int .i64 ay) := by
        rw [← hwwp]; exact cell_alloc f9 _
      have x17 : wp.cell? ⟨w.heap.size, 2, none⟩ = some (.int .i64 bx) := by
        rw [← hwwp]; exact cell_alloc f10 _
      have x18 : wp.cell? ⟨w.heap.size, 3, none⟩ = some (.int .i64 b_y) := by
        rw [← hwwp]; exact cell_alloc f11 _
      have x19 : wp.cell? ⟨w.heap.size, 4, none⟩ = some (.int .i64 cx) := by
        rw [← hwwp]; exact cell_alloc f12 _
      have x20 : wp.cell? ⟨w.heap.size, 5, none⟩ = some (.int .i64 cy) := by
        rw [← hwwp]; exact cell_alloc f13 _
      have x21 : wp.cell? ⟨w.heap.size, 6, none⟩ = some (.int .i64 r) := by
        rw [← hwwp]; exact cell_alloc f14 _
      have x22 : wp.cell? ⟨w2.heap.size, 0, none⟩ = some (.int .i64 X) := by
        rw [← hwwp]; exact cell_new rfl rfl
      have x23 : wp.cell? ⟨w2.heap.size, 1, none⟩ = some (.int .i64 Y) := by
        rw [← hwwp]; exact cell_new rfl rfl
      have Bwp : Below w.heap.size w wp := by
        rw [← hwwp]
        (repeat (with_reducible (first | assumption | exact Below.refl _ _ | refine Below.drew ?_ | refine below_drewN ?_ _ | refine below_set ?_ (by simp; try omega) _ | refine below_alloc ?_ (Nat.le_refl _) _ | refine below_sub (by assumption) ?_)))
      clear f8 zf8 f9 f10 f11 f12 f13 f14 hwwp
      have zzx15 : w.heap.size < wp.heap.size := World.block_lt_of_cell? _ _ x15
      have zzx22 : w2.heap.size < wp.heap.size := World.block_lt_of_cell? _ _ x22
      go_cut [41] (fun sA wx => ∃ wy, sA = .bool (decide (D < r)) ∧ wy = wx ∧ Below wp.heap.size wp wy)
      case first =>
        go_region_with (first
          | (go_at_call 52; refine (DP _).mono ?_; rintro e w' ⟨rfl, hb'⟩; refine (fun hT => ?_) (cell_below hb' (b := w.heap.size) (o := 6) (v := .int .i64 r) ?_); rotate_left; (· (repeat (first | (with_reducible assumption) | ((with_reducible refine cell_set ?_ ?_ _); (· first | (simp; done) | (simp; omega) | omega)) | ((with_reducible refine cell_new ?_ ?_); (· (simp; done)); (· rfl)) | (with_reducible refine cell_alloc ?_ _) | (with_reducible refine cell_drew ?_) | (with_reducible refine cell_drewN ?_ _) | (with_reducible refine cell_below (by assumption) ?_))))))
        all_goals
          go_wp2_with fail
          go_meet
          refine ⟨_, by simp [*], rfl, ?_⟩
          (repeat (with_reducible (first | assumption | exact Below.refl _ _ | refine Below.drew ?_ | refine below_drewN ?_ _ | refine below_set ?_ (by simp; try omega) _ | refine below_alloc ?_ (Nat.le_refl _) _ | refine below_sub (by assumption) ?_)))
      case rest =>
        obtain ⟨wy, rfl, rfl, hbx⟩ := hcut
        obtain ⟨t24, t25, t26, t27, t28, t29, t30, t31, t32⟩ : wy.cell? ⟨w.heap.size, 0, none⟩ = some (.int .i64 ax) ∧ wy.cell? ⟨w.heap.size, 1, none⟩ = some (.int .i64 ay) ∧ wy.cell? ⟨w.heap.size, 2, none⟩ = some (.int .i64 bx) ∧ wy.cell? ⟨w.heap.size, 3, none⟩ = some (.int .i64 b_y) ∧ wy.cell? ⟨w.heap.size, 4, none⟩ = some (.int .i64 cx) ∧ wy.cell? ⟨w.heap.size, 5, none⟩ = some (.int .i64 cy) ∧ wy.cell? ⟨w.heap.size, 6, none⟩ = some (.int .i64 r) ∧ wy.cell? ⟨w2.heap.size, 0, none⟩ = some (.int .i64 X) ∧ wy.cell? ⟨w2.heap.size, 1, none⟩ = some (.int .i64 Y) := by
          refine ⟨?_, ?_, ?_, ?_, ?_, ?_, ?_, ?_, ?_⟩ <;> (refine cell_below hbx ?_; repeat (first | (with_reducible assumption) | ((with_reducible refine cell_set ?_ ?_ _); (· first | (simp; done) | (simp; omega) | omega)) | ((with_reducible refine cell_new ?_ ?_); (· (simp; done)); (· rfl)) | (with_reducible refine cell_alloc ?_ _) | (with_reducible refine cell_drew ?_) | (with_reducible refine cell_drewN ?_ _) | (with_reducible refine cell_below (by assumption) ?_)))
        have zt24 : w.heap.size < wy.heap.size := World.block_lt_of_cell? _ _ t24
        have zt31 : w2.heap.size < wy.heap.size := World.block_lt_of_cell? _ _ t31
        clear x15 zzx15 x16 x17 x18 x19 x20 x21 x22 zzx22 x23
        by_cases h2 : D < r
        · have b2 : decide (D < r) = true := decide_eq_true h2
          go_wp2_with fail
          all_goals
            go_ret
            exact ⟨rfl, by (repeat (with_reducible (first | assumption | exact Below.refl _ _ | refine Below.drew ?_ | refine below_drewN ?_ _ | refine below_set ?_ (by simp; try omega) _ | refine below_alloc ?_ (Nat.le_refl _) _ | refine below_sub (by assumption) ?_)))⟩
        · have b2 : decide (D < r) = false := decide_eq_false h2
          obtain ⟨o, l, hO, ⟨o1, o2⟩, ⟨l1, l2⟩, ⟨d1, d2⟩, r8⟩ := touch_at HR.out (by omega) (by rw [← HD.out]; omega)
          unfold sideR at o1 o2
          simp only [if_true, if_false, Bool.false_eq_true] at o1 o2
          have HO := hide hO
          have DC := fun W => dist_any ax ay X Y W
          clear hO
          generalize distF ax ay X Y = G at *
          have wn := wi' (x := -1 * r) (by omega) (by omega)
          have wn2 := wi' (x := -r) (by omega) (by omega)
          have wn3 := wi' (x := 1 * r) (by omega) (by omega)
          have wn4 := wi' (x := r) (by omega) (by omega)
          go_wp2_with fail
          refine (off_any X Y bx b_y ax ay _ (o, l, 0) HO.out).mono ?_
          rintro e w3 ⟨rfl, hb3⟩
          obtain ⟨f33, f34, f35, f36, f37, f38, f39, f40, f41⟩ : w3.cell? ⟨w.heap.size, 0, none⟩ = some (.int .i64 ax) ∧ w3.cell? ⟨w.heap.size, 1, none⟩ = some (.int .i64 ay) ∧ w3.cell? ⟨w.heap.size, 2, none⟩ = some (.int .i64 bx) ∧ w3.cell? ⟨w.heap.size, 3, none⟩ = some (.int .i64 b_y) ∧ w3.cell? ⟨w.heap.size, 4, none⟩ = some (.int .i64 cx) ∧ w3.cell? ⟨w.heap.size, 5, none⟩ = some (.int .i64 cy) ∧ w3.cell? ⟨w.heap.size, 6, none⟩ = some (.int .i64 r) ∧ w3.cell? ⟨w2.heap.size, 0, none⟩ = some (.int .i64 X) ∧ w3.cell? ⟨w2.heap.size, 1, none⟩ = some (.int .i64 Y) := by
            refine ⟨?_, ?_, ?_, ?_, ?_, ?_, ?_, ?_, ?_⟩ <;> (refine cell_below hb3 ?_; repeat (first | (with_reducible assumption) | ((with_reducible refine cell_set ?_ ?_ _); (· first | (simp; done) | (simp; omega) | omega)) | ((with_reducible refine cell_new ?_ ?_); (· (simp; done)); (· rfl)) | (with_reducible refine cell_alloc ?_ _) | (with_reducible refine cell_drew ?_) | (with_reducible refine cell_drewN ?_ _) | (with_reducible refine cell_below (by assumption) ?_)))
          have zf33 : w.heap.size < w3.heap.size := World.block_lt_of_cell? _ _ f33
          have zf40 : w2.heap.size < w3.heap.size := World.block_lt_of_cell? _ _ f40
          clear t24 zt24 t25 t26 t27 t28 t29 t30 t31 zt31 t32
          go_wp2_with fail
          go_region_held3 (fun w' => w'.cell? ⟨w.heap.size, 0, none⟩ = some (.int .i64 ax) ∧ w'.cell? ⟨w.heap.size, 1, none⟩ = some (.int .i64 ay) ∧ w'.cell? ⟨w.heap.size, 2, none⟩ = some (.int .i64 bx) ∧ w'.cell? ⟨w.heap.size, 3, none⟩ = some (.int .i64 b_y) ∧ w'.cell? ⟨w.heap.size, 4, none⟩ = some (.int .i64 cx) ∧ w'.cell? ⟨w.heap.size, 5, none⟩ = some (.int .i64 cy) ∧ w'.cell? ⟨w.heap.size, 6, none⟩ = some (.int .i64 r) ∧ w'.cell? ⟨w2.heap.size, 0, none⟩ = some (.int .i64 X) ∧ w'.cell? ⟨w2.heap.size, 1, none⟩ = some (.int .i64 Y)) ((go_split_ands; refine ⟨?_, ?_, ?_, ?_, ?_, ?_, ?_, ?_, ?_⟩ <;> (repeat (first | (with_reducible assumption) | ((with_reducible refine cell_set ?_ ?_ _); (· first | (simp; done) | (simp; omega) | omega)) | ((with_reducible refine cell_new ?_ ?_); (· (simp; done)); (· rfl)) | (with_reducible refine cell_alloc ?_ _) | (with_reducible refine cell_drew ?_) | (with_reducible refine cell_drewN ?_ _) | (with_reducible refine cell_below (by assumption) ?_)))))
            (first
              | (go_at_call 27; refine (near_true _ _ _ ?_ ?_ ?_ ?_ ?_ ?_ _).mono ?_; (· (first | omega | (rw [wn]; omega) | (simp only [wn, wn2, wn3]; omega) | (rw [wn4]; omega) | (simp; omega))); (· (first | omega | (rw [wn]; omega) | (simp only [wn, wn2, wn3]; omega) | (rw [wn4]; omega) | (simp; omega))); (· (first | omega | (rw [wn]; omega) | (simp only [wn, wn2, wn3]; omega) | (rw [wn4]; omega) | (simp; omega))); (· (first | omega | (rw [wn]; omega) | (simp only [wn, wn2, wn3]; omega) | (rw [wn4]; omega) | (simp; omega))); (· (first | omega | (rw [wn]; omega) | (simp only [wn, wn2, wn3]; omega) | (rw [wn4]; omega) | (simp; omega))); (· (first | omega | (rw [wn]; omega) | (simp only [wn, wn2, wn3]; omega) | (rw [wn4]; omega) | (simp; omega))); rintro e w' ⟨rfl, rfl⟩)
              | (go_at_call 52; (with_reducible refine (DC _).mono ?_); rintro e w' ⟨rfl, hb'⟩))
          rename_i hH
          obtain ⟨f42, f43, f44, f45, f46, f47, f48, f49, f50⟩ := hH
          have zf42 : w.heap.size < w'.heap.size := World.block_lt_of_cell? _ _ f42
          have zf49 : w2.heap.size < w'.heap.size := World.block_lt_of_cell? _ _ f49
          clear f33 zf33 f34 f35 f36 f37 f38 f39 f40 zf40 f41
          go_wp2_with fail
          all_goals
            go_ret
            exact ⟨rfl, by (repeat (with_reducible (first | assumption | exact Below.refl _ _ | refine Below.drew ?_ | refine below_drewN ?_ _ | refine below_set ?_ (by simp; try omega) _ | refine below_alloc ?_ (Nat.le_refl _) _ | refine below_sub (by assumption) ?_)))⟩
    · obtain ⟨hx, hy⟩ : X = 0 ∧ Y = 0 := by
        have := tan_err (right := true) (by rw [← hR]; exact hE)
        rw [← hR] at this
        exact this
      subst hx hy
      have T : (E != 0) = true := by rw [bne_iff_ne]; exact hE
      have T2 : (E == 0) = false := by rw [beq_eq_false_iff_ne]; exact hE
      have HR := hide hR
      clear hR hE
      go_enter Try.func19, Try.ntmps19
      go_wp2_with fail
      refine (awake12_any _).mono ?_
      rintro e w1 ⟨rfl, hb1⟩
      obtain ⟨f1, f2, f3, f4, f5, f6, f7⟩ : w1.cell? ⟨w.heap.size, 0, none⟩ = some (.int .i64 ax) ∧ w1.cell? ⟨w.heap.size, 1, none⟩ = some (.int .i64 ay) ∧ w1.cell? ⟨w.heap.size, 2, none⟩ = some (.int .i64 bx) ∧ w1.cell? ⟨w.heap.size, 3, none⟩ = some (.int .i64 b_y) ∧ w1.cell? ⟨w.heap.size, 4, none⟩ = some (.int .i64 cx) ∧ w1.cell? ⟨w.heap.size, 5, none⟩ = some (.int .i64 cy) ∧ w1.cell? ⟨w.heap.size, 6, none⟩ = some (.int .i64 r) := by
        refine ⟨?_, ?_, ?_, ?_, ?_, ?_, ?_⟩ <;> (refine cell_below hb1 ?_; repeat (first | (with_reducible assumption) | ((with_reducible refine cell_set ?_ ?_ _); (· first | (simp; done) | (simp; omega) | omega)) | ((with_reducible refine cell_new ?_ ?_); (· (simp; done)); (· rfl)) | (with_reducible refine cell_alloc ?_ _) | (with_reducible refine cell_drew ?_) | (with_reducible refine cell_drewN ?_ _) | (with_reducible refine cell_below (by assumption) ?_)))
      have zf1 : w.heap.size < w1.heap.size := World.block_lt_of_cell? _ _ f1
      go_wp2_with fail
      refine (tan_r ax ay r bx b_y hr _ 0 0 E HR.out).mono ?_
      rintro e w2 ⟨rfl, hb2⟩
      obtain ⟨f8, f9, f10, f11, f12, f13, f14⟩ : w2.cell? ⟨w.heap.size, 0, none⟩ = some (.int .i64 ax) ∧ w2.cell? ⟨w.heap.size, 1, none⟩ = some (.int .i64 ay) ∧ w2.cell? ⟨w.heap.size, 2, none⟩ = some (.int .i64 bx) ∧ w2.cell? ⟨w.heap.size, 3, none⟩ = some (.int .i64 b_y) ∧ w2.cell? ⟨w.heap.size, 4, none⟩ = some (.int .i64 cx) ∧ w2.cell? ⟨w.heap.size, 5, none⟩ = some (.int .i64 cy) ∧ w2.cell? ⟨w.heap.size, 6, none⟩ = some (.int .i64 r) := by
        refine ⟨?_, ?_, ?_, ?_, ?_, ?_, ?_⟩ <;> (refine cell_below hb2 ?_; repeat (first | (with_reducible assumption) | ((with_reducible refine cell_set ?_ ?_ _); (· first | (simp; done) | (simp; omega) | omega)) | ((with_reducible refine cell_new ?_ ?_); (· (simp; done)); (· rfl)) | (with_reducible refine cell_alloc ?_ _) | (with_reducible refine cell_drew ?_) | (with_reducible refine cell_drewN ?_ _) | (with_reducible refine cell_below (by assumption) ?_)))
      have zf8 : w.heap.size < w2.heap.size := World.block_lt_of_cell? _ _ f8
      clear f1 zf1 f2 f3 f4 f5 f6 f7
      go_wp2_with fail
      go_quiet (fail)
      go_wp2_with fail
      all_goals
        go_ret
        exact ⟨rfl, by (repeat (with_reducible (first | assumption | exact Below.refl _ _ | refine Below.drew ?_ | refine below_drewN ?_ _ | refine below_set ?_ (by simp; try omega) _ | refine below_alloc ?_ (Nat.le_refl _) _ | refine below_sub (by assumption) ?_)))⟩
end Go.Proofs.Yteedgcffdgkicaa

/-
  TurnTouches: the row's step: the given statement 'TurnTouchesSaid' out of the walk.
-/
namespace Go.Proofs.Yteedgcffdgkicaa.turnTouches
open Go.ChangeShapes Go.WideShapes Go.ChangeAt Go.RowKit
set_option linter.unusedVariables false

theorem own : ownKnob Try.prog.godebug = none := by kernel_rfl
theorem laidOut : laidOutB Try.prog = true := pf_laid
theorem typed : (Try.f19.params.toList.all fun t => Try.prog.readableRec t && decide (t < Try.prog.types.size)) = true := by kernel_rfl
theorem typed' : ∀ t ∈ Try.f19.params.toList, Try.prog.readableRec t = true ∧ t < Try.prog.types.size := by
  intro t ht
  have h := List.all_eq_true.1 typed t ht
  simpa using h
theorem ct38 : Try.prog.cellTypes Try.prog.depth 38 = some (List.replicate 7 2) := by kernel_rfl
theorem cn38 : Try.prog.cellsOf 38 = (List.replicate 7 2).length := by kernel_rfl
set_option maxRecDepth 100000 in
theorem lifted (os : Os) (started : os.Started) (H : Type) (enc : TypeId × Value → H) :
    ReturnsInHanded {} Try.checked os 19 .any (Rows.turnTouchesSpec.pre6 enc Try.prog Try.f19 Rows.turnTouchesRow.domain false) (Rows.turnTouchesSpec.post enc Try.prog Try.f19 false true false false) := by
  refine returnsInHanded_of_change (C := Try.checked) own started (by kernel_rfl) Try.func19
    (ChangeSpec.witness6 (enc := enc) (C := Try.checked) false ⟨#[], #[.agg #[.int .i64 0, .int .i64 0, .int .i64 0, .int .i64 0, .int .i64 0, .int .i64 0, .int .i64 0], .bool false], []⟩ 8 (by kernel_rfl) (by kernel_rfl) (by kernel_rfl) (by kernel_rfl)) ?_
  intro W base args ds gs before hval0 hW hcnd _
  have hval : ∀ (j : Nat) t v, Try.f19.params[j]? = some t → args[j]? = some v → Value.okWide Try.prog W .any base t v := hval0
  have hW' := hW
  obtain ⟨p, q, hA0, hV, rfl, hfz, hnd⟩ := hW
  have hlen := trodAll_length _ _ _ _ hA0
  rw [Try.params19] at hval hlen
  obtain ⟨v0, v1, rfl⟩ := arr2 hlen.1
  obtain ⟨d0, d1, rfl⟩ := list2 hlen.2
  obtain ⟨lx, rfl, ex, hlx⟩ := ok_ints (Or.inl ⟨_, Try.underlying38⟩) ct38 cn38 (fun u hu => by rw [List.eq_of_mem_replicate hu]; exact Try.underlying2) (hval 0 38 v0 rfl rfl)
  obtain ⟨x0, x1, x2, x3, x4, x5, x6, rfl⟩ := list7 (ex.trans (by simp))
  have hx0 : I64 x0 := hlx _ (by simp)
  have hx1 : I64 x1 := hlx _ (by simp)
  have hx2 : I64 x2 := hlx _ (by simp)
  have hx3 : I64 x3 := hlx _ (by simp)
  have hx4 : I64 x4 := hlx _ (by simp)
  have hx5 : I64 x5 := hlx _ (by simp)
  have hx6 : I64 x6 := hlx _ (by simp)
  obtain ⟨right, rfl⟩ := ok_bool Try.underlying4 (hval 1 4 v1 rfl rfl)
  refine (turnTouches_walk x0 x1 x2 x3 x4 x5 x6 right hx0 hx1 hx2 hx3 hx4 hx5 hx6 W).mono fun e W' ⟨he, hb⟩ => ?_
  subst he
  exact ⟨_, rfl, law_post (f := Try.f19) (s := Rows.turnTouchesSpec) (tb := 4) laidOut typed' rfl (by kernel_rfl) Try.underlying4 hW' ⟨rfl, rfl, rfl⟩ hb⟩

theorem k0 : (Rows.turnTouchesRow.wf (OpenSpec.ofChange Rows.turnTouchesSpec)) = true := by kernel_rfl
theorem k3 : (Try.f19.params.all (Try.prog.readableRec ·)) = true := by kernel_rfl
theorem k4 : (namedTie Try.prog Rows.turnTouchesRow.named Rows.turnTouchesSpec.vars) = true := by kernel_rfl
theorem k5 : (Rows.turnTouchesRow.stops == []) = true := by kernel_rfl
theorem k7 : (Rows.turnTouchesRow.knobs == []) = true := by kernel_rfl
theorem k9 : (Rows.turnTouchesRow.inPlace == Try.prog.inPlace 19) = true := by kernel_rfl
theorem k10 : (Rows.turnTouchesRow.unfollowed == Try.prog.unfollowed 19) = true := by kernel_rfl
theorem k11 : (Rows.turnTouchesRow.recurses == Try.prog.recurses 19) = true := by kernel_rfl
theorem k12 : (Rows.turnTouchesRow.named == Try.prog.varsNamed 19) = true := by kernel_rfl
theorem k13 : (Rows.turnTouchesRow.maps == (Try.f19.params.toList ++ Rows.turnTouchesSpec.plain.varTypes Try.prog).any (Try.prog.mapsRec ·)) = true := by kernel_rfl
theorem k14 : (Rows.turnTouchesRow.ifaces == (Try.f19.params.toList ++ Rows.turnTouchesSpec.plain.varTypes Try.prog).any (Try.prog.ifacesRec ·)) = true := by kernel_rfl
theorem k15 : (Rows.turnTouchesRow.mapsOut == Try.prog.mapsAmong Try.f19.resultTypes.toList) = true := by kernel_rfl
theorem k16 : (Rows.turnTouchesRow.loops == (Try.f19.params.toList ++ Rows.turnTouchesSpec.plain.varTypes Try.prog).any (Try.prog.loopsFrom ·)) = true := by kernel_rfl
theorem k17 : (Rows.turnTouchesRow.wideKeys == (Try.f19.params.toList ++ Rows.turnTouchesSpec.plain.varTypes Try.prog ++ Try.f19.resultTypes.toList).any (Try.prog.wideKeysFrom ·)) = true := by kernel_rfl
theorem k18 : (Rows.turnTouchesSpec.vars.all (Try.prog.varReadable ·)) = true := by kernel_rfl
theorem k19 : (Try.f19.resultTypes.all (fun t => Try.prog.readableRec t && decide (t < Try.prog.types.size))) = true := by kernel_rfl
theorem k20 : (Rows.turnTouchesRow.ifacesOut == Try.f19.resultTypes.toList.any (Try.prog.ifacesRec ·)) = true := by kernel_rfl
theorem k21 : (Rows.turnTouchesRow.loopsOut == Try.f19.resultTypes.toList.any (Try.prog.loopsFrom ·)) = true := by kernel_rfl
theorem k22 : (Rows.turnTouchesRow.plainKeys == Try.prog.plainKeys) = true := by kernel_rfl
theorem k23 : (Rows.turnTouchesRow.shortTexts.isNone) = true := by kernel_rfl
theorem k26 : (Rows.turnTouchesRow.lifted == Try.prog.liftsFinal) = true := by rw [pf_lifts]; rfl
theorem k27 : (Try.prog.make == some Rows.turnTouchesRow.make) = true := by rw [pf_make]; rfl
theorem k28 : (Rows.turnTouchesRow.kinds == (if Rows.turnTouchesRow.domain.isEmpty then [] else Try.f19.params.toList.map fun t => match Try.prog.underlying t with | some (.int k) => some k | _ => none)) = true := by kernel_rfl
theorem k29 : (Rows.turnTouchesRow.pinned == Rows.turnTouchesRow.pinnedBy) = true := by kernel_rfl
theorem k30 : (Rows.turnTouchesRow.veiled == (Try.f19.params.toList ++ Rows.turnTouchesSpec.plain.varTypes Try.prog ++ Try.f19.resultTypes.toList).any (Try.prog.veiledRec ·)) = true := by kernel_rfl
theorem k31 : (Rows.turnTouchesRow.veiledFits Try.prog Try.f19.params.toList (Try.f19.params.toList ++ Rows.turnTouchesSpec.plain.varTypes Try.prog ++ Try.f19.resultTypes.toList)) = true := by kernel_rfl
set_option maxRecDepth 100000 in
theorem closed : joinedFacts Try.prog 19 Try.f19 Rows.turnTouchesSpec Rows.turnTouchesRow = true := (band (band (band (band (band (band (band (band (band (band (band (band (band (band (band (band (band (band (band (band (band (band (band (band (band (band (band (band (band (band (band k0 pf_laid) pf_maps) k3) k4) k5) pf_stops) k7) pf_knobs) k9) k10) k11) k12) k13) k14) k15) k16) k17) k18) k19) k20) k21) k22) k23) pf_heard) pf_enter) k26) k27) k28) k29) k30) k31)
theorem byName : Try.prog.funcNamed Rows.turnTouchesRow.func = some 19 := by kernel_rfl
theorem inst : Try.f19.isInstance Try.prog Rows.turnTouchesRow.origin Rows.turnTouchesRow.targs := of_decide_eq_true (by kernel_rfl)
theorem over : Rows.turnTouchesRow.holds Try.pinned (OpenSpec.ofChange Rows.turnTouchesSpec) :=
  OpenClaim.holds_of_wide 19 Try.f19 rfl rfl rfl rfl rfl rfl rfl ⟨rfl, rfl, rfl, rfl, rfl⟩ rfl rfl rfl rfl rfl byName Try.func19 closed
    inst (by unfold Func.isWrapper; rw [if_neg (of_decide_eq_false (by kernel_rfl))]; exact ⟨rfl, rfl⟩)
    (fun os started H enc _ => lifted os started H enc)

/-- The given statement. -/
theorem proved : Rows.TurnTouchesSaid := over
end Go.Proofs.Yteedgcffdgkicaa.turnTouches

