/-
  The walk of the law TurnGaps.
-/
import Derived.Test.YteedgcffdgkicaaMAwakeT
import Derived.Test.YteedgcffdgkicaaRows
import Derived.Test.YteedgcffdgkicaaMFrame
namespace Go.Proofs.Yteedgcffdgkicaa
open Go.RowKit
set_option linter.unusedVariables false
set_option linter.unusedSimpArgs false
set_option maxRecDepth 100000 in
set_option maxHeartbeats 4000000 in
theorem turnGaps_walk (ax ay bx b_y cx cy r : Int) (hax : I64 ax) (hay : I64 ay) (hbx : I64 bx) (hb_y : I64 b_y) (hcx : I64 cx) (hcy : I64 cy) (hr : I64 r) (w : World) :
    Calls Try.prog 8 #[.agg #[.int .i64 ax, .int .i64 ay, .int .i64 bx, .int .i64 b_y, .int .i64 cx, .int .i64 cy, .int .i64 r]] w fun e w' => e = .returned (.bool true) ∧ Below w.heap.size w w' := by
  obtain ⟨v0, v1, v2, v3, v4, v5, v6, v7, v8, v9, e0, hR⟩ := fly_cells ax ay bx b_y cx cy r
  by_cases hE : e0 = 0
  · subst hE
    obtain ⟨hB, h1, h2, h3, h4⟩ := fly_ok hR
    have hl := arcLen_bd v0 v1 v2 v3 v4
    obtain ⟨X, Y, C, hA⟩ := ends_of h3 h1 (arcAt_code hB (Int.le_refl 0) hl.1)
    obtain ⟨U, V, D, hT⟩ := ends_of h4 h2 (arcAt_code hB hl.1 (Int.le_refl _))
    have HR := hide hR
    have HB := hide hB
    have TL := fun W => tlen_any v0 v1 v2 v3 v4 W
    clear hR hB h1 h2 h3 h4
    generalize arcLen v0 v1 v2 v3 v4 = n at *
    obtain ⟨F, hA, hF⟩ : ∃ F, (X, Y, C, F) = arcAt v0 v1 v2 v3 v4 0 ∧ ((F = 0 ∧ (X - v5 ≤ 8 ∧ v5 - X ≤ 8) ∧ (Y - v6 ≤ 8 ∧ v6 - Y ≤ 8) ∧ (-2000000 ≤ v5 ∧ v5 ≤ 2000000) ∧ (-2000000 ≤ v6 ∧ v6 ≤ 2000000)) ∨ F = 2) := by
      rcases hA with ⟨h, k⟩ | h
      · exact ⟨0, h, .inl ⟨rfl, k⟩⟩
      · exact ⟨2, h, .inr rfl⟩
    obtain ⟨G, hT, hG⟩ : ∃ G, (U, V, D, G) = arcAt v0 v1 v2 v3 v4 n ∧ ((G = 0 ∧ (U - v7 ≤ 8 ∧ v7 - U ≤ 8) ∧ (V - v8 ≤ 8 ∧ v8 - V ≤ 8) ∧ (-2000000 ≤ v7 ∧ v7 ≤ 2000000) ∧ (-2000000 ≤ v8 ∧ v8 ≤ 2000000)) ∨ G = 2) := by
      rcases hT with ⟨h, k⟩ | h
      · exact ⟨0, h, .inl ⟨rfl, k⟩⟩
      · exact ⟨2, h, .inr rfl⟩
    have HA := hide hA
    have TA := fun W => arcat_any v0 v1 v2 v3 v4 n W (U, V, D, G) hT
    clear hA hT
    go_enter Try.func8, Try.ntmps8
    go_wp2_with fail
    refine (awake12_any _).mono ?_
    rintro e w1 ⟨rfl, hb1⟩
    obtain ⟨f1, f2, f3, f4, f5, f6, f7⟩ : w1.cell? ⟨w.heap.size, 0, none⟩ = some (.int .i64 ax) ∧ w1.cell? ⟨w.heap.size, 1, none⟩ = some (.int .i64 ay) ∧ w1.cell? ⟨w.heap.size, 2, none⟩ = some (.int .i64 bx) ∧ w1.cell? ⟨w.heap.size, 3, none⟩ = some (.int .i64 b_y) ∧ w1.cell? ⟨w.heap.size, 4, none⟩ = some (.int .i64 cx) ∧ w1.cell? ⟨w.heap.size, 5, none⟩ = some (.int .i64 cy) ∧ w1.cell? ⟨w.heap.size, 6, none⟩ = some (.int .i64 r) := by
      refine ⟨?_, ?_, ?_, ?_, ?_, ?_, ?_⟩ <;> (refine cell_below hb1 ?_; repeat (first | (with_reducible assumption) | ((with_reducible refine cell_set ?_ ?_ _); (· first | (simp; done) | (simp; omega) | omega)) | ((with_reducible refine cell_new ?_ ?_); (· (simp; done)); (· rfl)) | (with_reducible refine cell_alloc ?_ _) | (with_reducible refine cell_drew ?_) | (with_reducible refine cell_drewN ?_ _) | (with_reducible refine cell_below (by assumption) ?_)))
    have zf1 : w.heap.size < w1.heap.size := World.block_lt_of_cell? _ _ f1
    go_wp2_with fail
    refine (fly_any ax ay bx b_y cx cy r hr _ v0 v1 v2 v3 v4 v5 v6 v7 v8 v9 0 HR.out).mono ?_
    rintro e w2 ⟨rfl, hb2⟩
    obtain ⟨f8, f9, f10, f11, f12, f13, f14⟩ : w2.cell? ⟨w.heap.size, 0, none⟩ = some (.int .i64 ax) ∧ w2.cell? ⟨w.heap.size, 1, none⟩ = some (.int .i64 ay) ∧ w2.cell? ⟨w.heap.size, 2, none⟩ = some (.int .i64 bx) ∧ w2.cell? ⟨w.heap.size, 3, none⟩ = some (.int .i64 b_y) ∧ w2.cell? ⟨w.heap.size, 4, none⟩ = some (.int .i64 cx) ∧ w2.cell? ⟨w.heap.size, 5, none⟩ = some (.int .i64 cy) ∧ w2.cell? ⟨w.heap.size, 6, none⟩ = some (.int .i64 r) := by
      refine ⟨?_, ?_, ?_, ?_, ?_, ?_, ?_⟩ <;> (refine cell_below hb2 ?_; repeat (first | (with_reducible assumption) | ((with_reducible refine cell_set ?_ ?_ _); (· first | (simp; done) | (simp; omega) | omega)) | ((with_reducible refine cell_new ?_ ?_); (· (simp; done)); (· rfl)) | (with_reducible refine cell_alloc ?_ _) | (with_reducible refine cell_drew ?_) | (with_reducible refine cell_drewN ?_ _) | (with_reducible refine cell_below (by assumption) ?_)))
    have zf8 : w.heap.size < w2.heap.size := World.block_lt_of_cell? _ _ f8
    clear f1 zf1 f2 f3 f4 f5 f6 f7
    go_wp2_with fail
    refine (arcat_any v0 v1 v2 v3 v4 0 _ (X, Y, C, F) HA.out).mono ?_
    rintro e w3 ⟨rfl, hb3⟩
    obtain ⟨f15, f16, f17, f18, f19, f20, f21, f22, f23, f24, f25, f26, f27, f28, f29, f30, f31⟩ : w3.cell? ⟨w.heap.size, 0, none⟩ = some (.int .i64 ax) ∧ w3.cell? ⟨w.heap.size, 1, none⟩ = some (.int .i64 ay) ∧ w3.cell? ⟨w.heap.size, 2, none⟩ = some (.int .i64 bx) ∧ w3.cell? ⟨w.heap.size, 3, none⟩ = some (.int .i64 b_y) ∧ w3.cell? ⟨w.heap.size, 4, none⟩ = some (.int .i64 cx) ∧ w3.cell? ⟨w.heap.size, 5, none⟩ = some (.int .i64 cy) ∧ w3.cell? ⟨w.heap.size, 6, none⟩ = some (.int .i64 r) ∧ w3.cell? ⟨w2.heap.size, 0, none⟩ = some (.int .i64 v0) ∧ w3.cell? ⟨w2.heap.size, 1, none⟩ = some (.int .i64 v1) ∧ w3.cell? ⟨w2.heap.size, 2, none⟩ = some (.int .i64 v2) ∧ w3.cell? ⟨w2.heap.size, 3, none⟩ = some (.int .i64 v3) ∧ w3.cell? ⟨w2.heap.size, 4, none⟩ = some (.int .i64 v4) ∧ w3.cell? ⟨w2.heap.size, 5, none⟩ = some (.int .i64 v5) ∧ w3.cell? ⟨w2.heap.size, 6, none⟩ = some (.int .i64 v6) ∧ w3.cell? ⟨w2.heap.size, 7, none⟩ = some (.int .i64 v7) ∧ w3.cell? ⟨w2.heap.size, 8, none⟩ = some (.int .i64 v8) ∧ w3.cell? ⟨w2.heap.size, 9, none⟩ = some (.int .i64 v9) := by
      refine ⟨?_, ?_, ?_, ?_, ?_, ?_, ?_, ?_, ?_, ?_, ?_, ?_, ?_, ?_, ?_, ?_, ?_⟩ <;> (refine cell_below hb3 ?_; repeat (first | (with_reducible assumption) | ((with_reducible refine cell_set ?_ ?_ _); (· first | (simp; done) | (simp; omega) | omega)) | ((with_reducible refine cell_new ?_ ?_); (· (simp; done)); (· rfl)) | (with_reducible refine cell_alloc ?_ _) | (with_reducible refine cell_drew ?_) | (with_reducible refine cell_drewN ?_ _) | (with_reducible refine cell_below (by assumption) ?_)))
    have zf15 : w.heap.size < w3.heap.size := World.block_lt_of_cell? _ _ f15
    have zf22 : w2.heap.size < w3.heap.size := World.block_lt_of_cell? _ _ f22
    clear f8 zf8 f9 f10 f11 f12 f13 f14
    go_wp2_with fail
    generalize hwwp : w3.alloc (.cells #[.int .i64 X, .int .i64 Y] 23) = wp
    have x32 : wp.cell? ⟨w.heap.size, 0, none⟩ = some (.int .i64 ax) := by
      rw [← hwwp]; exact cell_alloc f15 _
    have x33 : wp.cell? ⟨w.heap.size, 1, none⟩ = some (.int .i64 ay) := by
      rw [← hwwp]; exact cell_alloc f16 _
    have x34 : wp.cell? ⟨w.heap.size, 2, none⟩ = some (.int .i64 bx) := by
      rw [← hwwp]; exact cell_alloc f17 _
    have x35 : wp.cell? ⟨w.heap.size, 3, none⟩ = some (.int .i64 b_y) := by
      rw [← hwwp]; exact cell_alloc f18 _
    have x36 : wp.cell? ⟨w.heap.size, 4, none⟩ = some (.int .i64 cx) := by
      rw [← hwwp]; exact cell_alloc f19 _
    have x37 : wp.cell? ⟨w.heap.size, 5, none⟩ = some (.int .i64 cy) := by
      rw [← hwwp]; exact cell_alloc f20 _
    have x38 : wp.cell? ⟨w.heap.size, 6, none⟩ = some (.int .i64 r) := by
      rw [← hwwp]; exact cell_alloc f21 _
    have x39 : wp.cell? ⟨w2.heap.size, 0, none⟩ = some (.int .i64 v0) := by
      rw [← hwwp]; exact cell_alloc f22 _
    have x40 : wp.cell? ⟨w2.heap.size, 1, none⟩ = some (.int .i64 v1) := by
      rw [← hwwp]; exact cell_alloc f23 _
    have x41 : wp.cell? ⟨w2.heap.size, 2, none⟩ = some (.int .i64 v2) := by
      rw [← hwwp]; exact cell_alloc f24 _
    have x42 : wp.cell? ⟨w2.heap.size, 3, none⟩ = some (.int .i64 v3) := by
      rw [← hwwp]; exact cell_alloc f25 _
    have x43 : wp.cell? ⟨w2.heap.size, 4, none⟩ = some (.int .i64 v4) := by
      rw [← hwwp]; exact cell_alloc f26 _
    have x44 : wp.cell? ⟨w2.heap.size, 5, none⟩ = some (.int .i64 v5) := by
      rw [← hwwp]; exact cell_alloc f27 _
    have x45 : wp.cell? ⟨w2.heap.size, 6, none⟩ = some (.int .i64 v6) := by
      rw [← hwwp]; exact cell_alloc f28 _
    have x46 : wp.cell? ⟨w2.heap.size, 7, none⟩ = some (.int .i64 v7) := by
      rw [← hwwp]; exact cell_alloc f29 _
    have x47 : wp.cell? ⟨w2.heap.size, 8, none⟩ = some (.int .i64 v8) := by
      rw [← hwwp]; exact cell_alloc f30 _
    have x48 : wp.cell? ⟨w2.heap.size, 9, none⟩ = some (.int .i64 v9) := by
      rw [← hwwp]; exact cell_alloc f31 _
    have x49 : wp.cell? ⟨w3.heap.size, 0, none⟩ = some (.int .i64 X) := by
      rw [← hwwp]; exact cell_new rfl rfl
    have x50 : wp.cell? ⟨w3.heap.size, 1, none⟩ = some (.int .i64 Y) := by
      rw [← hwwp]; exact cell_new rfl rfl
    have Bwp : Below w.heap.size w wp := by
      rw [← hwwp]
      (repeat (with_reducible (first | assumption | exact Below.refl _ _ | refine Below.drew ?_ | refine below_drewN ?_ _ | refine below_set ?_ (by simp; try omega) _ | refine below_alloc ?_ (Nat.le_refl _) _ | refine below_sub (by assumption) ?_)))
    clear f15 zf15 f16 f17 f18 f19 f20 f21 f22 zf22 f23 f24 f25 f26 f27 f28 f29 f30 f31 hwwp
    have zzx32 : w.heap.size < wp.heap.size := World.block_lt_of_cell? _ _ x32
    have zzx39 : w2.heap.size < wp.heap.size := World.block_lt_of_cell? _ _ x39
    have zzx49 : w3.heap.size < wp.heap.size := World.block_lt_of_cell? _ _ x49
    go_cut [8, 10] (fun sA sB wx => ∃ (g : Nat) (wz : World), sA = .pointer (some ⟨g, 0, none⟩) ∧ sB = .int .i64 G ∧ wz = wx ∧ (wz.cell? ⟨g, 0, none⟩ = some (.int .i64 U) ∧ wz.cell? ⟨g, 1, none⟩ = some (.int .i64 V)) ∧ Below (wp).heap.size (wp) wz)
    case first =>
      go_region_with (first
        | (go_at_call 23; refine (TL _).mono ?_; rintro e wL ⟨rfl, hL⟩; have hzL := hL.size; refine (fun hT0 => ?_) (cell_below hL (b := w2.heap.size) (o := 0) (v := .int .i64 v0) ?_); rotate_left; (· (repeat (first | (with_reducible assumption) | ((with_reducible refine cell_set ?_ ?_ _); (· first | (simp; done) | (simp; omega) | omega)) | ((with_reducible refine cell_new ?_ ?_); (· (simp; done)); (· rfl)) | (with_reducible refine cell_alloc ?_ _) | (with_reducible refine cell_drew ?_) | (with_reducible refine cell_drewN ?_ _) | (with_reducible refine cell_below (by assumption) ?_)))); refine (fun hT1 => ?_) (cell_below hL (b := w2.heap.size) (o := 1) (v := .int .i64 v1) ?_); rotate_left; (· (repeat (first | (with_reducible assumption) | ((with_reducible refine cell_set ?_ ?_ _); (· first | (simp; done) | (simp; omega) | omega)) | ((with_reducible refine cell_new ?_ ?_); (· (simp; done)); (· rfl)) | (with_reducible refine cell_alloc ?_ _) | (with_reducible refine cell_drew ?_) | (with_reducible refine cell_drewN ?_ _) | (with_reducible refine cell_below (by assumption) ?_)))); refine (fun hT2 => ?_) (cell_below hL (b := w2.heap.size) (o := 2) (v := .int .i64 v2) ?_); rotate_left; (· (repeat (first | (with_reducible assumption) | ((with_reducible refine cell_set ?_ ?_ _); (· first | (simp; done) | (simp; omega) | omega)) | ((with_reducible refine cell_new ?_ ?_); (· (simp; done)); (· rfl)) | (with_reducible refine cell_alloc ?_ _) | (with_reducible refine cell_drew ?_) | (with_reducible refine cell_drewN ?_ _) | (with_reducible refine cell_below (by assumption) ?_)))); refine (fun hT3 => ?_) (cell_below hL (b := w2.heap.size) (o := 3) (v := .int .i64 v3) ?_); rotate_left; (· (repeat (first | (with_reducible assumption) | ((with_reducible refine cell_set ?_ ?_ _); (· first | (simp; done) | (simp; omega) | omega)) | ((with_reducible refine cell_new ?_ ?_); (· (simp; done)); (· rfl)) | (with_reducible refine cell_alloc ?_ _) | (with_reducible refine cell_drew ?_) | (with_reducible refine cell_drewN ?_ _) | (with_reducible refine cell_below (by assumption) ?_)))); refine (fun hT4 => ?_) (cell_below hL (b := w2.heap.size) (o := 4) (v := .int .i64 v4) ?_); rotate_left; (· (repeat (first | (with_reducible assumption) | ((with_reducible refine cell_set ?_ ?_ _); (· first | (simp; done) | (simp; omega) | omega)) | ((with_reducible refine cell_new ?_ ?_); (· (simp; done)); (· rfl)) | (with_reducible refine cell_alloc ?_ _) | (with_reducible refine cell_drew ?_) | (with_reducible refine cell_drewN ?_ _) | (with_reducible refine cell_below (by assumption) ?_)))); have hTz := World.block_lt_of_cell? _ _ hT0; refine (fun hzM => ?_) (Nat.le_trans ?_ hL.size : (wp).heap.size ≤ wL.heap.size); rotate_left; (· first | exact Nat.le_refl _ | (simp; done) | (simp; omega)); try (refine (fun n0 => ?_) (mine_below hL (a := ⟨wp.heap.size, 0, none⟩) ?_); rotate_left; (· first | (refine ⟨?_, ?_⟩ <;> (with_reducible assumption)) | (refine mine_of (v := .int .i64 0) ?_ ?_ <;> (simp [go_sem]; done))); obtain ⟨n0a, n0b⟩ := n0; refine (fun n1 => ?_) (mine_below hL (a := ⟨wp.heap.size, 1, none⟩) ?_); rotate_left; (· first | (refine ⟨?_, ?_⟩ <;> (with_reducible assumption)) | (refine mine_of (v := .int .i64 0) ?_ ?_ <;> (simp [go_sem]; done))); obtain ⟨n1a, n1b⟩ := n1))
        | (go_at_call 25; refine (TA _).mono ?_; rintro e w' ⟨rfl, hb'⟩; have hz' := hb'.size; try (first | (refine (fun n2 => ?_) (mine_below hb' (a := ⟨wp.heap.size, 0, none⟩) ?_); rotate_left; (· first | (refine ⟨?_, ?_⟩ <;> (with_reducible assumption)) | (refine mine_of (v := .int .i64 0) ?_ ?_ <;> (simp [go_sem]; done))); obtain ⟨n2a, n2b⟩ := n2; refine (fun n3 => ?_) (mine_below hb' (a := ⟨wp.heap.size, 1, none⟩) ?_); rotate_left; (· first | (refine ⟨?_, ?_⟩ <;> (with_reducible assumption)) | (refine mine_of (v := .int .i64 0) ?_ ?_ <;> (simp [go_sem]; done))); obtain ⟨n3a, n3b⟩ := n3) | (refine (fun n2 => ?_) (mine_below hb' (a := ⟨wL.heap.size, 0, none⟩) ?_); rotate_left; (· first | (refine ⟨?_, ?_⟩ <;> (with_reducible assumption)) | (refine mine_of (v := .int .i64 0) ?_ ?_ <;> (simp [go_sem]; done))); obtain ⟨n2a, n2b⟩ := n2; refine (fun n3 => ?_) (mine_below hb' (a := ⟨wL.heap.size, 1, none⟩) ?_); rotate_left; (· first | (refine ⟨?_, ?_⟩ <;> (with_reducible assumption)) | (refine mine_of (v := .int .i64 0) ?_ ?_ <;> (simp [go_sem]; done))); obtain ⟨n3a, n3b⟩ := n3))))
      all_goals
        go_wp2_with fail
        go_meet
        refine ⟨_, _, rfl, rfl, rfl, ?_, ?_⟩
        · constructor <;> (first | (simp [go_sem]; done) | (simp [go_sem, *]; done) | (simp [World.cell?_setCell, *]; done))
        · (repeat (with_reducible (first | assumption | exact Below.refl _ _ | refine Below.drew ?_ | refine below_drewN ?_ _ | refine below_set ?_ (by simp; try omega) _ | refine below_alloc ?_ (Nat.le_refl _) _ | refine below_sub (by assumption) ?_)))
    case rest =>
      obtain ⟨g9, wz, rfl, rfl, rfl, ⟨cg91, cg92⟩, hbcg9⟩ := hcut
      obtain ⟨t51, t52, t53, t54, t55, t56, t57, t58, t59, t60, t61, t62, t63, t64, t65, t66, t67, t68, t69⟩ : wz.cell? ⟨w.heap.size, 0, none⟩ = some (.int .i64 ax) ∧ wz.cell? ⟨w.heap.size, 1, none⟩ = some (.int .i64 ay) ∧ wz.cell? ⟨w.heap.size, 2, none⟩ = some (.int .i64 bx) ∧ wz.cell? ⟨w.heap.size, 3, none⟩ = some (.int .i64 b_y) ∧ wz.cell? ⟨w.heap.size, 4, none⟩ = some (.int .i64 cx) ∧ wz.cell? ⟨w.heap.size, 5, none⟩ = some (.int .i64 cy) ∧ wz.cell? ⟨w.heap.size, 6, none⟩ = some (.int .i64 r) ∧ wz.cell? ⟨w2.heap.size, 0, none⟩ = some (.int .i64 v0) ∧ wz.cell? ⟨w2.heap.size, 1, none⟩ = some (.int .i64 v1) ∧ wz.cell? ⟨w2.heap.size, 2, none⟩ = some (.int .i64 v2) ∧ wz.cell? ⟨w2.heap.size, 3, none⟩ = some (.int .i64 v3) ∧ wz.cell? ⟨w2.heap.size, 4, none⟩ = some (.int .i64 v4) ∧ wz.cell? ⟨w2.heap.size, 5, none⟩ = some (.int .i64 v5) ∧ wz.cell? ⟨w2.heap.size, 6, none⟩ = some (.int .i64 v6) ∧ wz.cell? ⟨w2.heap.size, 7, none⟩ = some (.int .i64 v7) ∧ wz.cell? ⟨w2.heap.size, 8, none⟩ = some (.int .i64 v8) ∧ wz.cell? ⟨w2.heap.size, 9, none⟩ = some (.int .i64 v9) ∧ wz.cell? ⟨w3.heap.size, 0, none⟩ = some (.int .i64 X) ∧ wz.cell? ⟨w3.heap.size, 1, none⟩ = some (.int .i64 Y) := by
        refine ⟨?_, ?_, ?_, ?_, ?_, ?_, ?_, ?_, ?_, ?_, ?_, ?_, ?_, ?_, ?_, ?_, ?_, ?_, ?_⟩ <;> (refine cell_below hbcg9 ?_; repeat (first | (with_reducible assumption) | ((with_reducible refine cell_set ?_ ?_ _); (· first | (simp; done) | (simp; omega) | omega)) | ((with_reducible refine cell_new ?_ ?_); (· (simp; done)); (· rfl)) | (with_reducible refine cell_alloc ?_ _) | (with_reducible refine cell_drew ?_) | (with_reducible refine cell_drewN ?_ _) | (with_reducible refine cell_below (by assumption) ?_)))
      have zt51 : w.heap.size < wz.heap.size := World.block_lt_of_cell? _ _ t51
      have zt58 : w2.heap.size < wz.heap.size := World.block_lt_of_cell? _ _ t58
      have zt68 : w3.heap.size < wz.heap.size := World.block_lt_of_cell? _ _ t68
      clear x32 zzx32 x33 x34 x35 x36 x37 x38 x39 zzx39 x40 x41 x42 x43 x44 x45 x46 x47 x48 x49 zzx49 x50
      have zcg9 : g9 < wz.heap.size := World.block_lt_of_cell? _ _ cg91
      go_wp2_with fail
      refine (tvalid_any v0 v1 v2 v3 v4 _).mono ?_
      rintro e w4 ⟨rfl, hb4⟩
      rw [HB.out]
      obtain ⟨f70, f71, f72, f73, f74, f75, f76, f77, f78, f79, f80, f81, f82, f83, f84, f85, f86, f87, f88, f89, f90⟩ : w4.cell? ⟨w.heap.size, 0, none⟩ = some (.int .i64 ax) ∧ w4.cell? ⟨w.heap.size, 1, none⟩ = some (.int .i64 ay) ∧ w4.cell? ⟨w.heap.size, 2, none⟩ = some (.int .i64 bx) ∧ w4.cell? ⟨w.heap.size, 3, none⟩ = some (.int .i64 b_y) ∧ w4.cell? ⟨w.heap.size, 4, none⟩ = some (.int .i64 cx) ∧ w4.cell? ⟨w.heap.size, 5, none⟩ = some (.int .i64 cy) ∧ w4.cell? ⟨w.heap.size, 6, none⟩ = some (.int .i64 r) ∧ w4.cell? ⟨w2.heap.size, 0, none⟩ = some (.int .i64 v0) ∧ w4.cell? ⟨w2.heap.size, 1, none⟩ = some (.int .i64 v1) ∧ w4.cell? ⟨w2.heap.size, 2, none⟩ = some (.int .i64 v2) ∧ w4.cell? ⟨w2.heap.size, 3, none⟩ = some (.int .i64 v3) ∧ w4.cell? ⟨w2.heap.size, 4, none⟩ = some (.int .i64 v4) ∧ w4.cell? ⟨w2.heap.size, 5, none⟩ = some (.int .i64 v5) ∧ w4.cell? ⟨w2.heap.size, 6, none⟩ = some (.int .i64 v6) ∧ w4.cell? ⟨w2.heap.size, 7, none⟩ = some (.int .i64 v7) ∧ w4.cell? ⟨w2.heap.size, 8, none⟩ = some (.int .i64 v8) ∧ w4.cell? ⟨w2.heap.size, 9, none⟩ = some (.int .i64 v9) ∧ w4.cell? ⟨w3.heap.size, 0, none⟩ = some (.int .i64 X) ∧ w4.cell? ⟨w3.heap.size, 1, none⟩ = some (.int .i64 Y) ∧ w4.cell? ⟨g9, 0, none⟩ = some (.int .i64 U) ∧ w4.cell? ⟨g9, 1, none⟩ = some (.int .i64 V) := by
        refine ⟨?_, ?_, ?_, ?_, ?_, ?_, ?_, ?_, ?_, ?_, ?_, ?_, ?_, ?_, ?_, ?_, ?_, ?_, ?_, ?_, ?_⟩ <;> (refine cell_below hb4 ?_; repeat (first | (with_reducible assumption) | ((with_reducible refine cell_set ?_ ?_ _); (· first | (simp; done) | (simp; omega) | omega)) | ((with_reducible refine cell_new ?_ ?_); (· (simp; done)); (· rfl)) | (with_reducible refine cell_alloc ?_ _) | (with_reducible refine cell_drew ?_) | (with_reducible refine cell_drewN ?_ _) | (with_reducible refine cell_below (by assumption) ?_)))
      have zf70 : w.heap.size < w4.heap.size := World.block_lt_of_cell? _ _ f70
      have zf77 : w2.heap.size < w4.heap.size := World.block_lt_of_cell? _ _ f77
      have zf87 : w3.heap.size < w4.heap.size := World.block_lt_of_cell? _ _ f87
      have zf89 : g9 < w4.heap.size := World.block_lt_of_cell? _ _ f89
      clear t51 zt51 t52 t53 t54 t55 t56 t57 t58 zt58 t59 t60 t61 t62 t63 t64 t65 t66 t67 t68 zt68 t69 cg91 zcg9 cg92
      rcases hF with ⟨rfl, ⟨p1, p2⟩, ⟨p3, p4⟩, ⟨p5, p6⟩, p7, p8⟩ | rfl
      · rcases hG with ⟨rfl, ⟨q1, q2⟩, ⟨q3, q4⟩, ⟨q5, q6⟩, q7, q8⟩ | rfl
        · have hz := trivial
          go_wp2_with fail
          refine (beside_any X Y v5 v6 8 (by omega) (by omega) (by omega) (by omega) (by omega) (by omega) (by omega) (by omega) (by omega) (by omega) (by omega) (by omega) _).mono ?_
          rintro e w5 ⟨rfl, hb5⟩
          obtain ⟨f91, f92, f93, f94, f95, f96, f97, f98, f99, f100, f101, f102, f103, f104, f105, f106, f107, f108, f109, f110, f111⟩ : w5.cell? ⟨w.heap.size, 0, none⟩ = some (.int .i64 ax) ∧ w5.cell? ⟨w.heap.size, 1, none⟩ = some (.int .i64 ay) ∧ w5.cell? ⟨w.heap.size, 2, none⟩ = some (.int .i64 bx) ∧ w5.cell? ⟨w.heap.size, 3, none⟩ = some (.int .i64 b_y) ∧ w5.cell? ⟨w.heap.size, 4, none⟩ = some (.int .i64 cx) ∧ w5.cell? ⟨w.heap.size, 5, none⟩ = some (.int .i64 cy) ∧ w5.cell? ⟨w.heap.size, 6, none⟩ = some (.int .i64 r) ∧ w5.cell? ⟨w2.heap.size, 0, none⟩ = some (.int .i64 v0) ∧ w5.cell? ⟨w2.heap.size, 1, none⟩ = some (.int .i64 v1) ∧ w5.cell? ⟨w2.heap.size, 2, none⟩ = some (.int .i64 v2) ∧ w5.cell? ⟨w2.heap.size, 3, none⟩ = some (.int .i64 v3) ∧ w5.cell? ⟨w2.heap.size, 4, none⟩ = some (.int .i64 v4) ∧ w5.cell? ⟨w2.heap.size, 5, none⟩ = some (.int .i64 v5) ∧ w5.cell? ⟨w2.heap.size, 6, none⟩ = some (.int .i64 v6) ∧ w5.cell? ⟨w2.heap.size, 7, none⟩ = some (.int .i64 v7) ∧ w5.cell? ⟨w2.heap.size, 8, none⟩ = some (.int .i64 v8) ∧ w5.cell? ⟨w2.heap.size, 9, none⟩ = some (.int .i64 v9) ∧ w5.cell? ⟨w3.heap.size, 0, none⟩ = some (.int .i64 X) ∧ w5.cell? ⟨w3.heap.size, 1, none⟩ = some (.int .i64 Y) ∧ w5.cell? ⟨g9, 0, none⟩ = some (.int .i64 U) ∧ w5.cell? ⟨g9, 1, none⟩ = some (.int .i64 V) := by
            refine ⟨?_, ?_, ?_, ?_, ?_, ?_, ?_, ?_, ?_, ?_, ?_, ?_, ?_, ?_, ?_, ?_, ?_, ?_, ?_, ?_, ?_⟩ <;> (refine cell_below hb5 ?_; repeat (first | (with_reducible assumption) | ((with_reducible refine cell_set ?_ ?_ _); (· first | (simp; done) | (simp; omega) | omega)) | ((with_reducible refine cell_new ?_ ?_); (· (simp; done)); (· rfl)) | (with_reducible refine cell_alloc ?_ _) | (with_reducible refine cell_drew ?_) | (with_reducible refine cell_drewN ?_ _) | (with_reducible refine cell_below (by assumption) ?_)))
          have zf91 : w.heap.size < w5.heap.size := World.block_lt_of_cell? _ _ f91
          have zf98 : w2.heap.size < w5.heap.size := World.block_lt_of_cell? _ _ f98
          have zf108 : w3.heap.size < w5.heap.size := World.block_lt_of_cell? _ _ f108
          have zf110 : g9 < w5.heap.size := World.block_lt_of_cell? _ _ f110
          clear f70 zf70 f71 f72 f73 f74 f75 f76 f77 zf77 f78 f79 f80 f81 f82 f83 f84 f85 f86 f87 zf87 f88 f89 zf89 f90
          go_wp2_with fail
          refine (beside_any U V v7 v8 8 (by omega) (by omega) (by omega) (by omega) (by omega) (by omega) (by omega) (by omega) (by omega) (by omega) (by omega) (by omega) _).mono ?_
          rintro e w6 ⟨rfl, hb6⟩
          obtain ⟨f112, f113, f114, f115, f116, f117, f118, f119, f120, f121, f122, f123, f124, f125, f126, f127, f128, f129, f130, f131, f132⟩ : w6.cell? ⟨w.heap.size, 0, none⟩ = some (.int .i64 ax) ∧ w6.cell? ⟨w.heap.size, 1, none⟩ = some (.int .i64 ay) ∧ w6.cell? ⟨w.heap.size, 2, none⟩ = some (.int .i64 bx) ∧ w6.cell? ⟨w.heap.size, 3, none⟩ = some (.int .i64 b_y) ∧ w6.cell? ⟨w.heap.size, 4, none⟩ = some (.int .i64 cx) ∧ w6.cell? ⟨w.heap.size, 5, none⟩ = some (.int .i64 cy) ∧ w6.cell? ⟨w.heap.size, 6, none⟩ = some (.int .i64 r) ∧ w6.cell? ⟨w2.heap.size, 0, none⟩ = some (.int .i64 v0) ∧ w6.cell? ⟨w2.heap.size, 1, none⟩ = some (.int .i64 v1) ∧ w6.cell? ⟨w2.heap.size, 2, none⟩ = some (.int .i64 v2) ∧ w6.cell? ⟨w2.heap.size, 3, none⟩ = some (.int .i64 v3) ∧ w6.cell? ⟨w2.heap.size, 4, none⟩ = some (.int .i64 v4) ∧ w6.cell? ⟨w2.heap.size, 5, none⟩ = some (.int .i64 v5) ∧ w6.cell? ⟨w2.heap.size, 6, none⟩ = some (.int .i64 v6) ∧ w6.cell? ⟨w2.heap.size, 7, none⟩ = some (.int .i64 v7) ∧ w6.cell? ⟨w2.heap.size, 8, none⟩ = some (.int .i64 v8) ∧ w6.cell? ⟨w2.heap.size, 9, none⟩ = some (.int .i64 v9) ∧ w6.cell? ⟨w3.heap.size, 0, none⟩ = some (.int .i64 X) ∧ w6.cell? ⟨w3.heap.size, 1, none⟩ = some (.int .i64 Y) ∧ w6.cell? ⟨g9, 0, none⟩ = some (.int .i64 U) ∧ w6.cell? ⟨g9, 1, none⟩ = some (.int .i64 V) := by
            refine ⟨?_, ?_, ?_, ?_, ?_, ?_, ?_, ?_, ?_, ?_, ?_, ?_, ?_, ?_, ?_, ?_, ?_, ?_, ?_, ?_, ?_⟩ <;> (refine cell_below hb6 ?_; repeat (first | (with_reducible assumption) | ((with_reducible refine cell_set ?_ ?_ _); (· first | (simp; done) | (simp; omega) | omega)) | ((with_reducible refine cell_new ?_ ?_); (· (simp; done)); (· rfl)) | (with_reducible refine cell_alloc ?_ _) | (with_reducible refine cell_drew ?_) | (with_reducible refine cell_drewN ?_ _) | (with_reducible refine cell_below (by assumption) ?_)))
          have zf112 : w.heap.size < w6.heap.size := World.block_lt_of_cell? _ _ f112
          have zf119 : w2.heap.size < w6.heap.size := World.block_lt_of_cell? _ _ f119
          have zf129 : w3.heap.size < w6.heap.size := World.block_lt_of_cell? _ _ f129
          have zf131 : g9 < w6.heap.size := World.block_lt_of_cell? _ _ f131
          clear f91 zf91 f92 f93 f94 f95 f96 f97 f98 zf98 f99 f100 f101 f102 f103 f104 f105 f106 f107 f108 zf108 f109 f110 zf110 f111
          go_wp2_with fail
          all_goals
            go_ret
            exact ⟨rfl, by (repeat (with_reducible (first | assumption | exact Below.refl _ _ | refine Below.drew ?_ | refine below_drewN ?_ _ | refine below_set ?_ (by simp; try omega) _ | refine below_alloc ?_ (Nat.le_refl _) _ | refine below_sub (by assumption) ?_)))⟩
        · have hz := trivial
          go_wp2_with fail
          refine (beside_any X Y v5 v6 8 (by omega) (by omega) (by omega) (by omega) (by omega) (by omega) (by omega) (by omega) (by omega) (by omega) (by omega) (by omega) _).mono ?_
          rintro e w5 ⟨rfl, hb5⟩
          obtain ⟨f91, f92, f93, f94, f95, f96, f97, f98, f99, f100, f101, f102, f103, f104, f105, f106, f107, f108, f109, f110, f111⟩ : w5.cell? ⟨w.heap.size, 0, none⟩ = some (.int .i64 ax) ∧ w5.cell? ⟨w.heap.size, 1, none⟩ = some (.int .i64 ay) ∧ w5.cell? ⟨w.heap.size, 2, none⟩ = some (.int .i64 bx) ∧ w5.cell? ⟨w.heap.size, 3, none⟩ = some (.int .i64 b_y) ∧ w5.cell? ⟨w.heap.size, 4, none⟩ = some (.int .i64 cx) ∧ w5.cell? ⟨w.heap.size, 5, none⟩ = some (.int .i64 cy) ∧ w5.cell? ⟨w.heap.size, 6, none⟩ = some (.int .i64 r) ∧ w5.cell? ⟨w2.heap.size, 0, none⟩ = some (.int .i64 v0) ∧ w5.cell? ⟨w2.heap.size, 1, none⟩ = some (.int .i64 v1) ∧ w5.cell? ⟨w2.heap.size, 2, none⟩ = some (.int .i64 v2) ∧ w5.cell? ⟨w2.heap.size, 3, none⟩ = some (.int .i64 v3) ∧ w5.cell? ⟨w2.heap.size, 4, none⟩ = some (.int .i64 v4) ∧ w5.cell? ⟨w2.heap.size, 5, none⟩ = some (.int .i64 v5) ∧ w5.cell? ⟨w2.heap.size, 6, none⟩ = some (.int .i64 v6) ∧ w5.cell? ⟨w2.heap.size, 7, none⟩ = some (.int .i64 v7) ∧ w5.cell? ⟨w2.heap.size, 8, none⟩ = some (.int .i64 v8) ∧ w5.cell? ⟨w2.heap.size, 9, none⟩ = some (.int .i64 v9) ∧ w5.cell? ⟨w3.heap.size, 0, none⟩ = some (.int .i64 X) ∧ w5.cell? ⟨w3.heap.size, 1, none⟩ = some (.int .i64 Y) ∧ w5.cell? ⟨g9, 0, none⟩ = some (.int .i64 U) ∧ w5.cell? ⟨g9, 1, none⟩ = some (.int .i64 V) := by
            refine ⟨?_, ?_, ?_, ?_, ?_, ?_, ?_, ?_, ?_, ?_, ?_, ?_, ?_, ?_, ?_, ?_, ?_, ?_, ?_, ?_, ?_⟩ <;> (refine cell_below hb5 ?_; repeat (first | (with_reducible assumption) | ((with_reducible refine cell_set ?_ ?_ _); (· first | (simp; done) | (simp; omega) | omega)) | ((with_reducible refine cell_new ?_ ?_); (· (simp; done)); (· rfl)) | (with_reducible refine cell_alloc ?_ _) | (with_reducible refine cell_drew ?_) | (with_reducible refine cell_drewN ?_ _) | (with_reducible refine cell_below (by assumption) ?_)))
          have zf91 : w.heap.size < w5.heap.size := World.block_lt_of_cell? _ _ f91
          have zf98 : w2.heap.size < w5.heap.size := World.block_lt_of_cell? _ _ f98
          have zf108 : w3.heap.size < w5.heap.size := World.block_lt_of_cell? _ _ f108
          have zf110 : g9 < w5.heap.size := World.block_lt_of_cell? _ _ f110
          clear f70 zf70 f71 f72 f73 f74 f75 f76 f77 zf77 f78 f79 f80 f81 f82 f83 f84 f85 f86 f87 zf87 f88 f89 zf89 f90
          go_wp2_with fail
          all_goals
            go_ret
            exact ⟨rfl, by (repeat (with_reducible (first | assumption | exact Below.refl _ _ | refine Below.drew ?_ | refine below_drewN ?_ _ | refine below_set ?_ (by simp; try omega) _ | refine below_alloc ?_ (Nat.le_refl _) _ | refine below_sub (by assumption) ?_)))⟩
      · rcases hG with ⟨rfl, ⟨q1, q2⟩, ⟨q3, q4⟩, ⟨q5, q6⟩, q7, q8⟩ | rfl
        · have hz := trivial
          go_wp2_with fail
          refine (beside_any U V v7 v8 8 (by omega) (by omega) (by omega) (by omega) (by omega) (by omega) (by omega) (by omega) (by omega) (by omega) (by omega) (by omega) _).mono ?_
          rintro e w5 ⟨rfl, hb5⟩
          obtain ⟨f91, f92, f93, f94, f95, f96, f97, f98, f99, f100, f101, f102, f103, f104, f105, f106, f107, f108, f109, f110, f111⟩ : w5.cell? ⟨w.heap.size, 0, none⟩ = some (.int .i64 ax) ∧ w5.cell? ⟨w.heap.size, 1, none⟩ = some (.int .i64 ay) ∧ w5.cell? ⟨w.heap.size, 2, none⟩ = some (.int .i64 bx) ∧ w5.cell? ⟨w.heap.size, 3, none⟩ = some (.int .i64 b_y) ∧ w5.cell? ⟨w.heap.size, 4, none⟩ = some (.int .i64 cx) ∧ w5.cell? ⟨w.heap.size, 5, none⟩ = some (.int .i64 cy) ∧ w5.cell? ⟨w.heap.size, 6, none⟩ = some (.int .i64 r) ∧ w5.cell? ⟨w2.heap.size, 0, none⟩ = some (.int .i64 v0) ∧ w5.cell? ⟨w2.heap.size, 1, none⟩ = some (.int .i64 v1) ∧ w5.cell? ⟨w2.heap.size, 2, none⟩ = some (.int .i64 v2) ∧ w5.cell? ⟨w2.heap.size, 3, none⟩ = some (.int .i64 v3) ∧ w5.cell? ⟨w2.heap.size, 4, none⟩ = some (.int .i64 v4) ∧ w5.cell? ⟨w2.heap.size, 5, none⟩ = some (.int .i64 v5) ∧ w5.cell? ⟨w2.heap.size, 6, none⟩ = some (.int .i64 v6) ∧ w5.cell? ⟨w2.heap.size, 7, none⟩ = some (.int .i64 v7) ∧ w5.cell? ⟨w2.heap.size, 8, none⟩ = some (.int .i64 v8) ∧ w5.cell? ⟨w2.heap.size, 9, none⟩ = some (.int .i64 v9) ∧ w5.cell? ⟨w3.heap.size, 0, none⟩ = some (.int .i64 X) ∧ w5.cell? ⟨w3.heap.size, 1, none⟩ = some (.int .i64 Y) ∧ w5.cell? ⟨g9, 0, none⟩ = some (.int .i64 U) ∧ w5.cell? ⟨g9, 1, none⟩ = some (.int .i64 V) := by
            refine ⟨?_, ?_, ?_, ?_, ?_, ?_, ?_, ?_, ?_, ?_, ?_, ?_, ?_, ?_, ?_, ?_, ?_, ?_, ?_, ?_, ?_⟩ <;> (refine cell_below hb5 ?_; repeat (first | (with_reducible assumption) | ((with_reducible refine cell_set ?_ ?_ _); (· first | (simp; done) | (simp; omega) | omega)) | ((with_reducible refine cell_new ?_ ?_); (· (simp; done)); (· rfl)) | (with_reducible refine cell_alloc ?_ _) | (with_reducible refine cell_drew ?_) | (with_reducible refine cell_drewN ?_ _) | (with_reducible refine cell_below (by assumption) ?_)))
          have zf91 : w.heap.size < w5.heap.size := World.block_lt_of_cell? _ _ f91
          have zf98 : w2.heap.size < w5.heap.size := World.block_lt_of_cell? _ _ f98
          have zf108 : w3.heap.size < w5.heap.size := World.block_lt_of_cell? _ _ f108
          have zf110 : g9 < w5.heap.size := World.block_lt_of_cell? _ _ f110
          clear f70 zf70 f71 f72 f73 f74 f75 f76 f77 zf77 f78 f79 f80 f81 f82 f83 f84 f85 f86 f87 zf87 f88 f89 zf89 f90
          go_wp2_with fail
          all_goals
            go_ret
            exact ⟨rfl, by (repeat (with_reducible (first | assumption | exact Below.refl _ _ | refine Below.drew ?_ | refine below_drewN ?_ _ | refine below_set ?_ (by simp; try omega) _ | refine below_alloc ?_ (Nat.le_refl _) _ | refine below_sub (by assumption) ?_)))⟩
        · have hz := trivial
          go_wp2_with fail
          all_goals
            go_ret
            exact ⟨rfl, by (repeat (with_reducible (first | assumption | exact Below.refl _ _ | refine Below.drew ?_ | refine below_drewN ?_ _ | refine below_set ?_ (by simp; try omega) _ | refine below_alloc ?_ (Nat.le_refl _) _ | refine below_sub (by assumption) ?_)))⟩
  · obtain ⟨⟨rfl, rfl, rfl, rfl, rfl⟩, rfl, rfl, rfl, rfl, rfl⟩ := fly_err hR hE
    have T : (e0 != 0) = true := by rw [bne_iff_ne]; exact hE
    have HR := hide hR
    clear hR hE
    go_enter Try.func8, Try.ntmps8
    go_wp2_with fail
    refine (awake12_any _).mono ?_
    rintro e w1 ⟨rfl, hb1⟩
    obtain ⟨f1, f2, f3, f4, f5, f6, f7⟩ : w1.cell? ⟨w.heap.size, 0, none⟩ = some (.int .i64 ax) ∧ w1.cell? ⟨w.heap.size, 1, none⟩ = some (.int .i64 ay) ∧ w1.cell? ⟨w.heap.size, 2, none⟩ = some (.int .i64 bx) ∧ w1.cell? ⟨w.heap.size, 3, none⟩ = some (.int .i64 b_y) ∧ w1.cell? ⟨w.heap.size, 4, none⟩ = some (.int .i64 cx) ∧ w1.cell? ⟨w.heap.size, 5, none⟩ = some (.int .i64 cy) ∧ w1.cell? ⟨w.heap.size, 6, none⟩ = some (.int .i64 r) := by
      refine ⟨?_, ?_, ?_, ?_, ?_, ?_, ?_⟩ <;> (refine cell_below hb1 ?_; repeat (first | (with_reducible assumption) | ((with_reducible refine cell_set ?_ ?_ _); (· first | (simp; done) | (simp; omega) | omega)) | ((with_reducible refine cell_new ?_ ?_); (· (simp; done)); (· rfl)) | (with_reducible refine cell_alloc ?_ _) | (with_reducible refine cell_drew ?_) | (with_reducible refine cell_drewN ?_ _) | (with_reducible refine cell_below (by assumption) ?_)))
    have zf1 : w.heap.size < w1.heap.size := World.block_lt_of_cell? _ _ f1
    go_wp2_with fail
    refine (fly_any ax ay bx b_y cx cy r hr _ 0 0 0 0 0 0 0 0 0 0 e0 HR.out).mono ?_
    rintro e w2 ⟨rfl, hb2⟩
    obtain ⟨f8, f9, f10, f11, f12, f13, f14⟩ : w2.cell? ⟨w.heap.size, 0, none⟩ = some (.int .i64 ax) ∧ w2.cell? ⟨w.heap.size, 1, none⟩ = some (.int .i64 ay) ∧ w2.cell? ⟨w.heap.size, 2, none⟩ = some (.int .i64 bx) ∧ w2.cell? ⟨w.heap.size, 3, none⟩ = some (.int .i64 b_y) ∧ w2.cell? ⟨w.heap.size, 4, none⟩ = some (.int .i64 cx) ∧ w2.cell? ⟨w.heap.size, 5, none⟩ = some (.int .i64 cy) ∧ w2.cell? ⟨w.heap.size, 6, none⟩ = some (.int .i64 r) := by
      refine ⟨?_, ?_, ?_, ?_, ?_, ?_, ?_⟩ <;> (refine cell_below hb2 ?_; repeat (first | (with_reducible assumption) | ((with_reducible refine cell_set ?_ ?_ _); (· first | (simp; done) | (simp; omega) | omega)) | ((with_reducible refine cell_new ?_ ?_); (· (simp; done)); (· rfl)) | (with_reducible refine cell_alloc ?_ _) | (with_reducible refine cell_drew ?_) | (with_reducible refine cell_drewN ?_ _) | (with_reducible refine cell_below (by assumption) ?_)))
    have zf8 : w.heap.size < w2.heap.size := World.block_lt_of_cell? _ _ f8
    clear f1 zf1 f2 f3 f4 f5 f6 f7
    go_wp2_with fail
    all_goals
      go_ret
      exact ⟨rfl, by (repeat (with_reducible (first | assumption | exact Below.refl _ _ | refine Below.drew ?_ | refine below_drewN ?_ _ | refine below_set ?_ (by simp; try omega) _ | refine below_alloc ?_ (Nat.le_refl _) _ | refine below_sub (by assumption) ?_)))⟩
end Go.Proofs.Yteedgcffdgkicaa

/-
  TurnGaps: the row's step: the given statement 'TurnGapsSaid' out of the walk.
-/
namespace Go.Proofs.Yteedgcffdgkicaa.turnGaps
open Go.ChangeShapes Go.WideShapes Go.ChangeAt Go.RowKit
set_option linter.unusedVariables false

theorem own : ownKnob Try.prog.godebug = none := by kernel_rfl
theorem laidOut : laidOutB Try.prog = true := pf_laid
theorem typed : (Try.f8.params.toList.all fun t => Try.prog.readableRec t && decide (t < Try.prog.types.size)) = true := by kernel_rfl
theorem typed' : ∀ t ∈ Try.f8.params.toList, Try.prog.readableRec t = true ∧ t < Try.prog.types.size := by
  intro t ht
  have h := List.all_eq_true.1 typed t ht
  simpa using h
theorem ct38 : Try.prog.cellTypes Try.prog.depth 38 = some (List.replicate 7 2) := by kernel_rfl
theorem cn38 : Try.prog.cellsOf 38 = (List.replicate 7 2).length := by kernel_rfl
set_option maxRecDepth 100000 in
theorem lifted (os : Os) (started : os.Started) (H : Type) (enc : TypeId × Value → H) :
    ReturnsInHanded {} Try.checked os 8 .any (Rows.turnGapsSpec.pre6 enc Try.prog Try.f8 Rows.turnGapsRow.domain false) (Rows.turnGapsSpec.post enc Try.prog Try.f8 false true false false) := by
  refine returnsInHanded_of_change (C := Try.checked) own started (by kernel_rfl) Try.func8
    (ChangeSpec.witness6 (enc := enc) (C := Try.checked) false ⟨#[], #[.agg #[.int .i64 0, .int .i64 0, .int .i64 0, .int .i64 0, .int .i64 0, .int .i64 0, .int .i64 0]], []⟩ 8 (by kernel_rfl) (by kernel_rfl) (by kernel_rfl) (by kernel_rfl)) ?_
  intro W base args ds gs before hval0 hW hcnd _
  have hval : ∀ (j : Nat) t v, Try.f8.params[j]? = some t → args[j]? = some v → Value.okWide Try.prog W .any base t v := hval0
  have hW' := hW
  obtain ⟨p, q, hA0, hV, rfl, hfz, hnd⟩ := hW
  have hlen := trodAll_length _ _ _ _ hA0
  rw [Try.params8] at hval hlen
  obtain ⟨v0, rfl⟩ := arr1 hlen.1
  obtain ⟨d0, rfl⟩ := list1 hlen.2
  obtain ⟨lx, rfl, ex, hlx⟩ := ok_ints (Or.inl ⟨_, Try.underlying38⟩) ct38 cn38 (fun u hu => by rw [List.eq_of_mem_replicate hu]; exact Try.underlying2) (hval 0 38 v0 rfl rfl)
  obtain ⟨x0, x1, x2, x3, x4, x5, x6, rfl⟩ := list7 (ex.trans (by simp))
  have hx0 : I64 x0 := hlx _ (by simp)
  have hx1 : I64 x1 := hlx _ (by simp)
  have hx2 : I64 x2 := hlx _ (by simp)
  have hx3 : I64 x3 := hlx _ (by simp)
  have hx4 : I64 x4 := hlx _ (by simp)
  have hx5 : I64 x5 := hlx _ (by simp)
  have hx6 : I64 x6 := hlx _ (by simp)
  refine (turnGaps_walk x0 x1 x2 x3 x4 x5 x6 hx0 hx1 hx2 hx3 hx4 hx5 hx6 W).mono fun e W' ⟨he, hb⟩ => ?_
  subst he
  exact ⟨_, rfl, law_post (f := Try.f8) (s := Rows.turnGapsSpec) (tb := 4) laidOut typed' rfl (by kernel_rfl) Try.underlying4 hW' ⟨rfl, rfl, rfl⟩ hb⟩

theorem k0 : (Rows.turnGapsRow.wf (OpenSpec.ofChange Rows.turnGapsSpec)) = true := by kernel_rfl
theorem k3 : (Try.f8.params.all (Try.prog.readableRec ·)) = true := by kernel_rfl
theorem k4 : (namedTie Try.prog Rows.turnGapsRow.named Rows.turnGapsSpec.vars) = true := by kernel_rfl
theorem k5 : (Rows.turnGapsRow.stops == []) = true := by kernel_rfl
theorem k7 : (Rows.turnGapsRow.knobs == []) = true := by kernel_rfl
theorem k9 : (Rows.turnGapsRow.inPlace == Try.prog.inPlace 8) = true := by kernel_rfl
theorem k10 : (Rows.turnGapsRow.unfollowed == Try.prog.unfollowed 8) = true := by kernel_rfl
theorem k11 : (Rows.turnGapsRow.recurses == Try.prog.recurses 8) = true := by kernel_rfl
theorem k12 : (Rows.turnGapsRow.named == Try.prog.varsNamed 8) = true := by kernel_rfl
theorem k13 : (Rows.turnGapsRow.maps == (Try.f8.params.toList ++ Rows.turnGapsSpec.plain.varTypes Try.prog).any (Try.prog.mapsRec ·)) = true := by kernel_rfl
theorem k14 : (Rows.turnGapsRow.ifaces == (Try.f8.params.toList ++ Rows.turnGapsSpec.plain.varTypes Try.prog).any (Try.prog.ifacesRec ·)) = true := by kernel_rfl
theorem k15 : (Rows.turnGapsRow.mapsOut == Try.prog.mapsAmong Try.f8.resultTypes.toList) = true := by kernel_rfl
theorem k16 : (Rows.turnGapsRow.loops == (Try.f8.params.toList ++ Rows.turnGapsSpec.plain.varTypes Try.prog).any (Try.prog.loopsFrom ·)) = true := by kernel_rfl
theorem k17 : (Rows.turnGapsRow.wideKeys == (Try.f8.params.toList ++ Rows.turnGapsSpec.plain.varTypes Try.prog ++ Try.f8.resultTypes.toList).any (Try.prog.wideKeysFrom ·)) = true := by kernel_rfl
theorem k18 : (Rows.turnGapsSpec.vars.all (Try.prog.varReadable ·)) = true := by kernel_rfl
theorem k19 : (Try.f8.resultTypes.all (fun t => Try.prog.readableRec t && decide (t < Try.prog.types.size))) = true := by kernel_rfl
theorem k20 : (Rows.turnGapsRow.ifacesOut == Try.f8.resultTypes.toList.any (Try.prog.ifacesRec ·)) = true := by kernel_rfl
theorem k21 : (Rows.turnGapsRow.loopsOut == Try.f8.resultTypes.toList.any (Try.prog.loopsFrom ·)) = true := by kernel_rfl
theorem k22 : (Rows.turnGapsRow.plainKeys == Try.prog.plainKeys) = true := by kernel_rfl
theorem k23 : (Rows.turnGapsRow.shortTexts.isNone) = true := by kernel_rfl
theorem k26 : (Rows.turnGapsRow.lifted == Try.prog.liftsFinal) = true := by rw [pf_lifts]; rfl
theorem k27 : (Try.prog.make == some Rows.turnGapsRow.make) = true := by rw [pf_make]; rfl
theorem k28 : (Rows.turnGapsRow.kinds == (if Rows.turnGapsRow.domain.isEmpty then [] else Try.f8.params.toList.map fun t => match Try.prog.underlying t with | some (.int k) => some k | _ => none)) = true := by kernel_rfl
theorem k29 : (Rows.turnGapsRow.pinned == Rows.turnGapsRow.pinnedBy) = true := by kernel_rfl
theorem k30 : (Rows.turnGapsRow.veiled == (Try.f8.params.toList ++ Rows.turnGapsSpec.plain.varTypes Try.prog ++ Try.f8.resultTypes.toList).any (Try.prog.veiledRec ·)) = true := by kernel_rfl
theorem k31 : (Rows.turnGapsRow.veiledFits Try.prog Try.f8.params.toList (Try.f8.params.toList ++ Rows.turnGapsSpec.plain.varTypes Try.prog ++ Try.f8.resultTypes.toList)) = true := by kernel_rfl
set_option maxRecDepth 100000 in
theorem closed : joinedFacts Try.prog 8 Try.f8 Rows.turnGapsSpec Rows.turnGapsRow = true := (band (band (band (band (band (band (band (band (band (band (band (band (band (band (band (band (band (band (band (band (band (band (band (band (band (band (band (band (band (band (band k0 pf_laid) pf_maps) k3) k4) k5) pf_stops) k7) pf_knobs) k9) k10) k11) k12) k13) k14) k15) k16) k17) k18) k19) k20) k21) k22) k23) pf_heard) pf_enter) k26) k27) k28) k29) k30) k31)
theorem byName : Try.prog.funcNamed Rows.turnGapsRow.func = some 8 := by kernel_rfl
theorem inst : Try.f8.isInstance Try.prog Rows.turnGapsRow.origin Rows.turnGapsRow.targs := of_decide_eq_true (by kernel_rfl)
theorem over : Rows.turnGapsRow.holds Try.pinned (OpenSpec.ofChange Rows.turnGapsSpec) :=
  OpenClaim.holds_of_wide 8 Try.f8 rfl rfl rfl rfl rfl rfl rfl ⟨rfl, rfl, rfl, rfl, rfl⟩ rfl rfl rfl rfl rfl byName Try.func8 closed
    inst (by unfold Func.isWrapper; rw [if_neg (of_decide_eq_false (by kernel_rfl))]; exact ⟨rfl, rfl⟩)
    (fun os started H enc _ => lifted os started H enc)

/-- The given statement. -/
theorem proved : Rows.TurnGapsSaid := over
end Go.Proofs.Yteedgcffdgkicaa.turnGaps

