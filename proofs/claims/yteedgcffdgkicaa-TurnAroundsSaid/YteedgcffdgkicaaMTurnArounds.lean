/-
  The walk of the law TurnArounds.
-/
import Derived.Test.YteedgcffdgkicaaMAwakeT2
import Derived.Test.YteedgcffdgkicaaMTurnDr2
import Derived.Test.YteedgcffdgkicaaRows
import Derived.Test.YteedgcffdgkicaaMFrame
namespace Go.Proofs.Yteedgcffdgkicaa
open Go.RowKit
set_option linter.unusedVariables false
set_option linter.unusedSimpArgs false
set_option maxRecDepth 100000 in
set_option maxHeartbeats 4000000 in
theorem turnArounds_walk (ax ay bx b_y cx cy r : Int) (right : Bool) (hax : I64 ax) (hay : I64 ay) (hbx : I64 bx) (hb_y : I64 b_y) (hcx : I64 cx) (hcy : I64 cy) (hr : I64 r) (w : World) :
    Calls Try.prog 10 #[.agg #[.int .i64 ax, .int .i64 ay, .int .i64 bx, .int .i64 b_y, .int .i64 cx, .int .i64 cy, .int .i64 r], .bool right] w fun e w' => e = .returned (.bool true) ∧ Below w.heap.size w w' := by
  rcases right with _ | _
  · obtain ⟨v0, v1, v2, v3, v4, E, hR⟩ := around_cells ax ay bx b_y cx cy false
    by_cases hE : E = 0
    · subst hE
      obtain ⟨⟨X, Y, C, hA⟩, ⟨U, V, D, hT⟩, ⟨⟨a1, a2⟩, a3, a4⟩, ⟨b1, b2⟩, b3, b4⟩ := around_at hR
      have HR := hide hR
      have TL := fun W => tlen_any v0 v1 v2 v3 v4 W
      clear hR
      generalize arcLen v0 v1 v2 v3 v4 = n at *
      obtain ⟨F, hA, hF⟩ : ∃ F, (X, Y, C, F) = arcAt v0 v1 v2 v3 v4 0 ∧ ((F = 0 ∧ (X - ax ≤ 4 ∧ ax - X ≤ 4) ∧ (Y - ay ≤ 4 ∧ ay - Y ≤ 4)) ∨ F = 2) := by
        rcases hA with ⟨h, k⟩ | h
        · exact ⟨0, h, .inl ⟨rfl, k⟩⟩
        · exact ⟨2, h, .inr rfl⟩
      obtain ⟨G, hT, hG⟩ : ∃ G, (U, V, D, G) = arcAt v0 v1 v2 v3 v4 n ∧ ((G = 0 ∧ (U - cx ≤ 12 ∧ cx - U ≤ 12) ∧ (V - cy ≤ 12 ∧ cy - V ≤ 12)) ∨ G = 2) := by
        rcases hT with ⟨h, k⟩ | h
        · exact ⟨0, h, .inl ⟨rfl, k⟩⟩
        · exact ⟨2, h, .inr rfl⟩
      have HA := hide hA
      have TA := fun W => arcat_any v0 v1 v2 v3 v4 n W (U, V, D, G) hT
      clear hA hT
      go_enter Try.func10, Try.ntmps10
      go_wp2_with fail
      refine (awake12_any _).mono ?_
      rintro e w1 ⟨rfl, hb1⟩
      obtain ⟨f1, f2, f3, f4, f5, f6, f7⟩ : w1.cell? ⟨w.heap.size, 0, none⟩ = some (.int .i64 ax) ∧ w1.cell? ⟨w.heap.size, 1, none⟩ = some (.int .i64 ay) ∧ w1.cell? ⟨w.heap.size, 2, none⟩ = some (.int .i64 bx) ∧ w1.cell? ⟨w.heap.size, 3, none⟩ = some (.int .i64 b_y) ∧ w1.cell? ⟨w.heap.size, 4, none⟩ = some (.int .i64 cx) ∧ w1.cell? ⟨w.heap.size, 5, none⟩ = some (.int .i64 cy) ∧ w1.cell? ⟨w.heap.size, 6, none⟩ = some (.int .i64 r) := by
        refine ⟨?_, ?_, ?_, ?_, ?_, ?_, ?_⟩ <;> (refine cell_below hb1 ?_; repeat (first | (with_reducible assumption) | ((with_reducible refine cell_set ?_ ?_ _); (· first | (simp; done) | (simp; omega) | omega)) | ((with_reducible refine cell_new ?_ ?_); (· (simp; done)); (· rfl)) | (with_reducible refine cell_alloc ?_ _) | (with_reducible refine cell_drew ?_) | (with_reducible refine cell_drewN ?_ _) | (with_reducible refine cell_below (by assumption) ?_)))
      have zf1 : w.heap.size < w1.heap.size := World.block_lt_of_cell? _ _ f1
      go_wp2_with fail
      refine (around_l ax ay bx b_y cx cy _ v0 v1 v2 v3 v4 0 HR.out).mono ?_
      rintro e w2 ⟨rfl, hb2⟩
      obtain ⟨f8, f9, f10, f11, f12, f13, f14⟩ : w2.cell? ⟨w.heap.size, 0, none⟩ = some (.int .i64 ax) ∧ w2.cell? ⟨w.heap.size, 1, none⟩ = some (.int .i64 ay) ∧ w2.cell? ⟨w.heap.size, 2, none⟩ = some (.int .i64 bx) ∧ w2.cell? ⟨w.heap.size, 3, none⟩ = some (.int .i64 b_y) ∧ w2.cell? ⟨w.heap.size, 4, none⟩ = some (.int .i64 cx) ∧ w2.cell? ⟨w.heap.size, 5, none⟩ = some (.int .i64 cy) ∧ w2.cell? ⟨w.heap.size, 6, none⟩ = some (.int .i64 r) := by
        refine ⟨?_, ?_, ?_, ?_, ?_, ?_, ?_⟩ <;> (refine cell_below hb2 ?_; repeat (first | (with_reducible assumption) | ((with_reducible refine cell_set ?_ ?_ _); (· first | (simp; done) | (simp; omega) | omega)) | ((with_reducible refine cell_new ?_ ?_); (· (simp; done)); (· rfl)) | (with_reducible refine cell_alloc ?_ _) | (with_reducible refine cell_drew ?_) | (with_reducible refine cell_drewN ?_ _) | (with_reducible refine cell_below (by assumption) ?_)))
      have zf8 : w.heap.size < w2.heap.size := World.block_lt_of_cell? _ _ f8
      clear f1 zf1 f2 f3 f4 f5 f6 f7
      go_wp2_with fail
      refine (raround_l ax ay bx b_y cx cy _ v0 v1 v2 v3 v4 0 HR.out).mono ?_
      rintro e w3 ⟨rfl, hb3⟩
      obtain ⟨f15, f16, f17, f18, f19, f20, f21, f22, f23, f24, f25, f26⟩ : w3.cell? ⟨w.heap.size, 0, none⟩ = some (.int .i64 ax) ∧ w3.cell? ⟨w.heap.size, 1, none⟩ = some (.int .i64 ay) ∧ w3.cell? ⟨w.heap.size, 2, none⟩ = some (.int .i64 bx) ∧ w3.cell? ⟨w.heap.size, 3, none⟩ = some (.int .i64 b_y) ∧ w3.cell? ⟨w.heap.size, 4, none⟩ = some (.int .i64 cx) ∧ w3.cell? ⟨w.heap.size, 5, none⟩ = some (.int .i64 cy) ∧ w3.cell? ⟨w.heap.size, 6, none⟩ = some (.int .i64 r) ∧ w3.cell? ⟨w2.heap.size, 0, none⟩ = some (.int .i64 v0) ∧ w3.cell? ⟨w2.heap.size, 1, none⟩ = some (.int .i64 v1) ∧ w3.cell? ⟨w2.heap.size, 2, none⟩ = some (.int .i64 v2) ∧ w3.cell? ⟨w2.heap.size, 3, none⟩ = some (.int .i64 v3) ∧ w3.cell? ⟨w2.heap.size, 4, none⟩ = some (.int .i64 v4) := by
        refine ⟨?_, ?_, ?_, ?_, ?_, ?_, ?_, ?_, ?_, ?_, ?_, ?_⟩ <;> (refine cell_below hb3 ?_; repeat (first | (with_reducible assumption) | ((with_reducible refine cell_set ?_ ?_ _); (· first | (simp; done) | (simp; omega) | omega)) | ((with_reducible refine cell_new ?_ ?_); (· (simp; done)); (· rfl)) | (with_reducible refine cell_alloc ?_ _) | (with_reducible refine cell_drew ?_) | (with_reducible refine cell_drewN ?_ _) | (with_reducible refine cell_below (by assumption) ?_)))
      have zf15 : w.heap.size < w3.heap.size := World.block_lt_of_cell? _ _ f15
      have zf22 : w2.heap.size < w3.heap.size := World.block_lt_of_cell? _ _ f22
      clear f8 zf8 f9 f10 f11 f12 f13 f14
      go_wp2_with fail
      refine (arcat_any v0 v1 v2 v3 v4 0 _ (X, Y, C, F) HA.out).mono ?_
      rintro e w4 ⟨rfl, hb4⟩
      obtain ⟨f27, f28, f29, f30, f31, f32, f33, f34, f35, f36, f37, f38, f39, f40, f41, f42, f43⟩ : w4.cell? ⟨w.heap.size, 0, none⟩ = some (.int .i64 ax) ∧ w4.cell? ⟨w.heap.size, 1, none⟩ = some (.int .i64 ay) ∧ w4.cell? ⟨w.heap.size, 2, none⟩ = some (.int .i64 bx) ∧ w4.cell? ⟨w.heap.size, 3, none⟩ = some (.int .i64 b_y) ∧ w4.cell? ⟨w.heap.size, 4, none⟩ = some (.int .i64 cx) ∧ w4.cell? ⟨w.heap.size, 5, none⟩ = some (.int .i64 cy) ∧ w4.cell? ⟨w.heap.size, 6, none⟩ = some (.int .i64 r) ∧ w4.cell? ⟨w2.heap.size, 0, none⟩ = some (.int .i64 v0) ∧ w4.cell? ⟨w2.heap.size, 1, none⟩ = some (.int .i64 v1) ∧ w4.cell? ⟨w2.heap.size, 2, none⟩ = some (.int .i64 v2) ∧ w4.cell? ⟨w2.heap.size, 3, none⟩ = some (.int .i64 v3) ∧ w4.cell? ⟨w2.heap.size, 4, none⟩ = some (.int .i64 v4) ∧ w4.cell? ⟨w3.heap.size, 0, none⟩ = some (.int .i64 v0) ∧ w4.cell? ⟨w3.heap.size, 1, none⟩ = some (.int .i64 v1) ∧ w4.cell? ⟨w3.heap.size, 2, none⟩ = some (.int .i64 v2) ∧ w4.cell? ⟨w3.heap.size, 3, none⟩ = some (.int .i64 v3) ∧ w4.cell? ⟨w3.heap.size, 4, none⟩ = some (.int .i64 v4) := by
        refine ⟨?_, ?_, ?_, ?_, ?_, ?_, ?_, ?_, ?_, ?_, ?_, ?_, ?_, ?_, ?_, ?_, ?_⟩ <;> (refine cell_below hb4 ?_; repeat (first | (with_reducible assumption) | ((with_reducible refine cell_set ?_ ?_ _); (· first | (simp; done) | (simp; omega) | omega)) | ((with_reducible refine cell_new ?_ ?_); (· (simp; done)); (· rfl)) | (with_reducible refine cell_alloc ?_ _) | (with_reducible refine cell_drew ?_) | (with_reducible refine cell_drewN ?_ _) | (with_reducible refine cell_below (by assumption) ?_)))
      have zf27 : w.heap.size < w4.heap.size := World.block_lt_of_cell? _ _ f27
      have zf34 : w2.heap.size < w4.heap.size := World.block_lt_of_cell? _ _ f34
      have zf39 : w3.heap.size < w4.heap.size := World.block_lt_of_cell? _ _ f39
      clear f15 zf15 f16 f17 f18 f19 f20 f21 f22 zf22 f23 f24 f25 f26
      go_wp2_with fail
      generalize hwwp : w4.alloc (.cells #[.int .i64 X, .int .i64 Y] 23) = wp
      have x44 : wp.cell? ⟨w.heap.size, 0, none⟩ = some (.int .i64 ax) := by
        rw [← hwwp]; exact cell_alloc f27 _
      have x45 : wp.cell? ⟨w.heap.size, 1, none⟩ = some (.int .i64 ay) := by
        rw [← hwwp]; exact cell_alloc f28 _
      have x46 : wp.cell? ⟨w.heap.size, 2, none⟩ = some (.int .i64 bx) := by
        rw [← hwwp]; exact cell_alloc f29 _
      have x47 : wp.cell? ⟨w.heap.size, 3, none⟩ = some (.int .i64 b_y) := by
        rw [← hwwp]; exact cell_alloc f30 _
      have x48 : wp.cell? ⟨w.heap.size, 4, none⟩ = some (.int .i64 cx) := by
        rw [← hwwp]; exact cell_alloc f31 _
      have x49 : wp.cell? ⟨w.heap.size, 5, none⟩ = some (.int .i64 cy) := by
        rw [← hwwp]; exact cell_alloc f32 _
      have x50 : wp.cell? ⟨w.heap.size, 6, none⟩ = some (.int .i64 r) := by
        rw [← hwwp]; exact cell_alloc f33 _
      have x51 : wp.cell? ⟨w2.heap.size, 0, none⟩ = some (.int .i64 v0) := by
        rw [← hwwp]; exact cell_alloc f34 _
      have x52 : wp.cell? ⟨w2.heap.size, 1, none⟩ = some (.int .i64 v1) := by
        rw [← hwwp]; exact cell_alloc f35 _
      have x53 : wp.cell? ⟨w2.heap.size, 2, none⟩ = some (.int .i64 v2) := by
        rw [← hwwp]; exact cell_alloc f36 _
      have x54 : wp.cell? ⟨w2.heap.size, 3, none⟩ = some (.int .i64 v3) := by
        rw [← hwwp]; exact cell_alloc f37 _
      have x55 : wp.cell? ⟨w2.heap.size, 4, none⟩ = some (.int .i64 v4) := by
        rw [← hwwp]; exact cell_alloc f38 _
      have x56 : wp.cell? ⟨w3.heap.size, 0, none⟩ = some (.int .i64 v0) := by
        rw [← hwwp]; exact cell_alloc f39 _
      have x57 : wp.cell? ⟨w3.heap.size, 1, none⟩ = some (.int .i64 v1) := by
        rw [← hwwp]; exact cell_alloc f40 _
      have x58 : wp.cell? ⟨w3.heap.size, 2, none⟩ = some (.int .i64 v2) := by
        rw [← hwwp]; exact cell_alloc f41 _
      have x59 : wp.cell? ⟨w3.heap.size, 3, none⟩ = some (.int .i64 v3) := by
        rw [← hwwp]; exact cell_alloc f42 _
      have x60 : wp.cell? ⟨w3.heap.size, 4, none⟩ = some (.int .i64 v4) := by
        rw [← hwwp]; exact cell_alloc f43 _
      have x61 : wp.cell? ⟨w4.heap.size, 0, none⟩ = some (.int .i64 X) := by
        rw [← hwwp]; exact cell_new rfl rfl
      have x62 : wp.cell? ⟨w4.heap.size, 1, none⟩ = some (.int .i64 Y) := by
        rw [← hwwp]; exact cell_new rfl rfl
      have Bwp : Below w.heap.size w wp := by
        rw [← hwwp]
        (repeat (with_reducible (first | assumption | exact Below.refl _ _ | refine Below.drew ?_ | refine below_drewN ?_ _ | refine below_set ?_ (by simp; try omega) _ | refine below_alloc ?_ (Nat.le_refl _) _ | refine below_sub (by assumption) ?_)))
      clear f27 zf27 f28 f29 f30 f31 f32 f33 f34 zf34 f35 f36 f37 f38 f39 zf39 f40 f41 f42 f43 hwwp
      have zzx44 : w.heap.size < wp.heap.size := World.block_lt_of_cell? _ _ x44
      have zzx51 : w2.heap.size < wp.heap.size := World.block_lt_of_cell? _ _ x51
      have zzx56 : w3.heap.size < wp.heap.size := World.block_lt_of_cell? _ _ x56
      have zzx61 : w4.heap.size < wp.heap.size := World.block_lt_of_cell? _ _ x61
      go_cut [13, 15] (fun sA sB wx => ∃ (g : Nat) (wz : World), sA = .pointer (some ⟨g, 0, none⟩) ∧ sB = .int .i64 G ∧ wz = wx ∧ (wz.cell? ⟨g, 0, none⟩ = some (.int .i64 U) ∧ wz.cell? ⟨g, 1, none⟩ = some (.int .i64 V)) ∧ Below (wp).heap.size (wp) wz)
      case first =>
        go_region_with (first
          | (go_at_call 23; refine (TL _).mono ?_; rintro e wL ⟨rfl, hL⟩; have hzL := hL.size; refine (fun hT0 => ?_) (cell_below hL (b := w2.heap.size) (o := 0) (v := .int .i64 v0) ?_); rotate_left; (· (repeat (first | (with_reducible assumption) | ((with_reducible refine cell_set ?_ ?_ _); (· first | (simp; done) | (simp; omega) | omega)) | ((with_reducible refine cell_new ?_ ?_); (· (simp; done)); (· rfl)) | (with_reducible refine cell_alloc ?_ _) | (with_reducible refine cell_drew ?_) | (with_reducible refine cell_drewN ?_ _) | (with_reducible refine cell_below (by assumption) ?_)))); refine (fun hT1 => ?_) (cell_below hL (b := w2.heap.size) (o := 1) (v := .int .i64 v1) ?_); rotate_left; (· (repeat (first | (with_reducible assumption) | ((with_reducible refine cell_set ?_ ?_ _); (· first | (simp; done) | (simp; omega) | omega)) | ((with_reducible refine cell_new ?_ ?_); (· (simp; done)); (· rfl)) | (with_reducible refine cell_alloc ?_ _) | (with_reducible refine cell_drew ?_) | (with_reducible refine cell_drewN ?_ _) | (with_reducible refine cell_below (by assumption) ?_)))); refine (fun hT2 => ?_) (cell_below hL (b := w2.heap.size) (o := 2) (v := .int .i64 v2) ?_); rotate_left; (· (repeat (first | (with_reducible assumption) | ((with_reducible refine cell_set ?_ ?_ _); (· first | (simp; done) | (simp; omega) | omega)) | ((with_reducible refine cell_new ?_ ?_); (· (simp; done)); (· rfl)) | (with_reducible refine cell_alloc ?_ _) | (with_reducible refine cell_drew ?_) | (with_reducible refine cell_drewN ?_ _) | (with_reducible refine cell_below (by assumption) ?_)))); refine (fun hT3 => ?_) (cell_below hL (b := w2.heap.size) (o := 3) (v := .int .i64 v3) ?_); rotate_left; (· (repeat (first | (with_reducible assumption) | ((with_reducible refine cell_set ?_ ?_ _); (· first | (simp; done) | (simp; omega) | omega)) | ((with_reducible refine cell_new ?_ ?_); (· (simp; done)); (· rfl)) | (with_reducible refine cell_alloc ?_ _) | (with_reducible refine cell_drew ?_) | (with_reducible refine cell_drewN ?_ _) | (with_reducible refine cell_below (by assumption) ?_)))); refine (fun hT4 => ?_) (cell_below hL (b := w2.heap.size) (o := 4) (v := .int .i64 v4) ?_); rotate_left; (· (repeat (first | (with_reducible assumption) | ((with_reducible refine cell_set ?_ ?_ _); (· first | (simp; done) | (simp; omega) | omega)) | ((with_reducible refine cell_new ?_ ?_); (· (simp; done)); (· rfl)) | (with_reducible refine cell_alloc ?_ _) | (with_reducible refine cell_drew ?_) | (with_reducible refine cell_drewN ?_ _) | (with_reducible refine cell_below (by assumption) ?_)))); have hTz := World.block_lt_of_cell? _ _ hT0; refine (fun hzM => ?_) (Nat.le_trans ?_ hL.size : (wp).heap.size ≤ wL.heap.size); rotate_left; (· first | exact Nat.le_refl _ | (simp; done) | (simp; omega)); try (refine (fun n0 => ?_) (mine_below hL (a := ⟨wp.heap.size, 0, none⟩) ?_); rotate_left; (· first | (refine ⟨?_, ?_⟩ <;> (with_reducible assumption)) | (refine mine_of (v := .int .i64 0) ?_ ?_ <;> (simp [go_sem]; done))); obtain ⟨n0a, n0b⟩ := n0; refine (fun n1 => ?_) (mine_below hL (a := ⟨wp.heap.size, 1, none⟩) ?_); rotate_left; (· first | (refine ⟨?_, ?_⟩ <;> (with_reducible assumption)) | (refine mine_of (v := .int .i64 0) ?_ ?_ <;> (simp [go_sem]; done))); obtain ⟨n1a, n1b⟩ := n1))
          | (go_at_call 25; refine (TA _).mono ?_; rintro e w' ⟨rfl, hb'⟩; have hz' := hb'.size; try (first | (refine (fun n2 => ?_) (mine_below hb' (a := ⟨wp.heap.size, 0, none⟩) ?_); rotate_left; (· first | (refine ⟨?_, ?_⟩ <;> (with_reducible assumption)) | (refine mine_of (v := .int .i64 0) ?_ ?_ <;> (simp [go_sem]; done))); obtain ⟨n2a, n2b⟩ := n2; refine (fun n3 => ?_) (mine_below hb' (a := ⟨wp.heap.size, 1, none⟩) ?_); rotate_left; (· first | (refine ⟨?_, ?_⟩ <;> (with_reducible assumption)) | (refine mine_of (v := .int .i64 0) ?_ ?_ <;> (simp [go_sem]; done))); obtain ⟨n3a, n3b⟩ := n3) | (refine (fun n2 => ?_) (mine_below hb' (a := ⟨wL.heap.size, 0, none⟩) ?_); rotate_left; (· first | (refine ⟨?_, ?_⟩ <;> (with_reducible assumption)) | (refine mine_of (v := .int .i64 0) ?_ ?_ <;> (simp [go_sem]; done))); obtain ⟨n2a, n2b⟩ := n2; refine (fun n3 => ?_) (mine_below hb' (a := ⟨wL.heap.size, 1, none⟩) ?_); rotate_left; (· first | (refine ⟨?_, ?_⟩ <;> (with_reducible assumption)) | (refine mine_of (v := .int .i64 0) ?_ ?_ <;> (simp [go_sem]; done))); obtain ⟨n3a, n3b⟩ := n3))))
        all_goals
          go_wp2_with fail
          go_meet
          refine ⟨_, _, rfl, rfl, rfl, ?_, ?_⟩
          · constructor <;> (first | (simp [go_sem]; done) | (simp [go_sem, *]; done) | (simp [World.cell?_setCell, *]; done))
          · (repeat (with_reducible (first | assumption | exact Below.refl _ _ | refine Below.drew ?_ | refine below_drewN ?_ _ | refine below_set ?_ (by simp; try omega) _ | refine below_alloc ?_ (Nat.le_refl _) _ | refine below_sub (by assumption) ?_)))
      case rest =>
        obtain ⟨g9, wz, rfl, rfl, rfl, ⟨cg91, cg92⟩, hbcg9⟩ := hcut
        obtain ⟨t63, t64, t65, t66, t67, t68, t69, t70, t71, t72, t73, t74, t75, t76, t77, t78, t79, t80, t81⟩ : wz.cell? ⟨w.heap.size, 0, none⟩ = some (.int .i64 ax) ∧ wz.cell? ⟨w.heap.size, 1, none⟩ = some (.int .i64 ay) ∧ wz.cell? ⟨w.heap.size, 2, none⟩ = some (.int .i64 bx) ∧ wz.cell? ⟨w.heap.size, 3, none⟩ = some (.int .i64 b_y) ∧ wz.cell? ⟨w.heap.size, 4, none⟩ = some (.int .i64 cx) ∧ wz.cell? ⟨w.heap.size, 5, none⟩ = some (.int .i64 cy) ∧ wz.cell? ⟨w.heap.size, 6, none⟩ = some (.int .i64 r) ∧ wz.cell? ⟨w2.heap.size, 0, none⟩ = some (.int .i64 v0) ∧ wz.cell? ⟨w2.heap.size, 1, none⟩ = some (.int .i64 v1) ∧ wz.cell? ⟨w2.heap.size, 2, none⟩ = some (.int .i64 v2) ∧ wz.cell? ⟨w2.heap.size, 3, none⟩ = some (.int .i64 v3) ∧ wz.cell? ⟨w2.heap.size, 4, none⟩ = some (.int .i64 v4) ∧ wz.cell? ⟨w3.heap.size, 0, none⟩ = some (.int .i64 v0) ∧ wz.cell? ⟨w3.heap.size, 1, none⟩ = some (.int .i64 v1) ∧ wz.cell? ⟨w3.heap.size, 2, none⟩ = some (.int .i64 v2) ∧ wz.cell? ⟨w3.heap.size, 3, none⟩ = some (.int .i64 v3) ∧ wz.cell? ⟨w3.heap.size, 4, none⟩ = some (.int .i64 v4) ∧ wz.cell? ⟨w4.heap.size, 0, none⟩ = some (.int .i64 X) ∧ wz.cell? ⟨w4.heap.size, 1, none⟩ = some (.int .i64 Y) := by
          refine ⟨?_, ?_, ?_, ?_, ?_, ?_, ?_, ?_, ?_, ?_, ?_, ?_, ?_, ?_, ?_, ?_, ?_, ?_, ?_⟩ <;> (refine cell_below hbcg9 ?_; repeat (first | (with_reducible assumption) | ((with_reducible refine cell_set ?_ ?_ _); (· first | (simp; done) | (simp; omega) | omega)) | ((with_reducible refine cell_new ?_ ?_); (· (simp; done)); (· rfl)) | (with_reducible refine cell_alloc ?_ _) | (with_reducible refine cell_drew ?_) | (with_reducible refine cell_drewN ?_ _) | (with_reducible refine cell_below (by assumption) ?_)))
        have zt63 : w.heap.size < wz.heap.size := World.block_lt_of_cell? _ _ t63
        have zt70 : w2.heap.size < wz.heap.size := World.block_lt_of_cell? _ _ t70
        have zt75 : w3.heap.size < wz.heap.size := World.block_lt_of_cell? _ _ t75
        have zt80 : w4.heap.size < wz.heap.size := World.block_lt_of_cell? _ _ t80
        clear x44 zzx44 x45 x46 x47 x48 x49 x50 x51 zzx51 x52 x53 x54 x55 x56 zzx56 x57 x58 x59 x60 x61 zzx61 x62
        have zcg9 : g9 < wz.heap.size := World.block_lt_of_cell? _ _ cg91
        rcases hF with ⟨rfl, ⟨p1, p2⟩, p3, p4⟩ | rfl
        · rcases hG with ⟨rfl, ⟨q1, q2⟩, q3, q4⟩ | rfl
          · have hz := trivial
            go_wp2_with fail
            refine (beside_any X Y ax ay 4 (by omega) (by omega) (by omega) (by omega) (by omega) (by omega) (by omega) (by omega) (by omega) (by omega) (by omega) (by omega) _).mono ?_
            rintro e w5 ⟨rfl, hb5⟩
            obtain ⟨f82, f83, f84, f85, f86, f87, f88, f89, f90, f91, f92, f93, f94, f95, f96, f97, f98, f99, f100, f101, f102⟩ : w5.cell? ⟨w.heap.size, 0, none⟩ = some (.int .i64 ax) ∧ w5.cell? ⟨w.heap.size, 1, none⟩ = some (.int .i64 ay) ∧ w5.cell? ⟨w.heap.size, 2, none⟩ = some (.int .i64 bx) ∧ w5.cell? ⟨w.heap.size, 3, none⟩ = some (.int .i64 b_y) ∧ w5.cell? ⟨w.heap.size, 4, none⟩ = some (.int .i64 cx) ∧ w5.cell? ⟨w.heap.size, 5, none⟩ = some (.int .i64 cy) ∧ w5.cell? ⟨w.heap.size, 6, none⟩ = some (.int .i64 r) ∧ w5.cell? ⟨w2.heap.size, 0, none⟩ = some (.int .i64 v0) ∧ w5.cell? ⟨w2.heap.size, 1, none⟩ = some (.int .i64 v1) ∧ w5.cell? ⟨w2.heap.size, 2, none⟩ = some (.int .i64 v2) ∧ w5.cell? ⟨w2.heap.size, 3, none⟩ = some (.int .i64 v3) ∧ w5.cell? ⟨w2.heap.size, 4, none⟩ = some (.int .i64 v4) ∧ w5.cell? ⟨w3.heap.size, 0, none⟩ = some (.int .i64 v0) ∧ w5.cell? ⟨w3.heap.size, 1, none⟩ = some (.int .i64 v1) ∧ w5.cell? ⟨w3.heap.size, 2, none⟩ = some (.int .i64 v2) ∧ w5.cell? ⟨w3.heap.size, 3, none⟩ = some (.int .i64 v3) ∧ w5.cell? ⟨w3.heap.size, 4, none⟩ = some (.int .i64 v4) ∧ w5.cell? ⟨w4.heap.size, 0, none⟩ = some (.int .i64 X) ∧ w5.cell? ⟨w4.heap.size, 1, none⟩ = some (.int .i64 Y) ∧ w5.cell? ⟨g9, 0, none⟩ = some (.int .i64 U) ∧ w5.cell? ⟨g9, 1, none⟩ = some (.int .i64 V) := by
              refine ⟨?_, ?_, ?_, ?_, ?_, ?_, ?_, ?_, ?_, ?_, ?_, ?_, ?_, ?_, ?_, ?_, ?_, ?_, ?_, ?_, ?_⟩ <;> (refine cell_below hb5 ?_; repeat (first | (with_reducible assumption) | ((with_reducible refine cell_set ?_ ?_ _); (· first | (simp; done) | (simp; omega) | omega)) | ((with_reducible refine cell_new ?_ ?_); (· (simp; done)); (· rfl)) | (with_reducible refine cell_alloc ?_ _) | (with_reducible refine cell_drew ?_) | (with_reducible refine cell_drewN ?_ _) | (with_reducible refine cell_below (by assumption) ?_)))
            have zf82 : w.heap.size < w5.heap.size := World.block_lt_of_cell? _ _ f82
            have zf89 : w2.heap.size < w5.heap.size := World.block_lt_of_cell? _ _ f89
            have zf94 : w3.heap.size < w5.heap.size := World.block_lt_of_cell? _ _ f94
            have zf99 : w4.heap.size < w5.heap.size := World.block_lt_of_cell? _ _ f99
            have zf101 : g9 < w5.heap.size := World.block_lt_of_cell? _ _ f101
            clear t63 zt63 t64 t65 t66 t67 t68 t69 t70 zt70 t71 t72 t73 t74 t75 zt75 t76 t77 t78 t79 t80 zt80 t81 cg91 zcg9 cg92
            go_wp2_with fail
            refine (beside_any U V cx cy 12 (by omega) (by omega) (by omega) (by omega) (by omega) (by omega) (by omega) (by omega) (by omega) (by omega) (by omega) (by omega) _).mono ?_
            rintro e w6 ⟨rfl, hb6⟩
            obtain ⟨f103, f104, f105, f106, f107, f108, f109, f110, f111, f112, f113, f114, f115, f116, f117, f118, f119, f120, f121, f122, f123⟩ : w6.cell? ⟨w.heap.size, 0, none⟩ = some (.int .i64 ax) ∧ w6.cell? ⟨w.heap.size, 1, none⟩ = some (.int .i64 ay) ∧ w6.cell? ⟨w.heap.size, 2, none⟩ = some (.int .i64 bx) ∧ w6.cell? ⟨w.heap.size, 3, none⟩ = some (.int .i64 b_y) ∧ w6.cell? ⟨w.heap.size, 4, none⟩ = some (.int .i64 cx) ∧ w6.cell? ⟨w.heap.size, 5, none⟩ = some (.int .i64 cy) ∧ w6.cell? ⟨w.heap.size, 6, none⟩ = some (.int .i64 r) ∧ w6.cell? ⟨w2.heap.size, 0, none⟩ = some (.int .i64 v0) ∧ w6.cell? ⟨w2.heap.size, 1, none⟩ = some (.int .i64 v1) ∧ w6.cell? ⟨w2.heap.size, 2, none⟩ = some (.int .i64 v2) ∧ w6.cell? ⟨w2.heap.size, 3, none⟩ = some (.int .i64 v3) ∧ w6.cell? ⟨w2.heap.size, 4, none⟩ = some (.int .i64 v4) ∧ w6.cell? ⟨w3.heap.size, 0, none⟩ = some (.int .i64 v0) ∧ w6.cell? ⟨w3.heap.size, 1, none⟩ = some (.int .i64 v1) ∧ w6.cell? ⟨w3.heap.size, 2, none⟩ = some (.int .i64 v2) ∧ w6.cell? ⟨w3.heap.size, 3, none⟩ = some (.int .i64 v3) ∧ w6.cell? ⟨w3.heap.size, 4, none⟩ = some (.int .i64 v4) ∧ w6.cell? ⟨w4.heap.size, 0, none⟩ = some (.int .i64 X) ∧ w6.cell? ⟨w4.heap.size, 1, none⟩ = some (.int .i64 Y) ∧ w6.cell? ⟨g9, 0, none⟩ = some (.int .i64 U) ∧ w6.cell? ⟨g9, 1, none⟩ = some (.int .i64 V) := by
              refine ⟨?_, ?_, ?_, ?_, ?_, ?_, ?_, ?_, ?_, ?_, ?_, ?_, ?_, ?_, ?_, ?_, ?_, ?_, ?_, ?_, ?_⟩ <;> (refine cell_below hb6 ?_; repeat (first | (with_reducible assumption) | ((with_reducible refine cell_set ?_ ?_ _); (· first | (simp; done) | (simp; omega) | omega)) | ((with_reducible refine cell_new ?_ ?_); (· (simp; done)); (· rfl)) | (with_reducible refine cell_alloc ?_ _) | (with_reducible refine cell_drew ?_) | (with_reducible refine cell_drewN ?_ _) | (with_reducible refine cell_below (by assumption) ?_)))
            have zf103 : w.heap.size < w6.heap.size := World.block_lt_of_cell? _ _ f103
            have zf110 : w2.heap.size < w6.heap.size := World.block_lt_of_cell? _ _ f110
            have zf115 : w3.heap.size < w6.heap.size := World.block_lt_of_cell? _ _ f115
            have zf120 : w4.heap.size < w6.heap.size := World.block_lt_of_cell? _ _ f120
            have zf122 : g9 < w6.heap.size := World.block_lt_of_cell? _ _ f122
            clear f82 zf82 f83 f84 f85 f86 f87 f88 f89 zf89 f90 f91 f92 f93 f94 zf94 f95 f96 f97 f98 f99 zf99 f100 f101 zf101 f102
            go_wp2_with fail
            all_goals
              go_ret
              exact ⟨rfl, by (repeat (with_reducible (first | assumption | exact Below.refl _ _ | refine Below.drew ?_ | refine below_drewN ?_ _ | refine below_set ?_ (by simp; try omega) _ | refine below_alloc ?_ (Nat.le_refl _) _ | refine below_sub (by assumption) ?_)))⟩
          · have hz := trivial
            go_wp2_with fail
            refine (beside_any X Y ax ay 4 (by omega) (by omega) (by omega) (by omega) (by omega) (by omega) (by omega) (by omega) (by omega) (by omega) (by omega) (by omega) _).mono ?_
            rintro e w5 ⟨rfl, hb5⟩
            obtain ⟨f82, f83, f84, f85, f86, f87, f88, f89, f90, f91, f92, f93, f94, f95, f96, f97, f98, f99, f100, f101, f102⟩ : w5.cell? ⟨w.heap.size, 0, none⟩ = some (.int .i64 ax) ∧ w5.cell? ⟨w.heap.size, 1, none⟩ = some (.int .i64 ay) ∧ w5.cell? ⟨w.heap.size, 2, none⟩ = some (.int .i64 bx) ∧ w5.cell? ⟨w.heap.size, 3, none⟩ = some (.int .i64 b_y) ∧ w5.cell? ⟨w.heap.size, 4, none⟩ = some (.int .i64 cx) ∧ w5.cell? ⟨w.heap.size, 5, none⟩ = some (.int .i64 cy) ∧ w5.cell? ⟨w.heap.size, 6, none⟩ = some (.int .i64 r) ∧ w5.cell? ⟨w2.heap.size, 0, none⟩ = some (.int .i64 v0) ∧ w5.cell? ⟨w2.heap.size, 1, none⟩ = some (.int .i64 v1) ∧ w5.cell? ⟨w2.heap.size, 2, none⟩ = some (.int .i64 v2) ∧ w5.cell? ⟨w2.heap.size, 3, none⟩ = some (.int .i64 v3) ∧ w5.cell? ⟨w2.heap.size, 4, none⟩ = some (.int .i64 v4) ∧ w5.cell? ⟨w3.heap.size, 0, none⟩ = some (.int .i64 v0) ∧ w5.cell? ⟨w3.heap.size, 1, none⟩ = some (.int .i64 v1) ∧ w5.cell? ⟨w3.heap.size, 2, none⟩ = some (.int .i64 v2) ∧ w5.cell? ⟨w3.heap.size, 3, none⟩ = some (.int .i64 v3) ∧ w5.cell? ⟨w3.heap.size, 4, none⟩ = some (.int .i64 v4) ∧ w5.cell? ⟨w4.heap.size, 0, none⟩ = some (.int .i64 X) ∧ w5.cell? ⟨w4.heap.size, 1, none⟩ = some (.int .i64 Y) ∧ w5.cell? ⟨g9, 0, none⟩ = some (.int .i64 U) ∧ w5.cell? ⟨g9, 1, none⟩ = some (.int .i64 V) := by
              refine ⟨?_, ?_, ?_, ?_, ?_, ?_, ?_, ?_, ?_, ?_, ?_, ?_, ?_, ?_, ?_, ?_, ?_, ?_, ?_, ?_, ?_⟩ <;> (refine cell_below hb5 ?_; repeat (first | (with_reducible assumption) | ((with_reducible refine cell_set ?_ ?_ _); (· first | (simp; done) | (simp; omega) | omega)) | ((with_reducible refine cell_new ?_ ?_); (· (simp; done)); (· rfl)) | (with_reducible refine cell_alloc ?_ _) | (with_reducible refine cell_drew ?_) | (with_reducible refine cell_drewN ?_ _) | (with_reducible refine cell_below (by assumption) ?_)))
            have zf82 : w.heap.size < w5.heap.size := World.block_lt_of_cell? _ _ f82
            have zf89 : w2.heap.size < w5.heap.size := World.block_lt_of_cell? _ _ f89
            have zf94 : w3.heap.size < w5.heap.size := World.block_lt_of_cell? _ _ f94
            have zf99 : w4.heap.size < w5.heap.size := World.block_lt_of_cell? _ _ f99
            have zf101 : g9 < w5.heap.size := World.block_lt_of_cell? _ _ f101
            clear t63 zt63 t64 t65 t66 t67 t68 t69 t70 zt70 t71 t72 t73 t74 t75 zt75 t76 t77 t78 t79 t80 zt80 t81 cg91 zcg9 cg92
            go_wp2_with fail
            all_goals
              go_ret
              exact ⟨rfl, by (repeat (with_reducible (first | assumption | exact Below.refl _ _ | refine Below.drew ?_ | refine below_drewN ?_ _ | refine below_set ?_ (by simp; try omega) _ | refine below_alloc ?_ (Nat.le_refl _) _ | refine below_sub (by assumption) ?_)))⟩
        · rcases hG with ⟨rfl, ⟨q1, q2⟩, q3, q4⟩ | rfl
          · have hz := trivial
            go_wp2_with fail
            refine (beside_any U V cx cy 12 (by omega) (by omega) (by omega) (by omega) (by omega) (by omega) (by omega) (by omega) (by omega) (by omega) (by omega) (by omega) _).mono ?_
            rintro e w5 ⟨rfl, hb5⟩
            obtain ⟨f82, f83, f84, f85, f86, f87, f88, f89, f90, f91, f92, f93, f94, f95, f96, f97, f98, f99, f100, f101, f102⟩ : w5.cell? ⟨w.heap.size, 0, none⟩ = some (.int .i64 ax) ∧ w5.cell? ⟨w.heap.size, 1, none⟩ = some (.int .i64 ay) ∧ w5.cell? ⟨w.heap.size, 2, none⟩ = some (.int .i64 bx) ∧ w5.cell? ⟨w.heap.size, 3, none⟩ = some (.int .i64 b_y) ∧ w5.cell? ⟨w.heap.size, 4, none⟩ = some (.int .i64 cx) ∧ w5.cell? ⟨w.heap.size, 5, none⟩ = some (.int .i64 cy) ∧ w5.cell? ⟨w.heap.size, 6, none⟩ = some (.int .i64 r) ∧ w5.cell? ⟨w2.heap.size, 0, none⟩ = some (.int .i64 v0) ∧ w5.cell? ⟨w2.heap.size, 1, none⟩ = some (.int .i64 v1) ∧ w5.cell? ⟨w2.heap.size, 2, none⟩ = some (.int .i64 v2) ∧ w5.cell? ⟨w2.heap.size, 3, none⟩ = some (.int .i64 v3) ∧ w5.cell? ⟨w2.heap.size, 4, none⟩ = some (.int .i64 v4) ∧ w5.cell? ⟨w3.heap.size, 0, none⟩ = some (.int .i64 v0) ∧ w5.cell? ⟨w3.heap.size, 1, none⟩ = some (.int .i64 v1) ∧ w5.cell? ⟨w3.heap.size, 2, none⟩ = some (.int .i64 v2) ∧ w5.cell? ⟨w3.heap.size, 3, none⟩ = some (.int .i64 v3) ∧ w5.cell? ⟨w3.heap.size, 4, none⟩ = some (.int .i64 v4) ∧ w5.cell? ⟨w4.heap.size, 0, none⟩ = some (.int .i64 X) ∧ w5.cell? ⟨w4.heap.size, 1, none⟩ = some (.int .i64 Y) ∧ w5.cell? ⟨g9, 0, none⟩ = some (.int .i64 U) ∧ w5.cell? ⟨g9, 1, none⟩ = some (.int .i64 V) := by
              refine ⟨?_, ?_, ?_, ?_, ?_, ?_, ?_, ?_, ?_, ?_, ?_, ?_, ?_, ?_, ?_, ?_, ?_, ?_, ?_, ?_, ?_⟩ <;> (refine cell_below hb5 ?_; repeat (first | (with_reducible assumption) | ((with_reducible refine cell_set ?_ ?_ _); (· first | (simp; done) | (simp; omega) | omega)) | ((with_reducible refine cell_new ?_ ?_); (· (simp; done)); (· rfl)) | (with_reducible refine cell_alloc ?_ _) | (with_reducible refine cell_drew ?_) | (with_reducible refine cell_drewN ?_ _) | (with_reducible refine cell_below (by assumption) ?_)))
            have zf82 : w.heap.size < w5.heap.size := World.block_lt_of_cell? _ _ f82
            have zf89 : w2.heap.size < w5.heap.size := World.block_lt_of_cell? _ _ f89
            have zf94 : w3.heap.size < w5.heap.size := World.block_lt_of_cell? _ _ f94
            have zf99 : w4.heap.size < w5.heap.size := World.block_lt_of_cell? _ _ f99
            have zf101 : g9 < w5.heap.size := World.block_lt_of_cell? _ _ f101
            clear t63 zt63 t64 t65 t66 t67 t68 t69 t70 zt70 t71 t72 t73 t74 t75 zt75 t76 t77 t78 t79 t80 zt80 t81 cg91 zcg9 cg92
            go_wp2_with fail
            all_goals
              go_ret
              exact ⟨rfl, by (repeat (with_reducible (first | assumption | exact Below.refl _ _ | refine Below.drew ?_ | refine below_drewN ?_ _ | refine below_set ?_ (by simp; try omega) _ | refine below_alloc ?_ (Nat.le_refl _) _ | refine below_sub (by assumption) ?_)))⟩
          · have hz := trivial
            go_wp2_with fail
            all_goals
              go_ret
              exact ⟨rfl, by (repeat (with_reducible (first | assumption | exact Below.refl _ _ | refine Below.drew ?_ | refine below_drewN ?_ _ | refine below_set ?_ (by simp; try omega) _ | refine below_alloc ?_ (Nat.le_refl _) _ | refine below_sub (by assumption) ?_)))⟩
    · have T : (E != 0) = true := by rw [bne_iff_ne]; exact hE
      have HR := hide hR
      clear hR hE
      go_enter Try.func10, Try.ntmps10
      go_wp2_with fail
      refine (awake12_any _).mono ?_
      rintro e w1 ⟨rfl, hb1⟩
      obtain ⟨f1, f2, f3, f4, f5, f6, f7⟩ : w1.cell? ⟨w.heap.size, 0, none⟩ = some (.int .i64 ax) ∧ w1.cell? ⟨w.heap.size, 1, none⟩ = some (.int .i64 ay) ∧ w1.cell? ⟨w.heap.size, 2, none⟩ = some (.int .i64 bx) ∧ w1.cell? ⟨w.heap.size, 3, none⟩ = some (.int .i64 b_y) ∧ w1.cell? ⟨w.heap.size, 4, none⟩ = some (.int .i64 cx) ∧ w1.cell? ⟨w.heap.size, 5, none⟩ = some (.int .i64 cy) ∧ w1.cell? ⟨w.heap.size, 6, none⟩ = some (.int .i64 r) := by
        refine ⟨?_, ?_, ?_, ?_, ?_, ?_, ?_⟩ <;> (refine cell_below hb1 ?_; repeat (first | (with_reducible assumption) | ((with_reducible refine cell_set ?_ ?_ _); (· first | (simp; done) | (simp; omega) | omega)) | ((with_reducible refine cell_new ?_ ?_); (· (simp; done)); (· rfl)) | (with_reducible refine cell_alloc ?_ _) | (with_reducible refine cell_drew ?_) | (with_reducible refine cell_drewN ?_ _) | (with_reducible refine cell_below (by assumption) ?_)))
      have zf1 : w.heap.size < w1.heap.size := World.block_lt_of_cell? _ _ f1
      go_wp2_with fail
      refine (around_l ax ay bx b_y cx cy _ v0 v1 v2 v3 v4 E HR.out).mono ?_
      rintro e w2 ⟨rfl, hb2⟩
      obtain ⟨f8, f9, f10, f11, f12, f13, f14⟩ : w2.cell? ⟨w.heap.size, 0, none⟩ = some (.int .i64 ax) ∧ w2.cell? ⟨w.heap.size, 1, none⟩ = some (.int .i64 ay) ∧ w2.cell? ⟨w.heap.size, 2, none⟩ = some (.int .i64 bx) ∧ w2.cell? ⟨w.heap.size, 3, none⟩ = some (.int .i64 b_y) ∧ w2.cell? ⟨w.heap.size, 4, none⟩ = some (.int .i64 cx) ∧ w2.cell? ⟨w.heap.size, 5, none⟩ = some (.int .i64 cy) ∧ w2.cell? ⟨w.heap.size, 6, none⟩ = some (.int .i64 r) := by
        refine ⟨?_, ?_, ?_, ?_, ?_, ?_, ?_⟩ <;> (refine cell_below hb2 ?_; repeat (first | (with_reducible assumption) | ((with_reducible refine cell_set ?_ ?_ _); (· first | (simp; done) | (simp; omega) | omega)) | ((with_reducible refine cell_new ?_ ?_); (· (simp; done)); (· rfl)) | (with_reducible refine cell_alloc ?_ _) | (with_reducible refine cell_drew ?_) | (with_reducible refine cell_drewN ?_ _) | (with_reducible refine cell_below (by assumption) ?_)))
      have zf8 : w.heap.size < w2.heap.size := World.block_lt_of_cell? _ _ f8
      clear f1 zf1 f2 f3 f4 f5 f6 f7
      go_wp2_with fail
      refine (raround_l ax ay bx b_y cx cy _ v0 v1 v2 v3 v4 E HR.out).mono ?_
      rintro e w3 ⟨rfl, hb3⟩
      obtain ⟨f15, f16, f17, f18, f19, f20, f21, f22, f23, f24, f25, f26⟩ : w3.cell? ⟨w.heap.size, 0, none⟩ = some (.int .i64 ax) ∧ w3.cell? ⟨w.heap.size, 1, none⟩ = some (.int .i64 ay) ∧ w3.cell? ⟨w.heap.size, 2, none⟩ = some (.int .i64 bx) ∧ w3.cell? ⟨w.heap.size, 3, none⟩ = some (.int .i64 b_y) ∧ w3.cell? ⟨w.heap.size, 4, none⟩ = some (.int .i64 cx) ∧ w3.cell? ⟨w.heap.size, 5, none⟩ = some (.int .i64 cy) ∧ w3.cell? ⟨w.heap.size, 6, none⟩ = some (.int .i64 r) ∧ w3.cell? ⟨w2.heap.size, 0, none⟩ = some (.int .i64 v0) ∧ w3.cell? ⟨w2.heap.size, 1, none⟩ = some (.int .i64 v1) ∧ w3.cell? ⟨w2.heap.size, 2, none⟩ = some (.int .i64 v2) ∧ w3.cell? ⟨w2.heap.size, 3, none⟩ = some (.int .i64 v3) ∧ w3.cell? ⟨w2.heap.size, 4, none⟩ = some (.int .i64 v4) := by
        refine ⟨?_, ?_, ?_, ?_, ?_, ?_, ?_, ?_, ?_, ?_, ?_, ?_⟩ <;> (refine cell_below hb3 ?_; repeat (first | (with_reducible assumption) | ((with_reducible refine cell_set ?_ ?_ _); (· first | (simp; done) | (simp; omega) | omega)) | ((with_reducible refine cell_new ?_ ?_); (· (simp; done)); (· rfl)) | (with_reducible refine cell_alloc ?_ _) | (with_reducible refine cell_drew ?_) | (with_reducible refine cell_drewN ?_ _) | (with_reducible refine cell_below (by assumption) ?_)))
      have zf15 : w.heap.size < w3.heap.size := World.block_lt_of_cell? _ _ f15
      have zf22 : w2.heap.size < w3.heap.size := World.block_lt_of_cell? _ _ f22
      clear f8 zf8 f9 f10 f11 f12 f13 f14
      go_wp2_with fail
      all_goals
        go_ret
        exact ⟨rfl, by (repeat (with_reducible (first | assumption | exact Below.refl _ _ | refine Below.drew ?_ | refine below_drewN ?_ _ | refine below_set ?_ (by simp; try omega) _ | refine below_alloc ?_ (Nat.le_refl _) _ | refine below_sub (by assumption) ?_)))⟩
  · obtain ⟨v0, v1, v2, v3, v4, E, hR⟩ := around_cells ax ay bx b_y cx cy true
    by_cases hE : E = 0
    · subst hE
      obtain ⟨⟨X, Y, C, hA⟩, ⟨U, V, D, hT⟩, ⟨⟨a1, a2⟩, a3, a4⟩, ⟨b1, b2⟩, b3, b4⟩ := around_at hR
      have HR := hide hR
      have TL := fun W => tlen_any v0 v1 v2 v3 v4 W
      clear hR
      generalize arcLen v0 v1 v2 v3 v4 = n at *
      obtain ⟨F, hA, hF⟩ : ∃ F, (X, Y, C, F) = arcAt v0 v1 v2 v3 v4 0 ∧ ((F = 0 ∧ (X - ax ≤ 4 ∧ ax - X ≤ 4) ∧ (Y - ay ≤ 4 ∧ ay - Y ≤ 4)) ∨ F = 2) := by
        rcases hA with ⟨h, k⟩ | h
        · exact ⟨0, h, .inl ⟨rfl, k⟩⟩
        · exact ⟨2, h, .inr rfl⟩
      obtain ⟨G, hT, hG⟩ : ∃ G, (U, V, D, G) = arcAt v0 v1 v2 v3 v4 n ∧ ((G = 0 ∧ (U - cx ≤ 12 ∧ cx - U ≤ 12) ∧ (V - cy ≤ 12 ∧ cy - V ≤ 12)) ∨ G = 2) := by
        rcases hT with ⟨h, k⟩ | h
        · exact ⟨0, h, .inl ⟨rfl, k⟩⟩
        · exact ⟨2, h, .inr rfl⟩
      have HA := hide hA
      have TA := fun W => arcat_any v0 v1 v2 v3 v4 n W (U, V, D, G) hT
      clear hA hT
      go_enter Try.func10, Try.ntmps10
      go_wp2_with fail
      refine (awake12_any _).mono ?_
      rintro e w1 ⟨rfl, hb1⟩
      obtain ⟨f1, f2, f3, f4, f5, f6, f7⟩ : w1.cell? ⟨w.heap.size, 0, none⟩ = some (.int .i64 ax) ∧ w1.cell? ⟨w.heap.size, 1, none⟩ = some (.int .i64 ay) ∧ w1.cell? ⟨w.heap.size, 2, none⟩ = some (.int .i64 bx) ∧ w1.cell? ⟨w.heap.size, 3, none⟩ = some (.int .i64 b_y) ∧ w1.cell? ⟨w.heap.size, 4, none⟩ = some (.int .i64 cx) ∧ w1.cell? ⟨w.heap.size, 5, none⟩ = some (.int .i64 cy) ∧ w1.cell? ⟨w.heap.size, 6, none⟩ = some (.int .i64 r) := by
        refine ⟨?_, ?_, ?_, ?_, ?_, ?_, ?_⟩ <;> (refine cell_below hb1 ?_; repeat (first | (with_reducible assumption) | ((with_reducible refine cell_set ?_ ?_ _); (· first | (simp; done) | (simp; omega) | omega)) | ((with_reducible refine cell_new ?_ ?_); (· (simp; done)); (· rfl)) | (with_reducible refine cell_alloc ?_ _) | (with_reducible refine cell_drew ?_) | (with_reducible refine cell_drewN ?_ _) | (with_reducible refine cell_below (by assumption) ?_)))
      have zf1 : w.heap.size < w1.heap.size := World.block_lt_of_cell? _ _ f1
      go_wp2_with fail
      refine (around_r ax ay bx b_y cx cy _ v0 v1 v2 v3 v4 0 HR.out).mono ?_
      rintro e w2 ⟨rfl, hb2⟩
      obtain ⟨f8, f9, f10, f11, f12, f13, f14⟩ : w2.cell? ⟨w.heap.size, 0, none⟩ = some (.int .i64 ax) ∧ w2.cell? ⟨w.heap.size, 1, none⟩ = some (.int .i64 ay) ∧ w2.cell? ⟨w.heap.size, 2, none⟩ = some (.int .i64 bx) ∧ w2.cell? ⟨w.heap.size, 3, none⟩ = some (.int .i64 b_y) ∧ w2.cell? ⟨w.heap.size, 4, none⟩ = some (.int .i64 cx) ∧ w2.cell? ⟨w.heap.size, 5, none⟩ = some (.int .i64 cy) ∧ w2.cell? ⟨w.heap.size, 6, none⟩ = some (.int .i64 r) := by
        refine ⟨?_, ?_, ?_, ?_, ?_, ?_, ?_⟩ <;> (refine cell_below hb2 ?_; repeat (first | (with_reducible assumption) | ((with_reducible refine cell_set ?_ ?_ _); (· first | (simp; done) | (simp; omega) | omega)) | ((with_reducible refine cell_new ?_ ?_); (· (simp; done)); (· rfl)) | (with_reducible refine cell_alloc ?_ _) | (with_reducible refine cell_drew ?_) | (with_reducible refine cell_drewN ?_ _) | (with_reducible refine cell_below (by assumption) ?_)))
      have zf8 : w.heap.size < w2.heap.size := World.block_lt_of_cell? _ _ f8
      clear f1 zf1 f2 f3 f4 f5 f6 f7
      go_wp2_with fail
      refine (raround_r ax ay bx b_y cx cy _ v0 v1 v2 v3 v4 0 HR.out).mono ?_
      rintro e w3 ⟨rfl, hb3⟩
      obtain ⟨f15, f16, f17, f18, f19, f20, f21, f22, f23, f24, f25, f26⟩ : w3.cell? ⟨w.heap.size, 0, none⟩ = some (.int .i64 ax) ∧ w3.cell? ⟨w.heap.size, 1, none⟩ = some (.int .i64 ay) ∧ w3.cell? ⟨w.heap.size, 2, none⟩ = some (.int .i64 bx) ∧ w3.cell? ⟨w.heap.size, 3, none⟩ = some (.int .i64 b_y) ∧ w3.cell? ⟨w.heap.size, 4, none⟩ = some (.int .i64 cx) ∧ w3.cell? ⟨w.heap.size, 5, none⟩ = some (.int .i64 cy) ∧ w3.cell? ⟨w.heap.size, 6, none⟩ = some (.int .i64 r) ∧ w3.cell? ⟨w2.heap.size, 0, none⟩ = some (.int .i64 v0) ∧ w3.cell? ⟨w2.heap.size, 1, none⟩ = some (.int .i64 v1) ∧ w3.cell? ⟨w2.heap.size, 2, none⟩ = some (.int .i64 v2) ∧ w3.cell? ⟨w2.heap.size, 3, none⟩ = some (.int .i64 v3) ∧ w3.cell? ⟨w2.heap.size, 4, none⟩ = some (.int .i64 v4) := by
        refine ⟨?_, ?_, ?_, ?_, ?_, ?_, ?_, ?_, ?_, ?_, ?_, ?_⟩ <;> (refine cell_below hb3 ?_; repeat (first | (with_reducible assumption) | ((with_reducible refine cell_set ?_ ?_ _); (· first | (simp; done) | (simp; omega) | omega)) | ((with_reducible refine cell_new ?_ ?_); (· (simp; done)); (· rfl)) | (with_reducible refine cell_alloc ?_ _) | (with_reducible refine cell_drew ?_) | (with_reducible refine cell_drewN ?_ _) | (with_reducible refine cell_below (by assumption) ?_)))
      have zf15 : w.heap.size < w3.heap.size := World.block_lt_of_cell? _ _ f15
      have zf22 : w2.heap.size < w3.heap.size := World.block_lt_of_cell? _ _ f22
      clear f8 zf8 f9 f10 f11 f12 f13 f14
      go_wp2_with fail
      refine (arcat_any v0 v1 v2 v3 v4 0 _ (X, Y, C, F) HA.out).mono ?_
      rintro e w4 ⟨rfl, hb4⟩
      obtain ⟨f27, f28, f29, f30, f31, f32, f33, f34, f35, f36, f37, f38, f39, f40, f41, f42, f43⟩ : w4.cell? ⟨w.heap.size, 0, none⟩ = some (.int .i64 ax) ∧ w4.cell? ⟨w.heap.size, 1, none⟩ = some (.int .i64 ay) ∧ w4.cell? ⟨w.heap.size, 2, none⟩ = some (.int .i64 bx) ∧ w4.cell? ⟨w.heap.size, 3, none⟩ = some (.int .i64 b_y) ∧ w4.cell? ⟨w.heap.size, 4, none⟩ = some (.int .i64 cx) ∧ w4.cell? ⟨w.heap.size, 5, none⟩ = some (.int .i64 cy) ∧ w4.cell? ⟨w.heap.size, 6, none⟩ = some (.int .i64 r) ∧ w4.cell? ⟨w2.heap.size, 0, none⟩ = some (.int .i64 v0) ∧ w4.cell? ⟨w2.heap.size, 1, none⟩ = some (.int .i64 v1) ∧ w4.cell? ⟨w2.heap.size, 2, none⟩ = some (.int .i64 v2) ∧ w4.cell? ⟨w2.heap.size, 3, none⟩ = some (.int .i64 v3) ∧ w4.cell? ⟨w2.heap.size, 4, none⟩ = some (.int .i64 v4) ∧ w4.cell? ⟨w3.heap.size, 0, none⟩ = some (.int .i64 v0) ∧ w4.cell? ⟨w3.heap.size, 1, none⟩ = some (.int .i64 v1) ∧ w4.cell? ⟨w3.heap.size, 2, none⟩ = some (.int .i64 v2) ∧ w4.cell? ⟨w3.heap.size, 3, none⟩ = some (.int .i64 v3) ∧ w4.cell? ⟨w3.heap.size, 4, none⟩ = some (.int .i64 v4) := by
        refine ⟨?_, ?_, ?_, ?_, ?_, ?_, ?_, ?_, ?_, ?_, ?_, ?_, ?_, ?_, ?_, ?_, ?_⟩ <;> (refine cell_below hb4 ?_; repeat (first | (with_reducible assumption) | ((with_reducible refine cell_set ?_ ?_ _); (· first | (simp; done) | (simp; omega) | omega)) | ((with_reducible refine cell_new ?_ ?_); (· (simp; done)); (· rfl)) | (with_reducible refine cell_alloc ?_ _) | (with_reducible refine cell_drew ?_) | (with_reducible refine cell_drewN ?_ _) | (with_reducible refine cell_below (by assumption) ?_)))
      have zf27 : w.heap.size < w4.heap.size := World.block_lt_of_cell? _ _ f27
      have zf34 : w2.heap.size < w4.heap.size := World.block_lt_of_cell? _ _ f34
      have zf39 : w3.heap.size < w4.heap.size := World.block_lt_of_cell? _ _ f39
      clear f15 zf15 f16 f17 f18 f19 f20 f21 f22 zf22 f23 f24 f25 f26
      go_wp2_with fail
      generalize hwwp : w4.alloc (.cells #[.int .i64 X, .int .i64 Y] 23) = wp
      have x44 : wp.cell? ⟨w.heap.size, 0, none⟩ = some (.int .i64 ax) := by
        rw [← hwwp]; exact cell_alloc f27 _
      have x45 : wp.cell? ⟨w.heap.size, 1, none⟩ = some (.int .i64 ay) := by
        rw [← hwwp]; exact cell_alloc f28 _
      have x46 : wp.cell? ⟨w.heap.size, 2, none⟩ = some (.int .i64 bx) := by
        rw [← hwwp]; exact cell_alloc f29 _
      have x47 : wp.cell? ⟨w.heap.size, 3, none⟩ = some (.int .i64 b_y) := by
        rw [← hwwp]; exact cell_alloc f30 _
      have x48 : wp.cell? ⟨w.heap.size, 4, none⟩ = some (.int .i64 cx) := by
        rw [← hwwp]; exact cell_alloc f31 _
      have x49 : wp.cell? ⟨w.heap.size, 5, none⟩ = some (.int .i64 cy) := by
        rw [← hwwp]; exact cell_alloc f32 _
      have x50 : wp.cell? ⟨w.heap.size, 6, none⟩ = some (.int .i64 r) := by
        rw [← hwwp]; exact cell_alloc f33 _
      have x51 : wp.cell? ⟨w2.heap.size, 0, none⟩ = some (.int .i64 v0) := by
        rw [← hwwp]; exact cell_alloc f34 _
      have x52 : wp.cell? ⟨w2.heap.size, 1, none⟩ = some (.int .i64 v1) := by
        rw [← hwwp]; exact cell_alloc f35 _
      have x53 : wp.cell? ⟨w2.heap.size, 2, none⟩ = some (.int .i64 v2) := by
        rw [← hwwp]; exact cell_alloc f36 _
      have x54 : wp.cell? ⟨w2.heap.size, 3, none⟩ = some (.int .i64 v3) := by
        rw [← hwwp]; exact cell_alloc f37 _
      have x55 : wp.cell? ⟨w2.heap.size, 4, none⟩ = some (.int .i64 v4) := by
        rw [← hwwp]; exact cell_alloc f38 _
      have x56 : wp.cell? ⟨w3.heap.size, 0, none⟩ = some (.int .i64 v0) := by
        rw [← hwwp]; exact cell_alloc f39 _
      have x57 : wp.cell? ⟨w3.heap.size, 1, none⟩ = some (.int .i64 v1) := by
        rw [← hwwp]; exact cell_alloc f40 _
      have x58 : wp.cell? ⟨w3.heap.size, 2, none⟩ = some (.int .i64 v2) := by
        rw [← hwwp]; exact cell_alloc f41 _
      have x59 : wp.cell? ⟨w3.heap.size, 3, none⟩ = some (.int .i64 v3) := by
        rw [← hwwp]; exact cell_alloc f42 _
      have x60 : wp.cell? ⟨w3.heap.size, 4, none⟩ = some (.int .i64 v4) := by
        rw [← hwwp]; exact cell_alloc f43 _
      have x61 : wp.cell? ⟨w4.heap.size, 0, none⟩ = some (.int .i64 X) := by
        rw [← hwwp]; exact cell_new rfl rfl
      have x62 : wp.cell? ⟨w4.heap.size, 1, none⟩ = some (.int .i64 Y) := by
        rw [← hwwp]; exact cell_new rfl rfl
      have Bwp : Below w.heap.size w wp := by
        rw [← hwwp]
        (repeat (with_reducible (first | assumption | exact Below.refl _ _ | refine Below.drew ?_ | refine below_drewN ?_ _ | refine below_set ?_ (by simp; try omega) _ | refine below_alloc ?_ (Nat.le_refl _) _ | refine below_sub (by assumption) ?_)))
      clear f27 zf27 f28 f29 f30 f31 f32 f33 f34 zf34 f35 f36 f37 f38 f39 zf39 f40 f41 f42 f43 hwwp
      have zzx44 : w.heap.size < wp.heap.size := World.block_lt_of_cell? _ _ x44
      have zzx51 : w2.heap.size < wp.heap.size := World.block_lt_of_cell? _ _ x51
      have zzx56 : w3.heap.size < wp.heap.size := World.block_lt_of_cell? _ _ x56
      have zzx61 : w4.heap.size < wp.heap.size := World.block_lt_of_cell? _ _ x61
      go_cut [13, 15] (fun sA sB wx => ∃ (g : Nat) (wz : World), sA = .pointer (some ⟨g, 0, none⟩) ∧ sB = .int .i64 G ∧ wz = wx ∧ (wz.cell? ⟨g, 0, none⟩ = some (.int .i64 U) ∧ wz.cell? ⟨g, 1, none⟩ = some (.int .i64 V)) ∧ Below (wp).heap.size (wp) wz)
      case first =>
        go_region_with (first
          | (go_at_call 23; refine (TL _).mono ?_; rintro e wL ⟨rfl, hL⟩; have hzL := hL.size; refine (fun hT0 => ?_) (cell_below hL (b := w2.heap.size) (o := 0) (v := .int .i64 v0) ?_); rotate_left; (· (repeat (first | (with_reducible assumption) | ((with_reducible refine cell_set ?_ ?_ _); (· first | (simp; done) | (simp; omega) | omega)) | ((with_reducible refine cell_new ?_ ?_); (· (simp; done)); (· rfl)) | (with_reducible refine cell_alloc ?_ _) | (with_reducible refine cell_drew ?_) | (with_reducible refine cell_drewN ?_ _) | (with_reducible refine cell_below (by assumption) ?_)))); refine (fun hT1 => ?_) (cell_below hL (b := w2.heap.size) (o := 1) (v := .int .i64 v1) ?_); rotate_left; (· (repeat (first | (with_reducible assumption) | ((with_reducible refine cell_set ?_ ?_ _); (· first | (simp; done) | (simp; omega) | omega)) | ((with_reducible refine cell_new ?_ ?_); (· (simp; done)); (· rfl)) | (with_reducible refine cell_alloc ?_ _) | (with_reducible refine cell_drew ?_) | (with_reducible refine cell_drewN ?_ _) | (with_reducible refine cell_below (by assumption) ?_)))); refine (fun hT2 => ?_) (cell_below hL (b := w2.heap.size) (o := 2) (v := .int .i64 v2) ?_); rotate_left; (· (repeat (first | (with_reducible assumption) | ((with_reducible refine cell_set ?_ ?_ _); (· first | (simp; done) | (simp; omega) | omega)) | ((with_reducible refine cell_new ?_ ?_); (· (simp; done)); (· rfl)) | (with_reducible refine cell_alloc ?_ _) | (with_reducible refine cell_drew ?_) | (with_reducible refine cell_drewN ?_ _) | (with_reducible refine cell_below (by assumption) ?_)))); refine (fun hT3 => ?_) (cell_below hL (b := w2.heap.size) (o := 3) (v := .int .i64 v3) ?_); rotate_left; (· (repeat (first | (with_reducible assumption) | ((with_reducible refine cell_set ?_ ?_ _); (· first | (simp; done) | (simp; omega) | omega)) | ((with_reducible refine cell_new ?_ ?_); (· (simp; done)); (· rfl)) | (with_reducible refine cell_alloc ?_ _) | (with_reducible refine cell_drew ?_) | (with_reducible refine cell_drewN ?_ _) | (with_reducible refine cell_below (by assumption) ?_)))); refine (fun hT4 => ?_) (cell_below hL (b := w2.heap.size) (o := 4) (v := .int .i64 v4) ?_); rotate_left; (· (repeat (first | (with_reducible assumption) | ((with_reducible refine cell_set ?_ ?_ _); (· first | (simp; done) | (simp; omega) | omega)) | ((with_reducible refine cell_new ?_ ?_); (· (simp; done)); (· rfl)) | (with_reducible refine cell_alloc ?_ _) | (with_reducible refine cell_drew ?_) | (with_reducible refine cell_drewN ?_ _) | (with_reducible refine cell_below (by assumption) ?_)))); have hTz := World.block_lt_of_cell? _ _ hT0; refine (fun hzM => ?_) (Nat.le_trans ?_ hL.size : (wp).heap.size ≤ wL.heap.size); rotate_left; (· first | exact Nat.le_refl _ | (simp; done) | (simp; omega)); try (refine (fun n0 => ?_) (mine_below hL (a := ⟨wp.heap.size, 0, none⟩) ?_); rotate_left; (· first | (refine ⟨?_, ?_⟩ <;> (with_reducible assumption)) | (refine mine_of (v := .int .i64 0) ?_ ?_ <;> (simp [go_sem]; done))); obtain ⟨n0a, n0b⟩ := n0; refine (fun n1 => ?_) (mine_below hL (a := ⟨wp.heap.size, 1, none⟩) ?_); rotate_left; (· first | (refine ⟨?_, ?_⟩ <;> (with_reducible assumption)) | (refine mine_of (v := .int .i64 0) ?_ ?_ <;> (simp [go_sem]; done))); obtain ⟨n1a, n1b⟩ := n1))
          | (go_at_call 25; refine (TA _).mono ?_; rintro e w' ⟨rfl, hb'⟩; have hz' := hb'.size; try (first | (refine (fun n2 => ?_) (mine_below hb' (a := ⟨wp.heap.size, 0, none⟩) ?_); rotate_left; (· first | (refine ⟨?_, ?_⟩ <;> (with_reducible assumption)) | (refine mine_of (v := .int .i64 0) ?_ ?_ <;> (simp [go_sem]; done))); obtain ⟨n2a, n2b⟩ := n2; refine (fun n3 => ?_) (mine_below hb' (a := ⟨wp.heap.size, 1, none⟩) ?_); rotate_left; (· first | (refine ⟨?_, ?_⟩ <;> (with_reducible assumption)) | (refine mine_of (v := .int .i64 0) ?_ ?_ <;> (simp [go_sem]; done))); obtain ⟨n3a, n3b⟩ := n3) | (refine (fun n2 => ?_) (mine_below hb' (a := ⟨wL.heap.size, 0, none⟩) ?_); rotate_left; (· first | (refine ⟨?_, ?_⟩ <;> (with_reducible assumption)) | (refine mine_of (v := .int .i64 0) ?_ ?_ <;> (simp [go_sem]; done))); obtain ⟨n2a, n2b⟩ := n2; refine (fun n3 => ?_) (mine_below hb' (a := ⟨wL.heap.size, 1, none⟩) ?_); rotate_left; (· first | (refine ⟨?_, ?_⟩ <;> (with_reducible assumption)) | (refine mine_of (v := .int .i64 0) ?_ ?_ <;> (simp [go_sem]; done))); obtain ⟨n3a, n3b⟩ := n3))))
        all_goals
          go_wp2_with fail
          go_meet
          refine ⟨_, _, rfl, rfl, rfl, ?_, ?_⟩
          · constructor <;> (first | (simp [go_sem]; done) | (simp [go_sem, *]; done) | (simp [World.cell?_setCell, *]; done))
          · (repeat (with_reducible (first | assumption | exact Below.refl _ _ | refine Below.drew ?_ | refine below_drewN ?_ _ | refine below_set ?_ (by simp; try omega) _ | refine below_alloc ?_ (Nat.le_refl _) _ | refine below_sub (by assumption) ?_)))
      case rest =>
        obtain ⟨g9, wz, rfl, rfl, rfl, ⟨cg91, cg92⟩, hbcg9⟩ := hcut
        obtain ⟨t63, t64, t65, t66, t67, t68, t69, t70, t71, t72, t73, t74, t75, t76, t77, t78, t79, t80, t81⟩ : wz.cell? ⟨w.heap.size, 0, none⟩ = some (.int .i64 ax) ∧ wz.cell? ⟨w.heap.size, 1, none⟩ = some (.int .i64 ay) ∧ wz.cell? ⟨w.heap.size, 2, none⟩ = some (.int .i64 bx) ∧ wz.cell? ⟨w.heap.size, 3, none⟩ = some (.int .i64 b_y) ∧ wz.cell? ⟨w.heap.size, 4, none⟩ = some (.int .i64 cx) ∧ wz.cell? ⟨w.heap.size, 5, none⟩ = some (.int .i64 cy) ∧ wz.cell? ⟨w.heap.size, 6, none⟩ = some (.int .i64 r) ∧ wz.cell? ⟨w2.heap.size, 0, none⟩ = some (.int .i64 v0) ∧ wz.cell? ⟨w2.heap.size, 1, none⟩ = some (.int .i64 v1) ∧ wz.cell? ⟨w2.heap.size, 2, none⟩ = some (.int .i64 v2) ∧ wz.cell? ⟨w2.heap.size, 3, none⟩ = some (.int .i64 v3) ∧ wz.cell? ⟨w2.heap.size, 4, none⟩ = some (.int .i64 v4) ∧ wz.cell? ⟨w3.heap.size, 0, none⟩ = some (.int .i64 v0) ∧ wz.cell? ⟨w3.heap.size, 1, none⟩ = some (.int .i64 v1) ∧ wz.cell? ⟨w3.heap.size, 2, none⟩ = some (.int .i64 v2) ∧ wz.cell? ⟨w3.heap.size, 3, none⟩ = some (.int .i64 v3) ∧ wz.cell? ⟨w3.heap.size, 4, none⟩ = some (.int .i64 v4) ∧ wz.cell? ⟨w4.heap.size, 0, none⟩ = some (.int .i64 X) ∧ wz.cell? ⟨w4.heap.size, 1, none⟩ = some (.int .i64 Y) := by
          refine ⟨?_, ?_, ?_, ?_, ?_, ?_, ?_, ?_, ?_, ?_, ?_, ?_, ?_, ?_, ?_, ?_, ?_, ?_, ?_⟩ <;> (refine cell_below hbcg9 ?_; repeat (first | (with_reducible assumption) | ((with_reducible refine cell_set ?_ ?_ _); (· first | (simp; done) | (simp; omega) | omega)) | ((with_reducible refine cell_new ?_ ?_); (· (simp; done)); (· rfl)) | (with_reducible refine cell_alloc ?_ _) | (with_reducible refine cell_drew ?_) | (with_reducible refine cell_drewN ?_ _) | (with_reducible refine cell_below (by assumption) ?_)))
        have zt63 : w.heap.size < wz.heap.size := World.block_lt_of_cell? _ _ t63
        have zt70 : w2.heap.size < wz.heap.size := World.block_lt_of_cell? _ _ t70
        have zt75 : w3.heap.size < wz.heap.size := World.block_lt_of_cell? _ _ t75
        have zt80 : w4.heap.size < wz.heap.size := World.block_lt_of_cell? _ _ t80
        clear x44 zzx44 x45 x46 x47 x48 x49 x50 x51 zzx51 x52 x53 x54 x55 x56 zzx56 x57 x58 x59 x60 x61 zzx61 x62
        have zcg9 : g9 < wz.heap.size := World.block_lt_of_cell? _ _ cg91
        rcases hF with ⟨rfl, ⟨p1, p2⟩, p3, p4⟩ | rfl
        · rcases hG with ⟨rfl, ⟨q1, q2⟩, q3, q4⟩ | rfl
          · have hz := trivial
            go_wp2_with fail
            refine (beside_any X Y ax ay 4 (by omega) (by omega) (by omega) (by omega) (by omega) (by omega) (by omega) (by omega) (by omega) (by omega) (by omega) (by omega) _).mono ?_
            rintro e w5 ⟨rfl, hb5⟩
            obtain ⟨f82, f83, f84, f85, f86, f87, f88, f89, f90, f91, f92, f93, f94, f95, f96, f97, f98, f99, f100, f101, f102⟩ : w5.cell? ⟨w.heap.size, 0, none⟩ = some (.int .i64 ax) ∧ w5.cell? ⟨w.heap.size, 1, none⟩ = some (.int .i64 ay) ∧ w5.cell? ⟨w.heap.size, 2, none⟩ = some (.int .i64 bx) ∧ w5.cell? ⟨w.heap.size, 3, none⟩ = some (.int .i64 b_y) ∧ w5.cell? ⟨w.heap.size, 4, none⟩ = some (.int .i64 cx) ∧ w5.cell? ⟨w.heap.size, 5, none⟩ = some (.int .i64 cy) ∧ w5.cell? ⟨w.heap.size, 6, none⟩ = some (.int .i64 r) ∧ w5.cell? ⟨w2.heap.size, 0, none⟩ = some (.int .i64 v0) ∧ w5.cell? ⟨w2.heap.size, 1, none⟩ = some (.int .i64 v1) ∧ w5.cell? ⟨w2.heap.size, 2, none⟩ = some (.int .i64 v2) ∧ w5.cell? ⟨w2.heap.size, 3, none⟩ = some (.int .i64 v3) ∧ w5.cell? ⟨w2.heap.size, 4, none⟩ = some (.int .i64 v4) ∧ w5.cell? ⟨w3.heap.size, 0, none⟩ = some (.int .i64 v0) ∧ w5.cell? ⟨w3.heap.size, 1, none⟩ = some (.int .i64 v1) ∧ w5.cell? ⟨w3.heap.size, 2, none⟩ = some (.int .i64 v2) ∧ w5.cell? ⟨w3.heap.size, 3, none⟩ = some (.int .i64 v3) ∧ w5.cell? ⟨w3.heap.size, 4, none⟩ = some (.int .i64 v4) ∧ w5.cell? ⟨w4.heap.size, 0, none⟩ = some (.int .i64 X) ∧ w5.cell? ⟨w4.heap.size, 1, none⟩ = some (.int .i64 Y) ∧ w5.cell? ⟨g9, 0, none⟩ = some (.int .i64 U) ∧ w5.cell? ⟨g9, 1, none⟩ = some (.int .i64 V) := by
              refine ⟨?_, ?_, ?_, ?_, ?_, ?_, ?_, ?_, ?_, ?_, ?_, ?_, ?_, ?_, ?_, ?_, ?_, ?_, ?_, ?_, ?_⟩ <;> (refine cell_below hb5 ?_; repeat (first | (with_reducible assumption) | ((with_reducible refine cell_set ?_ ?_ _); (· first | (simp; done) | (simp; omega) | omega)) | ((with_reducible refine cell_new ?_ ?_); (· (simp; done)); (· rfl)) | (with_reducible refine cell_alloc ?_ _) | (with_reducible refine cell_drew ?_) | (with_reducible refine cell_drewN ?_ _) | (with_reducible refine cell_below (by assumption) ?_)))
            have zf82 : w.heap.size < w5.heap.size := World.block_lt_of_cell? _ _ f82
            have zf89 : w2.heap.size < w5.heap.size := World.block_lt_of_cell? _ _ f89
            have zf94 : w3.heap.size < w5.heap.size := World.block_lt_of_cell? _ _ f94
            have zf99 : w4.heap.size < w5.heap.size := World.block_lt_of_cell? _ _ f99
            have zf101 : g9 < w5.heap.size := World.block_lt_of_cell? _ _ f101
            clear t63 zt63 t64 t65 t66 t67 t68 t69 t70 zt70 t71 t72 t73 t74 t75 zt75 t76 t77 t78 t79 t80 zt80 t81 cg91 zcg9 cg92
            go_wp2_with fail
            refine (beside_any U V cx cy 12 (by omega) (by omega) (by omega) (by omega) (by omega) (by omega) (by omega) (by omega) (by omega) (by omega) (by omega) (by omega) _).mono ?_
            rintro e w6 ⟨rfl, hb6⟩
            obtain ⟨f103, f104, f105, f106, f107, f108, f109, f110, f111, f112, f113, f114, f115, f116, f117, f118, f119, f120, f121, f122, f123⟩ : w6.cell? ⟨w.heap.size, 0, none⟩ = some (.int .i64 ax) ∧ w6.cell? ⟨w.heap.size, 1, none⟩ = some (.int .i64 ay) ∧ w6.cell? ⟨w.heap.size, 2, none⟩ = some (.int .i64 bx) ∧ w6.cell? ⟨w.heap.size, 3, none⟩ = some (.int .i64 b_y) ∧ w6.cell? ⟨w.heap.size, 4, none⟩ = some (.int .i64 cx) ∧ w6.cell? ⟨w.heap.size, 5, none⟩ = some (.int .i64 cy) ∧ w6.cell? ⟨w.heap.size, 6, none⟩ = some (.int .i64 r) ∧ w6.cell? ⟨w2.heap.size, 0, none⟩ = some (.int .i64 v0) ∧ w6.cell? ⟨w2.heap.size, 1, none⟩ = some (.int .i64 v1) ∧ w6.cell? ⟨w2.heap.size, 2, none⟩ = some (.int .i64 v2) ∧ w6.cell? ⟨w2.heap.size, 3, none⟩ = some (.int .i64 v3) ∧ w6.cell? ⟨w2.heap.size, 4, none⟩ = some (.int .i64 v4) ∧ w6.cell? ⟨w3.heap.size, 0, none⟩ = some (.int .i64 v0) ∧ w6.cell? ⟨w3.heap.size, 1, none⟩ = some (.int .i64 v1) ∧ w6.cell? ⟨w3.heap.size, 2, none⟩ = some (.int .i64 v2) ∧ w6.cell? ⟨w3.heap.size, 3, none⟩ = some (.int .i64 v3) ∧ w6.cell? ⟨w3.heap.size, 4, none⟩ = some (.int .i64 v4) ∧ w6.cell? ⟨w4.heap.size, 0, none⟩ = some (.int .i64 X) ∧ w6.cell? ⟨w4.heap.size, 1, none⟩ = some (.int .i64 Y) ∧ w6.cell? ⟨g9, 0, none⟩ = some (.int .i64 U) ∧ w6.cell? ⟨g9, 1, none⟩ = some (.int .i64 V) := by
              refine ⟨?_, ?_, ?_, ?_, ?_, ?_, ?_, ?_, ?_, ?_, ?_, ?_, ?_, ?_, ?_, ?_, ?_, ?_, ?_, ?_, ?_⟩ <;> (refine cell_below hb6 ?_; repeat (first | (with_reducible assumption) | ((with_reducible refine cell_set ?_ ?_ _); (· first | (simp; done) | (simp; omega) | omega)) | ((with_reducible refine cell_new ?_ ?_); (· (simp; done)); (· rfl)) | (with_reducible refine cell_alloc ?_ _) | (with_reducible refine cell_drew ?_) | (with_reducible refine cell_drewN ?_ _) | (with_reducible refine cell_below (by assumption) ?_)))
            have zf103 : w.heap.size < w6.heap.size := World.block_lt_of_cell? _ _ f103
            have zf110 : w2.heap.size < w6.heap.size := World.block_lt_of_cell? _ _ f110
            have zf115 : w3.heap.size < w6.heap.size := World.block_lt_of_cell? _ _ f115
            have zf120 : w4.heap.size < w6.heap.size := World.block_lt_of_cell? _ _ f120
            have zf122 : g9 < w6.heap.size := World.block_lt_of_cell? _ _ f122
            clear f82 zf82 f83 f84 f85 f86 f87 f88 f89 zf89 f90 f91 f92 f93 f94 zf94 f95 f96 f97 f98 f99 zf99 f100 f101 zf101 f102
            go_wp2_with fail
            all_goals
              go_ret
              exact ⟨rfl, by (repeat (with_reducible (first | assumption | exact Below.refl _ _ | refine Below.drew ?_ | refine below_drewN ?_ _ | refine below_set ?_ (by simp; try omega) _ | refine below_alloc ?_ (Nat.le_refl _) _ | refine below_sub (by assumption) ?_)))⟩
          · have hz := trivial
            go_wp2_with fail
            refine (beside_any X Y ax ay 4 (by omega) (by omega) (by omega) (by omega) (by omega) (by omega) (by omega) (by omega) (by omega) (by omega) (by omega) (by omega) _).mono ?_
            rintro e w5 ⟨rfl, hb5⟩
            obtain ⟨f82, f83, f84, f85, f86, f87, f88, f89, f90, f91, f92, f93, f94, f95, f96, f97, f98, f99, f100, f101, f102⟩ : w5.cell? ⟨w.heap.size, 0, none⟩ = some (.int .i64 ax) ∧ w5.cell? ⟨w.heap.size, 1, none⟩ = some (.int .i64 ay) ∧ w5.cell? ⟨w.heap.size, 2, none⟩ = some (.int .i64 bx) ∧ w5.cell? ⟨w.heap.size, 3, none⟩ = some (.int .i64 b_y) ∧ w5.cell? ⟨w.heap.size, 4, none⟩ = some (.int .i64 cx) ∧ w5.cell? ⟨w.heap.size, 5, none⟩ = some (.int .i64 cy) ∧ w5.cell? ⟨w.heap.size, 6, none⟩ = some (.int .i64 r) ∧ w5.cell? ⟨w2.heap.size, 0, none⟩ = some (.int .i64 v0) ∧ w5.cell? ⟨w2.heap.size, 1, none⟩ = some (.int .i64 v1) ∧ w5.cell? ⟨w2.heap.size, 2, none⟩ = some (.int .i64 v2) ∧ w5.cell? ⟨w2.heap.size, 3, none⟩ = some (.int .i64 v3) ∧ w5.cell? ⟨w2.heap.size, 4, none⟩ = some (.int .i64 v4) ∧ w5.cell? ⟨w3.heap.size, 0, none⟩ = some (.int .i64 v0) ∧ w5.cell? ⟨w3.heap.size, 1, none⟩ = some (.int .i64 v1) ∧ w5.cell? ⟨w3.heap.size, 2, none⟩ = some (.int .i64 v2) ∧ w5.cell? ⟨w3.heap.size, 3, none⟩ = some (.int .i64 v3) ∧ w5.cell? ⟨w3.heap.size, 4, none⟩ = some (.int .i64 v4) ∧ w5.cell? ⟨w4.heap.size, 0, none⟩ = some (.int .i64 X) ∧ w5.cell? ⟨w4.heap.size, 1, none⟩ = some (.int .i64 Y) ∧ w5.cell? ⟨g9, 0, none⟩ = some (.int .i64 U) ∧ w5.cell? ⟨g9, 1, none⟩ = some (.int .i64 V) := by
              refine ⟨?_, ?_, ?_, ?_, ?_, ?_, ?_, ?_, ?_, ?_, ?_, ?_, ?_, ?_, ?_, ?_, ?_, ?_, ?_, ?_, ?_⟩ <;> (refine cell_below hb5 ?_; repeat (first | (with_reducible assumption) | ((with_reducible refine cell_set ?_ ?_ _); (· first | (simp; done) | (simp; omega) | omega)) | ((with_reducible refine cell_new ?_ ?_); (· (simp; done)); (· rfl)) | (with_reducible refine cell_alloc ?_ _) | (with_reducible refine cell_drew ?_) | (with_reducible refine cell_drewN ?_ _) | (with_reducible refine cell_below (by assumption) ?_)))
            have zf82 : w.heap.size < w5.heap.size := World.block_lt_of_cell? _ _ f82
            have zf89 : w2.heap.size < w5.heap.size := World.block_lt_of_cell? _ _ f89
            have zf94 : w3.heap.size < w5.heap.size := World.block_lt_of_cell? _ _ f94
            have zf99 : w4.heap.size < w5.heap.size := World.block_lt_of_cell? _ _ f99
            have zf101 : g9 < w5.heap.size := World.block_lt_of_cell? _ _ f101
            clear t63 zt63 t64 t65 t66 t67 t68 t69 t70 zt70 t71 t72 t73 t74 t75 zt75 t76 t77 t78 t79 t80 zt80 t81 cg91 zcg9 cg92
            go_wp2_with fail
            all_goals
              go_ret
              exact ⟨rfl, by (repeat (with_reducible (first | assumption | exact Below.refl _ _ | refine Below.drew ?_ | refine below_drewN ?_ _ | refine below_set ?_ (by simp; try omega) _ | refine below_alloc ?_ (Nat.le_refl _) _ | refine below_sub (by assumption) ?_)))⟩
        · rcases hG with ⟨rfl, ⟨q1, q2⟩, q3, q4⟩ | rfl
          · have hz := trivial
            go_wp2_with fail
            refine (beside_any U V cx cy 12 (by omega) (by omega) (by omega) (by omega) (by omega) (by omega) (by omega) (by omega) (by omega) (by omega) (by omega) (by omega) _).mono ?_
            rintro e w5 ⟨rfl, hb5⟩
            obtain ⟨f82, f83, f84, f85, f86, f87, f88, f89, f90, f91, f92, f93, f94, f95, f96, f97, f98, f99, f100, f101, f102⟩ : w5.cell? ⟨w.heap.size, 0, none⟩ = some (.int .i64 ax) ∧ w5.cell? ⟨w.heap.size, 1, none⟩ = some (.int .i64 ay) ∧ w5.cell? ⟨w.heap.size, 2, none⟩ = some (.int .i64 bx) ∧ w5.cell? ⟨w.heap.size, 3, none⟩ = some (.int .i64 b_y) ∧ w5.cell? ⟨w.heap.size, 4, none⟩ = some (.int .i64 cx) ∧ w5.cell? ⟨w.heap.size, 5, none⟩ = some (.int .i64 cy) ∧ w5.cell? ⟨w.heap.size, 6, none⟩ = some (.int .i64 r) ∧ w5.cell? ⟨w2.heap.size, 0, none⟩ = some (.int .i64 v0) ∧ w5.cell? ⟨w2.heap.size, 1, none⟩ = some (.int .i64 v1) ∧ w5.cell? ⟨w2.heap.size, 2, none⟩ = some (.int .i64 v2) ∧ w5.cell? ⟨w2.heap.size, 3, none⟩ = some (.int .i64 v3) ∧ w5.cell? ⟨w2.heap.size, 4, none⟩ = some (.int .i64 v4) ∧ w5.cell? ⟨w3.heap.size, 0, none⟩ = some (.int .i64 v0) ∧ w5.cell? ⟨w3.heap.size, 1, none⟩ = some (.int .i64 v1) ∧ w5.cell? ⟨w3.heap.size, 2, none⟩ = some (.int .i64 v2) ∧ w5.cell? ⟨w3.heap.size, 3, none⟩ = some (.int .i64 v3) ∧ w5.cell? ⟨w3.heap.size, 4, none⟩ = some (.int .i64 v4) ∧ w5.cell? ⟨w4.heap.size, 0, none⟩ = some (.int .i64 X) ∧ w5.cell? ⟨w4.heap.size, 1, none⟩ = some (.int .i64 Y) ∧ w5.cell? ⟨g9, 0, none⟩ = some (.int .i64 U) ∧ w5.cell? ⟨g9, 1, none⟩ = some (.int .i64 V) := by
              refine ⟨?_, ?_, ?_, ?_, ?_, ?_, ?_, ?_, ?_, ?_, ?_, ?_, ?_, ?_, ?_, ?_, ?_, ?_, ?_, ?_, ?_⟩ <;> (refine cell_below hb5 ?_; repeat (first | (with_reducible assumption) | ((with_reducible refine cell_set ?_ ?_ _); (· first | (simp; done) | (simp; omega) | omega)) | ((with_reducible refine cell_new ?_ ?_); (· (simp; done)); (· rfl)) | (with_reducible refine cell_alloc ?_ _) | (with_reducible refine cell_drew ?_) | (with_reducible refine cell_drewN ?_ _) | (with_reducible refine cell_below (by assumption) ?_)))
            have zf82 : w.heap.size < w5.heap.size := World.block_lt_of_cell? _ _ f82
            have zf89 : w2.heap.size < w5.heap.size := World.block_lt_of_cell? _ _ f89
            have zf94 : w3.heap.size < w5.heap.size := World.block_lt_of_cell? _ _ f94
            have zf99 : w4.heap.size < w5.heap.size := World.block_lt_of_cell? _ _ f99
            have zf101 : g9 < w5.heap.size := World.block_lt_of_cell? _ _ f101
            clear t63 zt63 t64 t65 t66 t67 t68 t69 t70 zt70 t71 t72 t73 t74 t75 zt75 t76 t77 t78 t79 t80 zt80 t81 cg91 zcg9 cg92
            go_wp2_with fail
            all_goals
              go_ret
              exact ⟨rfl, by (repeat (with_reducible (first | assumption | exact Below.refl _ _ | refine Below.drew ?_ | refine below_drewN ?_ _ | refine below_set ?_ (by simp; try omega) _ | refine below_alloc ?_ (Nat.le_refl _) _ | refine below_sub (by assumption) ?_)))⟩
          · have hz := trivial
            go_wp2_with fail
            all_goals
              go_ret
              exact ⟨rfl, by (repeat (with_reducible (first | assumption | exact Below.refl _ _ | refine Below.drew ?_ | refine below_drewN ?_ _ | refine below_set ?_ (by simp; try omega) _ | refine below_alloc ?_ (Nat.le_refl _) _ | refine below_sub (by assumption) ?_)))⟩
    · have T : (E != 0) = true := by rw [bne_iff_ne]; exact hE
      have HR := hide hR
      clear hR hE
      go_enter Try.func10, Try.ntmps10
      go_wp2_with fail
      refine (awake12_any _).mono ?_
      rintro e w1 ⟨rfl, hb1⟩
      obtain ⟨f1, f2, f3, f4, f5, f6, f7⟩ : w1.cell? ⟨w.heap.size, 0, none⟩ = some (.int .i64 ax) ∧ w1.cell? ⟨w.heap.size, 1, none⟩ = some (.int .i64 ay) ∧ w1.cell? ⟨w.heap.size, 2, none⟩ = some (.int .i64 bx) ∧ w1.cell? ⟨w.heap.size, 3, none⟩ = some (.int .i64 b_y) ∧ w1.cell? ⟨w.heap.size, 4, none⟩ = some (.int .i64 cx) ∧ w1.cell? ⟨w.heap.size, 5, none⟩ = some (.int .i64 cy) ∧ w1.cell? ⟨w.heap.size, 6, none⟩ = some (.int .i64 r) := by
        refine ⟨?_, ?_, ?_, ?_, ?_, ?_, ?_⟩ <;> (refine cell_below hb1 ?_; repeat (first | (with_reducible assumption) | ((with_reducible refine cell_set ?_ ?_ _); (· first | (simp; done) | (simp; omega) | omega)) | ((with_reducible refine cell_new ?_ ?_); (· (simp; done)); (· rfl)) | (with_reducible refine cell_alloc ?_ _) | (with_reducible refine cell_drew ?_) | (with_reducible refine cell_drewN ?_ _) | (with_reducible refine cell_below (by assumption) ?_)))
      have zf1 : w.heap.size < w1.heap.size := World.block_lt_of_cell? _ _ f1
      go_wp2_with fail
      refine (around_r ax ay bx b_y cx cy _ v0 v1 v2 v3 v4 E HR.out).mono ?_
      rintro e w2 ⟨rfl, hb2⟩
      obtain ⟨f8, f9, f10, f11, f12, f13, f14⟩ : w2.cell? ⟨w.heap.size, 0, none⟩ = some (.int .i64 ax) ∧ w2.cell? ⟨w.heap.size, 1, none⟩ = some (.int .i64 ay) ∧ w2.cell? ⟨w.heap.size, 2, none⟩ = some (.int .i64 bx) ∧ w2.cell? ⟨w.heap.size, 3, none⟩ = some (.int .i64 b_y) ∧ w2.cell? ⟨w.heap.size, 4, none⟩ = some (.int .i64 cx) ∧ w2.cell? ⟨w.heap.size, 5, none⟩ = some (.int .i64 cy) ∧ w2.cell? ⟨w.heap.size, 6, none⟩ = some (.int .i64 r) := by
        refine ⟨?_, ?_, ?_, ?_, ?_, ?_, ?_⟩ <;> (refine cell_below hb2 ?_; repeat (first | (with_reducible assumption) | ((with_reducible refine cell_set ?_ ?_ _); (· first | (simp; done) | (simp; omega) | omega)) | ((with_reducible refine cell_new ?_ ?_); (· (simp; done)); (· rfl)) | (with_reducible refine cell_alloc ?_ _) | (with_reducible refine cell_drew ?_) | (with_reducible refine cell_drewN ?_ _) | (with_reducible refine cell_below (by assumption) ?_)))
      have zf8 : w.heap.size < w2.heap.size := World.block_lt_of_cell? _ _ f8
      clear f1 zf1 f2 f3 f4 f5 f6 f7
      go_wp2_with fail
      refine (raround_r ax ay bx b_y cx cy _ v0 v1 v2 v3 v4 E HR.out).mono ?_
      rintro e w3 ⟨rfl, hb3⟩
      obtain ⟨f15, f16, f17, f18, f19, f20, f21, f22, f23, f24, f25, f26⟩ : w3.cell? ⟨w.heap.size, 0, none⟩ = some (.int .i64 ax) ∧ w3.cell? ⟨w.heap.size, 1, none⟩ = some (.int .i64 ay) ∧ w3.cell? ⟨w.heap.size, 2, none⟩ = some (.int .i64 bx) ∧ w3.cell? ⟨w.heap.size, 3, none⟩ = some (.int .i64 b_y) ∧ w3.cell? ⟨w.heap.size, 4, none⟩ = some (.int .i64 cx) ∧ w3.cell? ⟨w.heap.size, 5, none⟩ = some (.int .i64 cy) ∧ w3.cell? ⟨w.heap.size, 6, none⟩ = some (.int .i64 r) ∧ w3.cell? ⟨w2.heap.size, 0, none⟩ = some (.int .i64 v0) ∧ w3.cell? ⟨w2.heap.size, 1, none⟩ = some (.int .i64 v1) ∧ w3.cell? ⟨w2.heap.size, 2, none⟩ = some (.int .i64 v2) ∧ w3.cell? ⟨w2.heap.size, 3, none⟩ = some (.int .i64 v3) ∧ w3.cell? ⟨w2.heap.size, 4, none⟩ = some (.int .i64 v4) := by
        refine ⟨?_, ?_, ?_, ?_, ?_, ?_, ?_, ?_, ?_, ?_, ?_, ?_⟩ <;> (refine cell_below hb3 ?_; repeat (first | (with_reducible assumption) | ((with_reducible refine cell_set ?_ ?_ _); (· first | (simp; done) | (simp; omega) | omega)) | ((with_reducible refine cell_new ?_ ?_); (· (simp; done)); (· rfl)) | (with_reducible refine cell_alloc ?_ _) | (with_reducible refine cell_drew ?_) | (with_reducible refine cell_drewN ?_ _) | (with_reducible refine cell_below (by assumption) ?_)))
      have zf15 : w.heap.size < w3.heap.size := World.block_lt_of_cell? _ _ f15
      have zf22 : w2.heap.size < w3.heap.size := World.block_lt_of_cell? _ _ f22
      clear f8 zf8 f9 f10 f11 f12 f13 f14
      go_wp2_with fail
      all_goals
        go_ret
        exact ⟨rfl, by (repeat (with_reducible (first | assumption | exact Below.refl _ _ | refine Below.drew ?_ | refine below_drewN ?_ _ | refine below_set ?_ (by simp; try omega) _ | refine below_alloc ?_ (Nat.le_refl _) _ | refine below_sub (by assumption) ?_)))⟩
end Go.Proofs.Yteedgcffdgkicaa

/-
  TurnArounds: the row's step: the given statement 'TurnAroundsSaid' out of the walk.
-/
namespace Go.Proofs.Yteedgcffdgkicaa.turnArounds
open Go.ChangeShapes Go.WideShapes Go.ChangeAt Go.RowKit
set_option linter.unusedVariables false

theorem own : ownKnob Try.prog.godebug = none := by kernel_rfl
theorem laidOut : laidOutB Try.prog = true := pf_laid
theorem typed : (Try.f10.params.toList.all fun t => Try.prog.readableRec t && decide (t < Try.prog.types.size)) = true := by kernel_rfl
theorem typed' : ∀ t ∈ Try.f10.params.toList, Try.prog.readableRec t = true ∧ t < Try.prog.types.size := by
  intro t ht
  have h := List.all_eq_true.1 typed t ht
  simpa using h
theorem ct38 : Try.prog.cellTypes Try.prog.depth 38 = some (List.replicate 7 2) := by kernel_rfl
theorem cn38 : Try.prog.cellsOf 38 = (List.replicate 7 2).length := by kernel_rfl
set_option maxRecDepth 100000 in
theorem lifted (os : Os) (started : os.Started) (H : Type) (enc : TypeId × Value → H) :
    ReturnsInHanded {} Try.checked os 10 .any (Rows.turnAroundsSpec.pre6 enc Try.prog Try.f10 Rows.turnAroundsRow.domain false) (Rows.turnAroundsSpec.post enc Try.prog Try.f10 false true false false) := by
  refine returnsInHanded_of_change (C := Try.checked) own started (by kernel_rfl) Try.func10
    (ChangeSpec.witness6 (enc := enc) (C := Try.checked) false ⟨#[], #[.agg #[.int .i64 0, .int .i64 0, .int .i64 0, .int .i64 0, .int .i64 0, .int .i64 0, .int .i64 0], .bool false], []⟩ 8 (by kernel_rfl) (by kernel_rfl) (by kernel_rfl) (by kernel_rfl)) ?_
  intro W base args ds gs before hval0 hW hcnd _
  have hval : ∀ (j : Nat) t v, Try.f10.params[j]? = some t → args[j]? = some v → Value.okWide Try.prog W .any base t v := hval0
  have hW' := hW
  obtain ⟨p, q, hA0, hV, rfl, hfz, hnd⟩ := hW
  have hlen := trodAll_length _ _ _ _ hA0
  rw [Try.params10] at hval hlen
  obtain ⟨v0, v1, rfl⟩ := arr2 hlen.1
  obtain ⟨d0, d1, rfl⟩ := list2 hlen.2
  obtain ⟨lx, rfl, ex, hlx⟩ := ok_ints (Or.inl ⟨_, Try.underlying38⟩) ct38 cn38 (fun u hu => by rw [List.eq_of_mem_replicate hu]; exact Try.underlying2) (hval 0 38 v0 rfl rfl)
  obtain ⟨x0, x1, x2, x3, x4, x5, x6, rfl⟩ := list7 (ex.trans (by simp))
  have hx0 : I64 x0 := hlx _ (by simp)
  have hx1 : I64 x1 := hlx _ (by simp)
  have hx2 : I64 x2 := hlx _ (by simp)
  have hx3 : I64 x3 := hlx _ (by simp)
  have hx4 : I64 x4 := hlx _ (by simp)
  have hx5 : I64 x5 := hlx _ (by simp)
  have hx6 : I64 x6 := hlx _ (by simp)
  obtain ⟨right, rfl⟩ := ok_bool Try.underlying4 (hval 1 4 v1 rfl rfl)
  refine (turnArounds_walk x0 x1 x2 x3 x4 x5 x6 right hx0 hx1 hx2 hx3 hx4 hx5 hx6 W).mono fun e W' ⟨he, hb⟩ => ?_
  subst he
  exact ⟨_, rfl, law_post (f := Try.f10) (s := Rows.turnAroundsSpec) (tb := 4) laidOut typed' rfl (by kernel_rfl) Try.underlying4 hW' ⟨rfl, rfl, rfl⟩ hb⟩

theorem k0 : (Rows.turnAroundsRow.wf (OpenSpec.ofChange Rows.turnAroundsSpec)) = true := by kernel_rfl
theorem k3 : (Try.f10.params.all (Try.prog.readableRec ·)) = true := by kernel_rfl
theorem k4 : (namedTie Try.prog Rows.turnAroundsRow.named Rows.turnAroundsSpec.vars) = true := by kernel_rfl
theorem k5 : (Rows.turnAroundsRow.stops == []) = true := by kernel_rfl
theorem k7 : (Rows.turnAroundsRow.knobs == []) = true := by kernel_rfl
theorem k9 : (Rows.turnAroundsRow.inPlace == Try.prog.inPlace 10) = true := by kernel_rfl
theorem k10 : (Rows.turnAroundsRow.unfollowed == Try.prog.unfollowed 10) = true := by kernel_rfl
theorem k11 : (Rows.turnAroundsRow.recurses == Try.prog.recurses 10) = true := by kernel_rfl
theorem k12 : (Rows.turnAroundsRow.named == Try.prog.varsNamed 10) = true := by kernel_rfl
theorem k13 : (Rows.turnAroundsRow.maps == (Try.f10.params.toList ++ Rows.turnAroundsSpec.plain.varTypes Try.prog).any (Try.prog.mapsRec ·)) = true := by kernel_rfl
theorem k14 : (Rows.turnAroundsRow.ifaces == (Try.f10.params.toList ++ Rows.turnAroundsSpec.plain.varTypes Try.prog).any (Try.prog.ifacesRec ·)) = true := by kernel_rfl
theorem k15 : (Rows.turnAroundsRow.mapsOut == Try.prog.mapsAmong Try.f10.resultTypes.toList) = true := by kernel_rfl
theorem k16 : (Rows.turnAroundsRow.loops == (Try.f10.params.toList ++ Rows.turnAroundsSpec.plain.varTypes Try.prog).any (Try.prog.loopsFrom ·)) = true := by kernel_rfl
theorem k17 : (Rows.turnAroundsRow.wideKeys == (Try.f10.params.toList ++ Rows.turnAroundsSpec.plain.varTypes Try.prog ++ Try.f10.resultTypes.toList).any (Try.prog.wideKeysFrom ·)) = true := by kernel_rfl
theorem k18 : (Rows.turnAroundsSpec.vars.all (Try.prog.varReadable ·)) = true := by kernel_rfl
theorem k19 : (Try.f10.resultTypes.all (fun t => Try.prog.readableRec t && decide (t < Try.prog.types.size))) = true := by kernel_rfl
theorem k20 : (Rows.turnAroundsRow.ifacesOut == Try.f10.resultTypes.toList.any (Try.prog.ifacesRec ·)) = true := by kernel_rfl
theorem k21 : (Rows.turnAroundsRow.loopsOut == Try.f10.resultTypes.toList.any (Try.prog.loopsFrom ·)) = true := by kernel_rfl
theorem k22 : (Rows.turnAroundsRow.plainKeys == Try.prog.plainKeys) = true := by kernel_rfl
theorem k23 : (Rows.turnAroundsRow.shortTexts.isNone) = true := by kernel_rfl
theorem k26 : (Rows.turnAroundsRow.lifted == Try.prog.liftsFinal) = true := by rw [pf_lifts]; rfl
theorem k27 : (Try.prog.make == some Rows.turnAroundsRow.make) = true := by rw [pf_make]; rfl
theorem k28 : (Rows.turnAroundsRow.kinds == (if Rows.turnAroundsRow.domain.isEmpty then [] else Try.f10.params.toList.map fun t => match Try.prog.underlying t with | some (.int k) => some k | _ => none)) = true := by kernel_rfl
theorem k29 : (Rows.turnAroundsRow.pinned == Rows.turnAroundsRow.pinnedBy) = true := by kernel_rfl
theorem k30 : (Rows.turnAroundsRow.veiled == (Try.f10.params.toList ++ Rows.turnAroundsSpec.plain.varTypes Try.prog ++ Try.f10.resultTypes.toList).any (Try.prog.veiledRec ·)) = true := by kernel_rfl
theorem k31 : (Rows.turnAroundsRow.veiledFits Try.prog Try.f10.params.toList (Try.f10.params.toList ++ Rows.turnAroundsSpec.plain.varTypes Try.prog ++ Try.f10.resultTypes.toList)) = true := by kernel_rfl
set_option maxRecDepth 100000 in
theorem closed : joinedFacts Try.prog 10 Try.f10 Rows.turnAroundsSpec Rows.turnAroundsRow = true := (band (band (band (band (band (band (band (band (band (band (band (band (band (band (band (band (band (band (band (band (band (band (band (band (band (band (band (band (band (band (band k0 pf_laid) pf_maps) k3) k4) k5) pf_stops) k7) pf_knobs) k9) k10) k11) k12) k13) k14) k15) k16) k17) k18) k19) k20) k21) k22) k23) pf_heard) pf_enter) k26) k27) k28) k29) k30) k31)
theorem byName : Try.prog.funcNamed Rows.turnAroundsRow.func = some 10 := by kernel_rfl
theorem inst : Try.f10.isInstance Try.prog Rows.turnAroundsRow.origin Rows.turnAroundsRow.targs := of_decide_eq_true (by kernel_rfl)
theorem over : Rows.turnAroundsRow.holds Try.pinned (OpenSpec.ofChange Rows.turnAroundsSpec) :=
  OpenClaim.holds_of_wide 10 Try.f10 rfl rfl rfl rfl rfl rfl rfl ⟨rfl, rfl, rfl, rfl, rfl⟩ rfl rfl rfl rfl rfl byName Try.func10 closed
    inst (by unfold Func.isWrapper; rw [if_neg (of_decide_eq_false (by kernel_rfl))]; exact ⟨rfl, rfl⟩)
    (fun os started H enc _ => lifted os started H enc)

/-- The given statement. -/
theorem proved : Rows.TurnAroundsSaid := over
end Go.Proofs.Yteedgcffdgkicaa.turnArounds

