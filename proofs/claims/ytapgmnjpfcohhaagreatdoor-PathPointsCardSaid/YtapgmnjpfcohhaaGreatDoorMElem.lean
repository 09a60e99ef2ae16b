/-
  The walks of an element by itself: far, away, checkElement.
-/
import Derived.Test.YtapgmnjpfcohhaaGreatDoorMFixed
import Derived.Test.YtapgmnjpfcohhaaGreatDoorMFrame
import Derived.Test.YtapgmnjpfcohhaaGreatDoorMGeo
import Derived.Test.YtapgmnjpfcohhaaGreatDoorMLaws
import Derived.Test.YtapgmnjpfcohhaaGreatDoorMLineA
import Derived.Test.YtapgmnjpfcohhaaGreatDoorMLineD
import Derived.Test.YtapgmnjpfcohhaaGreatDoorMPlain
import Derived.Test.YtapgmnjpfcohhaaGreatDoorMScale
import Derived.Test.YtapgmnjpfcohhaaGreatDoorMSeqP
import Derived.Test.YtapgmnjpfcohhaaGreatDoorMTurnA
import Derived.Test.YtapgmnjpfcohhaaGreatDoorMTurnB
import Derived.Deep.DeepCutAuto
import Derived.Below
import Derived.Deep.RegionHeld3
import Derived.Test.YtapgmnjpfcohhaaGreatDoorProg
import Derived.WalkSpells
import Derived.WalkLawsBesides
import Derived.Deep.QuietTactic
import Derived.BigQuiet
import Derived.Lib.ItoaNum
import Derived.Shelf.Small.Bits
import Derived.Shelf.Strconv.Itoa0
import Derived.Shelf.Bits.Mul64
import Derived.Shelf.Spec.BitsCarry
import Derived.WalkKit
import Derived.ProofKit
import Derived.OpenShut
import Derived.ChangeSame
import Derived.Test.YtapgmnjpfcohhaaGreatDoorRows
import Derived.Laws.BitsAllLaws
namespace Go.Proofs.YtapgmnjpfcohhaaGreatDoor
open Go.RowKit
set_option linter.unusedVariables false
set_option linter.unusedSimpArgs false
theorem arcAt_bd (cx cy r f s al : Int) : (-2000000 ≤ (arcAt cx cy r f s al).1 ∧ (arcAt cx cy r f s al).1 ≤ 2000000) ∧ (-2000000 ≤ (arcAt cx cy r f s al).2.1 ∧ (arcAt cx cy r f s al).2.1 ≤ 2000000) := by
  unfold arcAt
  split
  · simp
  split
  · simp
  split
  · rename_i h
    obtain ⟨_, _, _, k, e1, e2⟩ := ray_ok h
    have b := vldB_bd k
    simp only [e1, e2]
    omega
  · simp
set_option maxHeartbeats 1000000 in
theorem far_any (px py qx qy : Int) (h0 : -4000000 ≤ px) (g0 : px ≤ 4000000) (h1 : -4000000 ≤ py) (g1 : py ≤ 4000000) (h2 : -4000000 ≤ qx) (g2 : qx ≤ 4000000) (h3 : -4000000 ≤ qy) (g3 : qy ≤ 4000000) (w : World) :
    Calls Tryz.prog 91 #[.agg #[.int .i64 px, .int .i64 py], .agg #[.int .i64 qx, .int .i64 qy]] w fun e w' => e = .returned (.bool (farB px py qx qy)) ∧ Below w.heap.size w w' := by
  have AX := fun W => abs_any (px - qx) (by unfold I64; omega) (by omega) W
  have AY := fun W => abs_any (py - qy) (by unfold I64; omega) (by omega) W
  have h := hide (show farB px py qx qy = decide (16 < ((px - qx).natAbs : Int) ∨ 16 < ((py - qy).natAbs : Int)) from rfl)
  generalize farB px py qx qy = R at *
  generalize ((px - qx).natAbs : Int) = u at *
  generalize ((py - qy).natAbs : Int) = v at *
  have hc : 16 < u ∨ (u ≤ 16 ∧ 16 < v) ∨ (u ≤ 16 ∧ v ≤ 16) := by omega
  rcases hc with c1 | ⟨c1, c2⟩ | ⟨c1, c2⟩
  all_goals
    go_enter Tryz.func91, Tryz.ntmps91
    go_wp2_with (go_at_call 50; (first | ((with_reducible refine (AX _).mono ?_); rintro e w' ⟨rfl, rfl⟩) | ((with_reducible refine (AY _).mono ?_); rintro e w' ⟨rfl, rfl⟩)))
    go_ret
    exact ⟨ret_bool (by rw [h.out, Bool.eq_iff_iff]; simp; try omega), by (repeat (with_reducible (first | assumption | exact Below.refl _ _ | refine Below.drew ?_ | refine below_drewN ?_ _ | refine below_set ?_ (by simp; try omega) _ | refine below_alloc ?_ (Nat.le_refl _) _ | refine below_sub (by assumption) ?_)))⟩
set_option maxRecDepth 100000 in
set_option maxHeartbeats 2000000 in
theorem away_any (cx cy r f s al px py : Int) (hp : vldB px py = true) (w : World) :
    Calls Tryz.prog 44 #[.agg #[.int .i64 cx, .int .i64 cy, .int .i64 r, .int .i64 f, .int .i64 s], .int .i64 al, .agg #[.int .i64 px, .int .i64 py]] w fun e w' => e = .returned (.bool (awayB cx cy r f s al px py)) ∧ Below w.heap.size w w' := by
  have b := arcAt_bd cx cy r f s al
  have v := vldB_bd hp
  obtain ⟨R, hR⟩ : ∃ R, R = arcAt cx cy r f s al := ⟨_, rfl⟩
  have AT := fun W => arcat_any cx cy r f s al W R hR
  have h : awayB cx cy r f s al px py = (decide (R.2.2.2 = 0) && farB px py R.1 R.2.1) := by unfold awayB; rw [hR]
  rw [h]
  rw [← hR] at b
  obtain ⟨X, Y, C, E⟩ := R
  dsimp only at b
  have FA := fun W => far_any px py X Y (by omega) (by omega) (by omega) (by omega) (by omega) (by omega) (by omega) (by omega) W
  clear h hR b v hp
  generalize farB px py X Y = B at *
  by_cases hE : E = 0
  · subst hE
    simp only [decide_true, Bool.true_and]
    go_enter Tryz.func44, Tryz.ntmps44
    go_wp2_with fail
    refine (AT _).mono ?_
    rintro e w1 ⟨rfl, hb1⟩
    obtain ⟨f1, f2, f3, f4, f5, f6, f7⟩ : w1.cell? ⟨w.heap.size, 0, none⟩ = some (.int .i64 cx) ∧ w1.cell? ⟨w.heap.size, 1, none⟩ = some (.int .i64 cy) ∧ w1.cell? ⟨w.heap.size, 2, none⟩ = some (.int .i64 r) ∧ w1.cell? ⟨w.heap.size, 3, none⟩ = some (.int .i64 f) ∧ w1.cell? ⟨w.heap.size, 4, none⟩ = some (.int .i64 s) ∧ w1.cell? ⟨w.heap.size + 1, 0, none⟩ = some (.int .i64 px) ∧ w1.cell? ⟨w.heap.size + 1, 1, none⟩ = some (.int .i64 py) := by
      refine ⟨?_, ?_, ?_, ?_, ?_, ?_, ?_⟩ <;> (refine cell_below hb1 ?_; repeat (first | (with_reducible assumption) | ((with_reducible refine cell_set ?_ ?_ _); (· first | (simp; done) | (simp; omega) | omega)) | ((with_reducible refine cell_new ?_ ?_); (· (simp; done)); (· rfl)) | (with_reducible refine cell_alloc ?_ _) | (with_reducible refine cell_drew ?_) | (with_reducible refine cell_drewN ?_ _) | (with_reducible refine cell_below (by assumption) ?_)))
    have zf1 : w.heap.size < w1.heap.size := World.block_lt_of_cell? _ _ f1
    have zf6 : w.heap.size + 1 < w1.heap.size := World.block_lt_of_cell? _ _ f6
    go_wp2_with fail
    refine (FA _).mono ?_
    rintro e w2 ⟨rfl, hb2⟩
    obtain ⟨f8, f9, f10, f11, f12, f13, f14, f15, f16⟩ : w2.cell? ⟨w.heap.size, 0, none⟩ = some (.int .i64 cx) ∧ w2.cell? ⟨w.heap.size, 1, none⟩ = some (.int .i64 cy) ∧ w2.cell? ⟨w.heap.size, 2, none⟩ = some (.int .i64 r) ∧ w2.cell? ⟨w.heap.size, 3, none⟩ = some (.int .i64 f) ∧ w2.cell? ⟨w.heap.size, 4, none⟩ = some (.int .i64 s) ∧ w2.cell? ⟨w.heap.size + 1, 0, none⟩ = some (.int .i64 px) ∧ w2.cell? ⟨w.heap.size + 1, 1, none⟩ = some (.int .i64 py) ∧ w2.cell? ⟨w1.heap.size, 0, none⟩ = some (.int .i64 X) ∧ w2.cell? ⟨w1.heap.size, 1, none⟩ = some (.int .i64 Y) := by
      refine ⟨?_, ?_, ?_, ?_, ?_, ?_, ?_, ?_, ?_⟩ <;> (refine cell_below hb2 ?_; repeat (first | (with_reducible assumption) | ((with_reducible refine cell_set ?_ ?_ _); (· first | (simp; done) | (simp; omega) | omega)) | ((with_reducible refine cell_new ?_ ?_); (· (simp; done)); (· rfl)) | (with_reducible refine cell_alloc ?_ _) | (with_reducible refine cell_drew ?_) | (with_reducible refine cell_drewN ?_ _) | (with_reducible refine cell_below (by assumption) ?_)))
    have zf8 : w.heap.size < w2.heap.size := World.block_lt_of_cell? _ _ f8
    have zf13 : w.heap.size + 1 < w2.heap.size := World.block_lt_of_cell? _ _ f13
    have zf15 : w1.heap.size < w2.heap.size := World.block_lt_of_cell? _ _ f15
    clear f1 zf1 f2 f3 f4 f5 f6 zf6 f7
    go_wp2_with fail
    go_ret
    exact ⟨rfl, by (repeat (with_reducible (first | assumption | exact Below.refl _ _ | refine Below.drew ?_ | refine below_drewN ?_ _ | refine below_set ?_ (by simp; try omega) _ | refine below_alloc ?_ (Nat.le_refl _) _ | refine below_sub (by assumption) ?_)))⟩
  · simp only [hE, decide_false, Bool.false_and]
    go_enter Tryz.func44, Tryz.ntmps44
    go_wp2_with fail
    refine (AT _).mono ?_
    rintro e w1 ⟨rfl, hb1⟩
    obtain ⟨f1, f2, f3, f4, f5, f6, f7⟩ : w1.cell? ⟨w.heap.size, 0, none⟩ = some (.int .i64 cx) ∧ w1.cell? ⟨w.heap.size, 1, none⟩ = some (.int .i64 cy) ∧ w1.cell? ⟨w.heap.size, 2, none⟩ = some (.int .i64 r) ∧ w1.cell? ⟨w.heap.size, 3, none⟩ = some (.int .i64 f) ∧ w1.cell? ⟨w.heap.size, 4, none⟩ = some (.int .i64 s) ∧ w1.cell? ⟨w.heap.size + 1, 0, none⟩ = some (.int .i64 px) ∧ w1.cell? ⟨w.heap.size + 1, 1, none⟩ = some (.int .i64 py) := by
      refine ⟨?_, ?_, ?_, ?_, ?_, ?_, ?_⟩ <;> (refine cell_below hb1 ?_; repeat (first | (with_reducible assumption) | ((with_reducible refine cell_set ?_ ?_ _); (· first | (simp; done) | (simp; omega) | omega)) | ((with_reducible refine cell_new ?_ ?_); (· (simp; done)); (· rfl)) | (with_reducible refine cell_alloc ?_ _) | (with_reducible refine cell_drew ?_) | (with_reducible refine cell_drewN ?_ _) | (with_reducible refine cell_below (by assumption) ?_)))
    have zf1 : w.heap.size < w1.heap.size := World.block_lt_of_cell? _ _ f1
    have zf6 : w.heap.size + 1 < w1.heap.size := World.block_lt_of_cell? _ _ f6
    go_wp2_with fail
    go_ret
    exact ⟨rfl, by (repeat (with_reducible (first | assumption | exact Below.refl _ _ | refine Below.drew ?_ | refine below_drewN ?_ _ | refine below_set ?_ (by simp; try omega) _ | refine below_alloc ?_ (Nat.le_refl _) _ | refine below_sub (by assumption) ?_)))⟩
set_option maxRecDepth 100000 in
set_option maxHeartbeats 4000000 in
theorem elem_bad (c g : Bool) (ax ay bx b_y cx cy r f s L n : Int) (a b : Bool) (ha : vldB ax ay = a) (hb : vldB bx b_y = b) (h : (a && b) = false) (w : World) :
    Calls Tryz.prog 20 #[.agg #[.bool c, .int .i64 ax, .int .i64 ay, .int .i64 bx, .int .i64 b_y, .int .i64 cx, .int .i64 cy, .int .i64 r, .int .i64 f, .int .i64 s, .int .i64 L, .int .i64 n, .bool g]] w fun e w' => e = .returned (.int .i64 1) ∧ Below w.heap.size w w' := by
  have PA := fun W => pvalid_e ax ay a ha W
  have PB := fun W => pvalid_e bx b_y b hb W
  clear ha hb
  rcases a with _ | _
  · clear h PB
    go_enter Tryz.func20, Tryz.ntmps20
    go_wp2_with fail
    refine (PA _).mono ?_
    rintro e w1 ⟨rfl, hb1⟩
    obtain ⟨f1, f2, f3, f4, f5, f6, f7, f8, f9, f10, f11, f12, f13⟩ : w1.cell? ⟨w.heap.size, 0, none⟩ = some (.bool c) ∧ w1.cell? ⟨w.heap.size, 1, none⟩ = some (.int .i64 ax) ∧ w1.cell? ⟨w.heap.size, 2, none⟩ = some (.int .i64 ay) ∧ w1.cell? ⟨w.heap.size, 3, none⟩ = some (.int .i64 bx) ∧ w1.cell? ⟨w.heap.size, 4, none⟩ = some (.int .i64 b_y) ∧ w1.cell? ⟨w.heap.size, 5, none⟩ = some (.int .i64 cx) ∧ w1.cell? ⟨w.heap.size, 6, none⟩ = some (.int .i64 cy) ∧ w1.cell? ⟨w.heap.size, 7, none⟩ = some (.int .i64 r) ∧ w1.cell? ⟨w.heap.size, 8, none⟩ = some (.int .i64 f) ∧ w1.cell? ⟨w.heap.size, 9, none⟩ = some (.int .i64 s) ∧ w1.cell? ⟨w.heap.size, 10, none⟩ = some (.int .i64 L) ∧ w1.cell? ⟨w.heap.size, 11, none⟩ = some (.int .i64 n) ∧ w1.cell? ⟨w.heap.size, 12, none⟩ = some (.bool g) := by
      refine ⟨?_, ?_, ?_, ?_, ?_, ?_, ?_, ?_, ?_, ?_, ?_, ?_, ?_⟩ <;> (refine cell_below hb1 ?_; repeat (first | (with_reducible assumption) | ((with_reducible refine cell_set ?_ ?_ _); (· first | (simp; done) | (simp; omega) | omega)) | ((with_reducible refine cell_new ?_ ?_); (· (simp; done)); (· rfl)) | (with_reducible refine cell_alloc ?_ _) | (with_reducible refine cell_drew ?_) | (with_reducible refine cell_drewN ?_ _) | (with_reducible refine cell_below (by assumption) ?_)))
    have zf1 : w.heap.size < w1.heap.size := World.block_lt_of_cell? _ _ f1
    go_wp2_with fail
    go_ret
    exact ⟨rfl, by (repeat (with_reducible (first | assumption | exact Below.refl _ _ | refine Below.drew ?_ | refine below_drewN ?_ _ | refine below_set ?_ (by simp; try omega) _ | refine below_alloc ?_ (Nat.le_refl _) _ | refine below_sub (by assumption) ?_)))⟩
  · obtain rfl : b = false := h
    go_enter Tryz.func20, Tryz.ntmps20
    go_wp2_with fail
    refine (PA _).mono ?_
    rintro e w1 ⟨rfl, hb1⟩
    obtain ⟨f1, f2, f3, f4, f5, f6, f7, f8, f9, f10, f11, f12, f13⟩ : w1.cell? ⟨w.heap.size, 0, none⟩ = some (.bool c) ∧ w1.cell? ⟨w.heap.size, 1, none⟩ = some (.int .i64 ax) ∧ w1.cell? ⟨w.heap.size, 2, none⟩ = some (.int .i64 ay) ∧ w1.cell? ⟨w.heap.size, 3, none⟩ = some (.int .i64 bx) ∧ w1.cell? ⟨w.heap.size, 4, none⟩ = some (.int .i64 b_y) ∧ w1.cell? ⟨w.heap.size, 5, none⟩ = some (.int .i64 cx) ∧ w1.cell? ⟨w.heap.size, 6, none⟩ = some (.int .i64 cy) ∧ w1.cell? ⟨w.heap.size, 7, none⟩ = some (.int .i64 r) ∧ w1.cell? ⟨w.heap.size, 8, none⟩ = some (.int .i64 f) ∧ w1.cell? ⟨w.heap.size, 9, none⟩ = some (.int .i64 s) ∧ w1.cell? ⟨w.heap.size, 10, none⟩ = some (.int .i64 L) ∧ w1.cell? ⟨w.heap.size, 11, none⟩ = some (.int .i64 n) ∧ w1.cell? ⟨w.heap.size, 12, none⟩ = some (.bool g) := by
      refine ⟨?_, ?_, ?_, ?_, ?_, ?_, ?_, ?_, ?_, ?_, ?_, ?_, ?_⟩ <;> (refine cell_below hb1 ?_; repeat (first | (with_reducible assumption) | ((with_reducible refine cell_set ?_ ?_ _); (· first | (simp; done) | (simp; omega) | omega)) | ((with_reducible refine cell_new ?_ ?_); (· (simp; done)); (· rfl)) | (with_reducible refine cell_alloc ?_ _) | (with_reducible refine cell_drew ?_) | (with_reducible refine cell_drewN ?_ _) | (with_reducible refine cell_below (by assumption) ?_)))
    have zf1 : w.heap.size < w1.heap.size := World.block_lt_of_cell? _ _ f1
    go_wp2_with fail
    refine (PB _).mono ?_
    rintro e w2 ⟨rfl, hb2⟩
    obtain ⟨f14, f15, f16, f17, f18, f19, f20, f21, f22, f23, f24, f25, f26⟩ : w2.cell? ⟨w.heap.size, 0, none⟩ = some (.bool c) ∧ w2.cell? ⟨w.heap.size, 1, none⟩ = some (.int .i64 ax) ∧ w2.cell? ⟨w.heap.size, 2, none⟩ = some (.int .i64 ay) ∧ w2.cell? ⟨w.heap.size, 3, none⟩ = some (.int .i64 bx) ∧ w2.cell? ⟨w.heap.size, 4, none⟩ = some (.int .i64 b_y) ∧ w2.cell? ⟨w.heap.size, 5, none⟩ = some (.int .i64 cx) ∧ w2.cell? ⟨w.heap.size, 6, none⟩ = some (.int .i64 cy) ∧ w2.cell? ⟨w.heap.size, 7, none⟩ = some (.int .i64 r) ∧ w2.cell? ⟨w.heap.size, 8, none⟩ = some (.int .i64 f) ∧ w2.cell? ⟨w.heap.size, 9, none⟩ = some (.int .i64 s) ∧ w2.cell? ⟨w.heap.size, 10, none⟩ = some (.int .i64 L) ∧ w2.cell? ⟨w.heap.size, 11, none⟩ = some (.int .i64 n) ∧ w2.cell? ⟨w.heap.size, 12, none⟩ = some (.bool g) := by
      refine ⟨?_, ?_, ?_, ?_, ?_, ?_, ?_, ?_, ?_, ?_, ?_, ?_, ?_⟩ <;> (refine cell_below hb2 ?_; repeat (first | (with_reducible assumption) | ((with_reducible refine cell_set ?_ ?_ _); (· first | (simp; done) | (simp; omega) | omega)) | ((with_reducible refine cell_new ?_ ?_); (· (simp; done)); (· rfl)) | (with_reducible refine cell_alloc ?_ _) | (with_reducible refine cell_drew ?_) | (with_reducible refine cell_drewN ?_ _) | (with_reducible refine cell_below (by assumption) ?_)))
    have zf14 : w.heap.size < w2.heap.size := World.block_lt_of_cell? _ _ f14
    clear f1 zf1 f2 f3 f4 f5 f6 f7 f8 f9 f10 f11 f12 f13
    go_wp2_with fail
    go_ret
    exact ⟨rfl, by (repeat (with_reducible (first | assumption | exact Below.refl _ _ | refine Below.drew ?_ | refine below_drewN ?_ _ | refine below_set ?_ (by simp; try omega) _ | refine below_alloc ?_ (Nat.le_refl _) _ | refine below_sub (by assumption) ?_)))⟩
set_option maxRecDepth 100000 in
set_option maxHeartbeats 4000000 in
theorem elem_circ (g : Bool) (ax ay bx b_y cx cy r f s L n : Int) (ha : vldB ax ay = true) (hb : vldB bx b_y = true) (h : ¬ (cx = 0 ∧ cy = 0 ∧ r = 0 ∧ f = 0 ∧ s = 0)) (w : World) :
    Calls Tryz.prog 20 #[.agg #[.bool false, .int .i64 ax, .int .i64 ay, .int .i64 bx, .int .i64 b_y, .int .i64 cx, .int .i64 cy, .int .i64 r, .int .i64 f, .int .i64 s, .int .i64 L, .int .i64 n, .bool g]] w fun e w' => e = .returned (.int .i64 1) ∧ Below w.heap.size w w' := by
  have PA := fun W => pvalid_e ax ay true ha W
  have PB := fun W => pvalid_e bx b_y true hb W
  have DI := fun W => dist_any ax ay bx b_y W
  generalize distF ax ay bx b_y = d at *
  have hz : (cx == 0) = false ∨ ((cx == 0) = true ∧ (cy == 0) = false) ∨ ((cx == 0) = true ∧ (cy == 0) = true ∧ (r == 0) = false) ∨ ((cx == 0) = true ∧ (cy == 0) = true ∧ (r == 0) = true ∧ (f == 0) = false) ∨ ((cx == 0) = true ∧ (cy == 0) = true ∧ (r == 0) = true ∧ (f == 0) = true ∧ (s == 0) = false) := by
    simp only [beq_iff_eq, beq_eq_false_iff_ne, ne_eq]
    omega
  clear h ha hb
  rcases hz with z1 | ⟨z1, z2⟩ | ⟨z1, z2, z3⟩ | ⟨z1, z2, z3, z4⟩ | ⟨z1, z2, z3, z4, z5⟩
  all_goals
    go_enter Tryz.func20, Tryz.ntmps20
    go_wp2_with fail
    refine (PA _).mono ?_
    rintro e w1 ⟨rfl, hb1⟩
    obtain ⟨f1, f2, f3, f4, f5, f6, f7, f8, f9, f10, f11, f12, f13⟩ : w1.cell? ⟨w.heap.size, 0, none⟩ = some (.bool false) ∧ w1.cell? ⟨w.heap.size, 1, none⟩ = some (.int .i64 ax) ∧ w1.cell? ⟨w.heap.size, 2, none⟩ = some (.int .i64 ay) ∧ w1.cell? ⟨w.heap.size, 3, none⟩ = some (.int .i64 bx) ∧ w1.cell? ⟨w.heap.size, 4, none⟩ = some (.int .i64 b_y) ∧ w1.cell? ⟨w.heap.size, 5, none⟩ = some (.int .i64 cx) ∧ w1.cell? ⟨w.heap.size, 6, none⟩ = some (.int .i64 cy) ∧ w1.cell? ⟨w.heap.size, 7, none⟩ = some (.int .i64 r) ∧ w1.cell? ⟨w.heap.size, 8, none⟩ = some (.int .i64 f) ∧ w1.cell? ⟨w.heap.size, 9, none⟩ = some (.int .i64 s) ∧ w1.cell? ⟨w.heap.size, 10, none⟩ = some (.int .i64 L) ∧ w1.cell? ⟨w.heap.size, 11, none⟩ = some (.int .i64 n) ∧ w1.cell? ⟨w.heap.size, 12, none⟩ = some (.bool g) := by
      refine ⟨?_, ?_, ?_, ?_, ?_, ?_, ?_, ?_, ?_, ?_, ?_, ?_, ?_⟩ <;> (refine cell_below hb1 ?_; repeat (first | (with_reducible assumption) | ((with_reducible refine cell_set ?_ ?_ _); (· first | (simp; done) | (simp; omega) | omega)) | ((with_reducible refine cell_new ?_ ?_); (· (simp; done)); (· rfl)) | (with_reducible refine cell_alloc ?_ _) | (with_reducible refine cell_drew ?_) | (with_reducible refine cell_drewN ?_ _) | (with_reducible refine cell_below (by assumption) ?_)))
    have zf1 : w.heap.size < w1.heap.size := World.block_lt_of_cell? _ _ f1
    go_wp2_with fail
    refine (PB _).mono ?_
    rintro e w2 ⟨rfl, hb2⟩
    obtain ⟨f14, f15, f16, f17, f18, f19, f20, f21, f22, f23, f24, f25, f26⟩ : w2.cell? ⟨w.heap.size, 0, none⟩ = some (.bool false) ∧ w2.cell? ⟨w.heap.size, 1, none⟩ = some (.int .i64 ax) ∧ w2.cell? ⟨w.heap.size, 2, none⟩ = some (.int .i64 ay) ∧ w2.cell? ⟨w.heap.size, 3, none⟩ = some (.int .i64 bx) ∧ w2.cell? ⟨w.heap.size, 4, none⟩ = some (.int .i64 b_y) ∧ w2.cell? ⟨w.heap.size, 5, none⟩ = some (.int .i64 cx) ∧ w2.cell? ⟨w.heap.size, 6, none⟩ = some (.int .i64 cy) ∧ w2.cell? ⟨w.heap.size, 7, none⟩ = some (.int .i64 r) ∧ w2.cell? ⟨w.heap.size, 8, none⟩ = some (.int .i64 f) ∧ w2.cell? ⟨w.heap.size, 9, none⟩ = some (.int .i64 s) ∧ w2.cell? ⟨w.heap.size, 10, none⟩ = some (.int .i64 L) ∧ w2.cell? ⟨w.heap.size, 11, none⟩ = some (.int .i64 n) ∧ w2.cell? ⟨w.heap.size, 12, none⟩ = some (.bool g) := by
      refine ⟨?_, ?_, ?_, ?_, ?_, ?_, ?_, ?_, ?_, ?_, ?_, ?_, ?_⟩ <;> (refine cell_below hb2 ?_; repeat (first | (with_reducible assumption) | ((with_reducible refine cell_set ?_ ?_ _); (· first | (simp; done) | (simp; omega) | omega)) | ((with_reducible refine cell_new ?_ ?_); (· (simp; done)); (· rfl)) | (with_reducible refine cell_alloc ?_ _) | (with_reducible refine cell_drew ?_) | (with_reducible refine cell_drewN ?_ _) | (with_reducible refine cell_below (by assumption) ?_)))
    have zf14 : w.heap.size < w2.heap.size := World.block_lt_of_cell? _ _ f14
    clear f1 zf1 f2 f3 f4 f5 f6 f7 f8 f9 f10 f11 f12 f13
    go_wp2_with fail
    refine (DI _).mono ?_
    rintro e w3 ⟨rfl, hb3⟩
    obtain ⟨f27, f28, f29, f30, f31, f32, f33, f34, f35, f36, f37, f38, f39⟩ : w3.cell? ⟨w.heap.size, 0, none⟩ = some (.bool false) ∧ w3.cell? ⟨w.heap.size, 1, none⟩ = some (.int .i64 ax) ∧ w3.cell? ⟨w.heap.size, 2, none⟩ = some (.int .i64 ay) ∧ w3.cell? ⟨w.heap.size, 3, none⟩ = some (.int .i64 bx) ∧ w3.cell? ⟨w.heap.size, 4, none⟩ = some (.int .i64 b_y) ∧ w3.cell? ⟨w.heap.size, 5, none⟩ = some (.int .i64 cx) ∧ w3.cell? ⟨w.heap.size, 6, none⟩ = some (.int .i64 cy) ∧ w3.cell? ⟨w.heap.size, 7, none⟩ = some (.int .i64 r) ∧ w3.cell? ⟨w.heap.size, 8, none⟩ = some (.int .i64 f) ∧ w3.cell? ⟨w.heap.size, 9, none⟩ = some (.int .i64 s) ∧ w3.cell? ⟨w.heap.size, 10, none⟩ = some (.int .i64 L) ∧ w3.cell? ⟨w.heap.size, 11, none⟩ = some (.int .i64 n) ∧ w3.cell? ⟨w.heap.size, 12, none⟩ = some (.bool g) := by
      refine ⟨?_, ?_, ?_, ?_, ?_, ?_, ?_, ?_, ?_, ?_, ?_, ?_, ?_⟩ <;> (refine cell_below hb3 ?_; repeat (first | (with_reducible assumption) | ((with_reducible refine cell_set ?_ ?_ _); (· first | (simp; done) | (simp; omega) | omega)) | ((with_reducible refine cell_new ?_ ?_); (· (simp; done)); (· rfl)) | (with_reducible refine cell_alloc ?_ _) | (with_reducible refine cell_drew ?_) | (with_reducible refine cell_drewN ?_ _) | (with_reducible refine cell_below (by assumption) ?_)))
    have zf27 : w.heap.size < w3.heap.size := World.block_lt_of_cell? _ _ f27
    clear f14 zf14 f15 f16 f17 f18 f19 f20 f21 f22 f23 f24 f25 f26
    go_wp2_with fail
    go_ret
    exact ⟨rfl, by (repeat (with_reducible (first | assumption | exact Below.refl _ _ | refine Below.drew ?_ | refine below_drewN ?_ _ | refine below_set ?_ (by simp; try omega) _ | refine below_alloc ?_ (Nat.le_refl _) _ | refine below_sub (by assumption) ?_)))⟩
set_option maxRecDepth 100000 in
set_option maxHeartbeats 4000000 in
theorem elem_line (g : Bool) (ax ay bx b_y L n : Int) (ha : vldB ax ay = true) (hb : vldB bx b_y = true) (d : Int) (hd : d = distF ax ay bx b_y) (w : World) :
    Calls Tryz.prog 20 #[.agg #[.bool false, .int .i64 ax, .int .i64 ay, .int .i64 bx, .int .i64 b_y, .int .i64 0, .int .i64 0, .int .i64 0, .int .i64 0, .int .i64 0, .int .i64 L, .int .i64 n, .bool g]] w fun e w' => e = .returned (.int .i64 (if L < 1 ∨ ¬ L = d then 4 else 0)) ∧ Below w.heap.size w w' := by
  have PA := fun W => pvalid_e ax ay true ha W
  have PB := fun W => pvalid_e bx b_y true hb W
  have DI := fun W => dist_any ax ay bx b_y W
  rw [← hd] at DI
  clear hd ha hb
  by_cases h : L < 1 ∨ ¬ L = d
  · rw [if_pos h]
    have h' : L < 1 ∨ (1 ≤ L ∧ (L != d) = true) := by
      rcases Int.lt_or_le L 1 with q | q
      · exact .inl q
      · exact .inr ⟨q, bne_iff_ne.2 (by omega)⟩
    clear h
    rcases h' with h | ⟨h, k⟩
    all_goals
      go_enter Tryz.func20, Tryz.ntmps20
      go_wp2_with fail
      refine (PA _).mono ?_
      rintro e w1 ⟨rfl, hb1⟩
      obtain ⟨f1, f2, f3, f4, f5, f6, f7, f8, f9, f10, f11, f12, f13⟩ : w1.cell? ⟨w.heap.size, 0, none⟩ = some (.bool false) ∧ w1.cell? ⟨w.heap.size, 1, none⟩ = some (.int .i64 ax) ∧ w1.cell? ⟨w.heap.size, 2, none⟩ = some (.int .i64 ay) ∧ w1.cell? ⟨w.heap.size, 3, none⟩ = some (.int .i64 bx) ∧ w1.cell? ⟨w.heap.size, 4, none⟩ = some (.int .i64 b_y) ∧ w1.cell? ⟨w.heap.size, 5, none⟩ = some (.int .i64 0) ∧ w1.cell? ⟨w.heap.size, 6, none⟩ = some (.int .i64 0) ∧ w1.cell? ⟨w.heap.size, 7, none⟩ = some (.int .i64 0) ∧ w1.cell? ⟨w.heap.size, 8, none⟩ = some (.int .i64 0) ∧ w1.cell? ⟨w.heap.size, 9, none⟩ = some (.int .i64 0) ∧ w1.cell? ⟨w.heap.size, 10, none⟩ = some (.int .i64 L) ∧ w1.cell? ⟨w.heap.size, 11, none⟩ = some (.int .i64 n) ∧ w1.cell? ⟨w.heap.size, 12, none⟩ = some (.bool g) := by
        refine ⟨?_, ?_, ?_, ?_, ?_, ?_, ?_, ?_, ?_, ?_, ?_, ?_, ?_⟩ <;> (refine cell_below hb1 ?_; repeat (first | (with_reducible assumption) | ((with_reducible refine cell_set ?_ ?_ _); (· first | (simp; done) | (simp; omega) | omega)) | ((with_reducible refine cell_new ?_ ?_); (· (simp; done)); (· rfl)) | (with_reducible refine cell_alloc ?_ _) | (with_reducible refine cell_drew ?_) | (with_reducible refine cell_drewN ?_ _) | (with_reducible refine cell_below (by assumption) ?_)))
      have zf1 : w.heap.size < w1.heap.size := World.block_lt_of_cell? _ _ f1
      go_wp2_with fail
      refine (PB _).mono ?_
      rintro e w2 ⟨rfl, hb2⟩
      obtain ⟨f14, f15, f16, f17, f18, f19, f20, f21, f22, f23, f24, f25, f26⟩ : w2.cell? ⟨w.heap.size, 0, none⟩ = some (.bool false) ∧ w2.cell? ⟨w.heap.size, 1, none⟩ = some (.int .i64 ax) ∧ w2.cell? ⟨w.heap.size, 2, none⟩ = some (.int .i64 ay) ∧ w2.cell? ⟨w.heap.size, 3, none⟩ = some (.int .i64 bx) ∧ w2.cell? ⟨w.heap.size, 4, none⟩ = some (.int .i64 b_y) ∧ w2.cell? ⟨w.heap.size, 5, none⟩ = some (.int .i64 0) ∧ w2.cell? ⟨w.heap.size, 6, none⟩ = some (.int .i64 0) ∧ w2.cell? ⟨w.heap.size, 7, none⟩ = some (.int .i64 0) ∧ w2.cell? ⟨w.heap.size, 8, none⟩ = some (.int .i64 0) ∧ w2.cell? ⟨w.heap.size, 9, none⟩ = some (.int .i64 0) ∧ w2.cell? ⟨w.heap.size, 10, none⟩ = some (.int .i64 L) ∧ w2.cell? ⟨w.heap.size, 11, none⟩ = some (.int .i64 n) ∧ w2.cell? ⟨w.heap.size, 12, none⟩ = some (.bool g) := by
        refine ⟨?_, ?_, ?_, ?_, ?_, ?_, ?_, ?_, ?_, ?_, ?_, ?_, ?_⟩ <;> (refine cell_below hb2 ?_; repeat (first | (with_reducible assumption) | ((with_reducible refine cell_set ?_ ?_ _); (· first | (simp; done) | (simp; omega) | omega)) | ((with_reducible refine cell_new ?_ ?_); (· (simp; done)); (· rfl)) | (with_reducible refine cell_alloc ?_ _) | (with_reducible refine cell_drew ?_) | (with_reducible refine cell_drewN ?_ _) | (with_reducible refine cell_below (by assumption) ?_)))
      have zf14 : w.heap.size < w2.heap.size := World.block_lt_of_cell? _ _ f14
      clear f1 zf1 f2 f3 f4 f5 f6 f7 f8 f9 f10 f11 f12 f13
      go_wp2_with fail
      refine (DI _).mono ?_
      rintro e w3 ⟨rfl, hb3⟩
      obtain ⟨f27, f28, f29, f30, f31, f32, f33, f34, f35, f36, f37, f38, f39⟩ : w3.cell? ⟨w.heap.size, 0, none⟩ = some (.bool false) ∧ w3.cell? ⟨w.heap.size, 1, none⟩ = some (.int .i64 ax) ∧ w3.cell? ⟨w.heap.size, 2, none⟩ = some (.int .i64 ay) ∧ w3.cell? ⟨w.heap.size, 3, none⟩ = some (.int .i64 bx) ∧ w3.cell? ⟨w.heap.size, 4, none⟩ = some (.int .i64 b_y) ∧ w3.cell? ⟨w.heap.size, 5, none⟩ = some (.int .i64 0) ∧ w3.cell? ⟨w.heap.size, 6, none⟩ = some (.int .i64 0) ∧ w3.cell? ⟨w.heap.size, 7, none⟩ = some (.int .i64 0) ∧ w3.cell? ⟨w.heap.size, 8, none⟩ = some (.int .i64 0) ∧ w3.cell? ⟨w.heap.size, 9, none⟩ = some (.int .i64 0) ∧ w3.cell? ⟨w.heap.size, 10, none⟩ = some (.int .i64 L) ∧ w3.cell? ⟨w.heap.size, 11, none⟩ = some (.int .i64 n) ∧ w3.cell? ⟨w.heap.size, 12, none⟩ = some (.bool g) := by
        refine ⟨?_, ?_, ?_, ?_, ?_, ?_, ?_, ?_, ?_, ?_, ?_, ?_, ?_⟩ <;> (refine cell_below hb3 ?_; repeat (first | (with_reducible assumption) | ((with_reducible refine cell_set ?_ ?_ _); (· first | (simp; done) | (simp; omega) | omega)) | ((with_reducible refine cell_new ?_ ?_); (· (simp; done)); (· rfl)) | (with_reducible refine cell_alloc ?_ _) | (with_reducible refine cell_drew ?_) | (with_reducible refine cell_drewN ?_ _) | (with_reducible refine cell_below (by assumption) ?_)))
      have zf27 : w.heap.size < w3.heap.size := World.block_lt_of_cell? _ _ f27
      clear f14 zf14 f15 f16 f17 f18 f19 f20 f21 f22 f23 f24 f25 f26
      go_wp2_with fail
      go_ret
      exact ⟨rfl, by (repeat (with_reducible (first | assumption | exact Below.refl _ _ | refine Below.drew ?_ | refine below_drewN ?_ _ | refine below_set ?_ (by simp; try omega) _ | refine below_alloc ?_ (Nat.le_refl _) _ | refine below_sub (by assumption) ?_)))⟩
  · rw [if_neg h]
    obtain rfl : L = d := by omega
    have h1 : 1 ≤ L := by omega
    clear h
    go_enter Tryz.func20, Tryz.ntmps20
    go_wp2_with fail
    refine (PA _).mono ?_
    rintro e w1 ⟨rfl, hb1⟩
    obtain ⟨f1, f2, f3, f4, f5, f6, f7, f8, f9, f10, f11, f12, f13⟩ : w1.cell? ⟨w.heap.size, 0, none⟩ = some (.bool false) ∧ w1.cell? ⟨w.heap.size, 1, none⟩ = some (.int .i64 ax) ∧ w1.cell? ⟨w.heap.size, 2, none⟩ = some (.int .i64 ay) ∧ w1.cell? ⟨w.heap.size, 3, none⟩ = some (.int .i64 bx) ∧ w1.cell? ⟨w.heap.size, 4, none⟩ = some (.int .i64 b_y) ∧ w1.cell? ⟨w.heap.size, 5, none⟩ = some (.int .i64 0) ∧ w1.cell? ⟨w.heap.size, 6, none⟩ = some (.int .i64 0) ∧ w1.cell? ⟨w.heap.size, 7, none⟩ = some (.int .i64 0) ∧ w1.cell? ⟨w.heap.size, 8, none⟩ = some (.int .i64 0) ∧ w1.cell? ⟨w.heap.size, 9, none⟩ = some (.int .i64 0) ∧ w1.cell? ⟨w.heap.size, 10, none⟩ = some (.int .i64 L) ∧ w1.cell? ⟨w.heap.size, 11, none⟩ = some (.int .i64 n) ∧ w1.cell? ⟨w.heap.size, 12, none⟩ = some (.bool g) := by
      refine ⟨?_, ?_, ?_, ?_, ?_, ?_, ?_, ?_, ?_, ?_, ?_, ?_, ?_⟩ <;> (refine cell_below hb1 ?_; repeat (first | (with_reducible assumption) | ((with_reducible refine cell_set ?_ ?_ _); (· first | (simp; done) | (simp; omega) | omega)) | ((with_reducible refine cell_new ?_ ?_); (· (simp; done)); (· rfl)) | (with_reducible refine cell_alloc ?_ _) | (with_reducible refine cell_drew ?_) | (with_reducible refine cell_drewN ?_ _) | (with_reducible refine cell_below (by assumption) ?_)))
    have zf1 : w.heap.size < w1.heap.size := World.block_lt_of_cell? _ _ f1
    go_wp2_with fail
    refine (PB _).mono ?_
    rintro e w2 ⟨rfl, hb2⟩
    obtain ⟨f14, f15, f16, f17, f18, f19, f20, f21, f22, f23, f24, f25, f26⟩ : w2.cell? ⟨w.heap.size, 0, none⟩ = some (.bool false) ∧ w2.cell? ⟨w.heap.size, 1, none⟩ = some (.int .i64 ax) ∧ w2.cell? ⟨w.heap.size, 2, none⟩ = some (.int .i64 ay) ∧ w2.cell? ⟨w.heap.size, 3, none⟩ = some (.int .i64 bx) ∧ w2.cell? ⟨w.heap.size, 4, none⟩ = some (.int .i64 b_y) ∧ w2.cell? ⟨w.heap.size, 5, none⟩ = some (.int .i64 0) ∧ w2.cell? ⟨w.heap.size, 6, none⟩ = some (.int .i64 0) ∧ w2.cell? ⟨w.heap.size, 7, none⟩ = some (.int .i64 0) ∧ w2.cell? ⟨w.heap.size, 8, none⟩ = some (.int .i64 0) ∧ w2.cell? ⟨w.heap.size, 9, none⟩ = some (.int .i64 0) ∧ w2.cell? ⟨w.heap.size, 10, none⟩ = some (.int .i64 L) ∧ w2.cell? ⟨w.heap.size, 11, none⟩ = some (.int .i64 n) ∧ w2.cell? ⟨w.heap.size, 12, none⟩ = some (.bool g) := by
      refine ⟨?_, ?_, ?_, ?_, ?_, ?_, ?_, ?_, ?_, ?_, ?_, ?_, ?_⟩ <;> (refine cell_below hb2 ?_; repeat (first | (with_reducible assumption) | ((with_reducible refine cell_set ?_ ?_ _); (· first | (simp; done) | (simp; omega) | omega)) | ((with_reducible refine cell_new ?_ ?_); (· (simp; done)); (· rfl)) | (with_reducible refine cell_alloc ?_ _) | (with_reducible refine cell_drew ?_) | (with_reducible refine cell_drewN ?_ _) | (with_reducible refine cell_below (by assumption) ?_)))
    have zf14 : w.heap.size < w2.heap.size := World.block_lt_of_cell? _ _ f14
    clear f1 zf1 f2 f3 f4 f5 f6 f7 f8 f9 f10 f11 f12 f13
    go_wp2_with fail
    refine (DI _).mono ?_
    rintro e w3 ⟨rfl, hb3⟩
    obtain ⟨f27, f28, f29, f30, f31, f32, f33, f34, f35, f36, f37, f38, f39⟩ : w3.cell? ⟨w.heap.size, 0, none⟩ = some (.bool false) ∧ w3.cell? ⟨w.heap.size, 1, none⟩ = some (.int .i64 ax) ∧ w3.cell? ⟨w.heap.size, 2, none⟩ = some (.int .i64 ay) ∧ w3.cell? ⟨w.heap.size, 3, none⟩ = some (.int .i64 bx) ∧ w3.cell? ⟨w.heap.size, 4, none⟩ = some (.int .i64 b_y) ∧ w3.cell? ⟨w.heap.size, 5, none⟩ = some (.int .i64 0) ∧ w3.cell? ⟨w.heap.size, 6, none⟩ = some (.int .i64 0) ∧ w3.cell? ⟨w.heap.size, 7, none⟩ = some (.int .i64 0) ∧ w3.cell? ⟨w.heap.size, 8, none⟩ = some (.int .i64 0) ∧ w3.cell? ⟨w.heap.size, 9, none⟩ = some (.int .i64 0) ∧ w3.cell? ⟨w.heap.size, 10, none⟩ = some (.int .i64 L) ∧ w3.cell? ⟨w.heap.size, 11, none⟩ = some (.int .i64 n) ∧ w3.cell? ⟨w.heap.size, 12, none⟩ = some (.bool g) := by
      refine ⟨?_, ?_, ?_, ?_, ?_, ?_, ?_, ?_, ?_, ?_, ?_, ?_, ?_⟩ <;> (refine cell_below hb3 ?_; repeat (first | (with_reducible assumption) | ((with_reducible refine cell_set ?_ ?_ _); (· first | (simp; done) | (simp; omega) | omega)) | ((with_reducible refine cell_new ?_ ?_); (· (simp; done)); (· rfl)) | (with_reducible refine cell_alloc ?_ _) | (with_reducible refine cell_drew ?_) | (with_reducible refine cell_drewN ?_ _) | (with_reducible refine cell_below (by assumption) ?_)))
    have zf27 : w.heap.size < w3.heap.size := World.block_lt_of_cell? _ _ f27
    clear f14 zf14 f15 f16 f17 f18 f19 f20 f21 f22 f23 f24 f25 f26
    go_wp2_with fail
    go_ret
    exact ⟨rfl, by (repeat (with_reducible (first | assumption | exact Below.refl _ _ | refine Below.drew ?_ | refine below_drewN ?_ _ | refine below_set ?_ (by simp; try omega) _ | refine below_alloc ?_ (Nat.le_refl _) _ | refine below_sub (by assumption) ?_)))⟩
set_option maxRecDepth 100000 in
set_option maxHeartbeats 4000000 in
theorem elem_arcno (g : Bool) (ax ay bx b_y cx cy r f s L n : Int) (ha : vldB ax ay = true) (hb : vldB bx b_y = true) (h : arcB cx cy r f s = false) (w : World) :
    Calls Tryz.prog 20 #[.agg #[.bool true, .int .i64 ax, .int .i64 ay, .int .i64 bx, .int .i64 b_y, .int .i64 cx, .int .i64 cy, .int .i64 r, .int .i64 f, .int .i64 s, .int .i64 L, .int .i64 n, .bool g]] w fun e w' => e = .returned (.int .i64 1) ∧ Below w.heap.size w w' := by
  have PA := fun W => pvalid_e ax ay true ha W
  have PB := fun W => pvalid_e bx b_y true hb W
  have DI := fun W => dist_any ax ay bx b_y W
  generalize distF ax ay bx b_y = d at *
  have TV := fun W => tvalid_any cx cy r f s W
  rw [h] at TV
  clear h ha hb
  · skip
    go_enter Tryz.func20, Tryz.ntmps20
    go_wp2_with fail
    refine (PA _).mono ?_
    rintro e w1 ⟨rfl, hb1⟩
    obtain ⟨f1, f2, f3, f4, f5, f6, f7, f8, f9, f10, f11, f12, f13⟩ : w1.cell? ⟨w.heap.size, 0, none⟩ = some (.bool true) ∧ w1.cell? ⟨w.heap.size, 1, none⟩ = some (.int .i64 ax) ∧ w1.cell? ⟨w.heap.size, 2, none⟩ = some (.int .i64 ay) ∧ w1.cell? ⟨w.heap.size, 3, none⟩ = some (.int .i64 bx) ∧ w1.cell? ⟨w.heap.size, 4, none⟩ = some (.int .i64 b_y) ∧ w1.cell? ⟨w.heap.size, 5, none⟩ = some (.int .i64 cx) ∧ w1.cell? ⟨w.heap.size, 6, none⟩ = some (.int .i64 cy) ∧ w1.cell? ⟨w.heap.size, 7, none⟩ = some (.int .i64 r) ∧ w1.cell? ⟨w.heap.size, 8, none⟩ = some (.int .i64 f) ∧ w1.cell? ⟨w.heap.size, 9, none⟩ = some (.int .i64 s) ∧ w1.cell? ⟨w.heap.size, 10, none⟩ = some (.int .i64 L) ∧ w1.cell? ⟨w.heap.size, 11, none⟩ = some (.int .i64 n) ∧ w1.cell? ⟨w.heap.size, 12, none⟩ = some (.bool g) := by
      refine ⟨?_, ?_, ?_, ?_, ?_, ?_, ?_, ?_, ?_, ?_, ?_, ?_, ?_⟩ <;> (refine cell_below hb1 ?_; repeat (first | (with_reducible assumption) | ((with_reducible refine cell_set ?_ ?_ _); (· first | (simp; done) | (simp; omega) | omega)) | ((with_reducible refine cell_new ?_ ?_); (· (simp; done)); (· rfl)) | (with_reducible refine cell_alloc ?_ _) | (with_reducible refine cell_drew ?_) | (with_reducible refine cell_drewN ?_ _) | (with_reducible refine cell_below (by assumption) ?_)))
    have zf1 : w.heap.size < w1.heap.size := World.block_lt_of_cell? _ _ f1
    go_wp2_with fail
    refine (PB _).mono ?_
    rintro e w2 ⟨rfl, hb2⟩
    obtain ⟨f14, f15, f16, f17, f18, f19, f20, f21, f22, f23, f24, f25, f26⟩ : w2.cell? ⟨w.heap.size, 0, none⟩ = some (.bool true) ∧ w2.cell? ⟨w.heap.size, 1, none⟩ = some (.int .i64 ax) ∧ w2.cell? ⟨w.heap.size, 2, none⟩ = some (.int .i64 ay) ∧ w2.cell? ⟨w.heap.size, 3, none⟩ = some (.int .i64 bx) ∧ w2.cell? ⟨w.heap.size, 4, none⟩ = some (.int .i64 b_y) ∧ w2.cell? ⟨w.heap.size, 5, none⟩ = some (.int .i64 cx) ∧ w2.cell? ⟨w.heap.size, 6, none⟩ = some (.int .i64 cy) ∧ w2.cell? ⟨w.heap.size, 7, none⟩ = some (.int .i64 r) ∧ w2.cell? ⟨w.heap.size, 8, none⟩ = some (.int .i64 f) ∧ w2.cell? ⟨w.heap.size, 9, none⟩ = some (.int .i64 s) ∧ w2.cell? ⟨w.heap.size, 10, none⟩ = some (.int .i64 L) ∧ w2.cell? ⟨w.heap.size, 11, none⟩ = some (.int .i64 n) ∧ w2.cell? ⟨w.heap.size, 12, none⟩ = some (.bool g) := by
      refine ⟨?_, ?_, ?_, ?_, ?_, ?_, ?_, ?_, ?_, ?_, ?_, ?_, ?_⟩ <;> (refine cell_below hb2 ?_; repeat (first | (with_reducible assumption) | ((with_reducible refine cell_set ?_ ?_ _); (· first | (simp; done) | (simp; omega) | omega)) | ((with_reducible refine cell_new ?_ ?_); (· (simp; done)); (· rfl)) | (with_reducible refine cell_alloc ?_ _) | (with_reducible refine cell_drew ?_) | (with_reducible refine cell_drewN ?_ _) | (with_reducible refine cell_below (by assumption) ?_)))
    have zf14 : w.heap.size < w2.heap.size := World.block_lt_of_cell? _ _ f14
    clear f1 zf1 f2 f3 f4 f5 f6 f7 f8 f9 f10 f11 f12 f13
    go_wp2_with fail
    refine (DI _).mono ?_
    rintro e w3 ⟨rfl, hb3⟩
    obtain ⟨f27, f28, f29, f30, f31, f32, f33, f34, f35, f36, f37, f38, f39⟩ : w3.cell? ⟨w.heap.size, 0, none⟩ = some (.bool true) ∧ w3.cell? ⟨w.heap.size, 1, none⟩ = some (.int .i64 ax) ∧ w3.cell? ⟨w.heap.size, 2, none⟩ = some (.int .i64 ay) ∧ w3.cell? ⟨w.heap.size, 3, none⟩ = some (.int .i64 bx) ∧ w3.cell? ⟨w.heap.size, 4, none⟩ = some (.int .i64 b_y) ∧ w3.cell? ⟨w.heap.size, 5, none⟩ = some (.int .i64 cx) ∧ w3.cell? ⟨w.heap.size, 6, none⟩ = some (.int .i64 cy) ∧ w3.cell? ⟨w.heap.size, 7, none⟩ = some (.int .i64 r) ∧ w3.cell? ⟨w.heap.size, 8, none⟩ = some (.int .i64 f) ∧ w3.cell? ⟨w.heap.size, 9, none⟩ = some (.int .i64 s) ∧ w3.cell? ⟨w.heap.size, 10, none⟩ = some (.int .i64 L) ∧ w3.cell? ⟨w.heap.size, 11, none⟩ = some (.int .i64 n) ∧ w3.cell? ⟨w.heap.size, 12, none⟩ = some (.bool g) := by
      refine ⟨?_, ?_, ?_, ?_, ?_, ?_, ?_, ?_, ?_, ?_, ?_, ?_, ?_⟩ <;> (refine cell_below hb3 ?_; repeat (first | (with_reducible assumption) | ((with_reducible refine cell_set ?_ ?_ _); (· first | (simp; done) | (simp; omega) | omega)) | ((with_reducible refine cell_new ?_ ?_); (· (simp; done)); (· rfl)) | (with_reducible refine cell_alloc ?_ _) | (with_reducible refine cell_drew ?_) | (with_reducible refine cell_drewN ?_ _) | (with_reducible refine cell_below (by assumption) ?_)))
    have zf27 : w.heap.size < w3.heap.size := World.block_lt_of_cell? _ _ f27
    clear f14 zf14 f15 f16 f17 f18 f19 f20 f21 f22 f23 f24 f25 f26
    go_wp2_with fail
    refine (TV _).mono ?_
    rintro e w4 ⟨rfl, hb4⟩
    obtain ⟨f40, f41, f42, f43, f44, f45, f46, f47, f48, f49, f50, f51, f52⟩ : w4.cell? ⟨w.heap.size, 0, none⟩ = some (.bool true) ∧ w4.cell? ⟨w.heap.size, 1, none⟩ = some (.int .i64 ax) ∧ w4.cell? ⟨w.heap.size, 2, none⟩ = some (.int .i64 ay) ∧ w4.cell? ⟨w.heap.size, 3, none⟩ = some (.int .i64 bx) ∧ w4.cell? ⟨w.heap.size, 4, none⟩ = some (.int .i64 b_y) ∧ w4.cell? ⟨w.heap.size, 5, none⟩ = some (.int .i64 cx) ∧ w4.cell? ⟨w.heap.size, 6, none⟩ = some (.int .i64 cy) ∧ w4.cell? ⟨w.heap.size, 7, none⟩ = some (.int .i64 r) ∧ w4.cell? ⟨w.heap.size, 8, none⟩ = some (.int .i64 f) ∧ w4.cell? ⟨w.heap.size, 9, none⟩ = some (.int .i64 s) ∧ w4.cell? ⟨w.heap.size, 10, none⟩ = some (.int .i64 L) ∧ w4.cell? ⟨w.heap.size, 11, none⟩ = some (.int .i64 n) ∧ w4.cell? ⟨w.heap.size, 12, none⟩ = some (.bool g) := by
      refine ⟨?_, ?_, ?_, ?_, ?_, ?_, ?_, ?_, ?_, ?_, ?_, ?_, ?_⟩ <;> (refine cell_below hb4 ?_; repeat (first | (with_reducible assumption) | ((with_reducible refine cell_set ?_ ?_ _); (· first | (simp; done) | (simp; omega) | omega)) | ((with_reducible refine cell_new ?_ ?_); (· (simp; done)); (· rfl)) | (with_reducible refine cell_alloc ?_ _) | (with_reducible refine cell_drew ?_) | (with_reducible refine cell_drewN ?_ _) | (with_reducible refine cell_below (by assumption) ?_)))
    have zf40 : w.heap.size < w4.heap.size := World.block_lt_of_cell? _ _ f40
    clear f27 zf27 f28 f29 f30 f31 f32 f33 f34 f35 f36 f37 f38 f39
    go_wp2_with fail
    go_ret
    exact ⟨rfl, by (repeat (with_reducible (first | assumption | exact Below.refl _ _ | refine Below.drew ?_ | refine below_drewN ?_ _ | refine below_set ?_ (by simp; try omega) _ | refine below_alloc ?_ (Nat.le_refl _) _ | refine below_sub (by assumption) ?_)))⟩
set_option maxRecDepth 100000 in
set_option maxHeartbeats 4000000 in
theorem elem_len (g : Bool) (ax ay bx b_y cx cy r f s L n : Int) (ha : vldB ax ay = true) (hb : vldB bx b_y = true) (h : arcB cx cy r f s = true) (hl : L < 1 ∨ ¬ L = arcLen cx cy r f s) (w : World) :
    Calls Tryz.prog 20 #[.agg #[.bool true, .int .i64 ax, .int .i64 ay, .int .i64 bx, .int .i64 b_y, .int .i64 cx, .int .i64 cy, .int .i64 r, .int .i64 f, .int .i64 s, .int .i64 L, .int .i64 n, .bool g]] w fun e w' => e = .returned (.int .i64 4) ∧ Below w.heap.size w w' := by
  have PA := fun W => pvalid_e ax ay true ha W
  have PB := fun W => pvalid_e bx b_y true hb W
  have DI := fun W => dist_any ax ay bx b_y W
  generalize distF ax ay bx b_y = d at *
  have TV := fun W => tvalid_any cx cy r f s W
  have TL := fun W => tlen_any cx cy r f s W
  rw [h] at TV
  generalize arcLen cx cy r f s = m at *
  clear h ha hb
  have h' : L < 1 ∨ (1 ≤ L ∧ (L != m) = true) := by
    rcases Int.lt_or_le L 1 with q | q
    · exact .inl q
    · exact .inr ⟨q, bne_iff_ne.2 (by omega)⟩
  clear hl
  rcases h' with h | ⟨h, k⟩
  all_goals
    go_enter Tryz.func20, Tryz.ntmps20
    go_wp2_with fail
    refine (PA _).mono ?_
    rintro e w1 ⟨rfl, hb1⟩
    obtain ⟨f1, f2, f3, f4, f5, f6, f7, f8, f9, f10, f11, f12, f13⟩ : w1.cell? ⟨w.heap.size, 0, none⟩ = some (.bool true) ∧ w1.cell? ⟨w.heap.size, 1, none⟩ = some (.int .i64 ax) ∧ w1.cell? ⟨w.heap.size, 2, none⟩ = some (.int .i64 ay) ∧ w1.cell? ⟨w.heap.size, 3, none⟩ = some (.int .i64 bx) ∧ w1.cell? ⟨w.heap.size, 4, none⟩ = some (.int .i64 b_y) ∧ w1.cell? ⟨w.heap.size, 5, none⟩ = some (.int .i64 cx) ∧ w1.cell? ⟨w.heap.size, 6, none⟩ = some (.int .i64 cy) ∧ w1.cell? ⟨w.heap.size, 7, none⟩ = some (.int .i64 r) ∧ w1.cell? ⟨w.heap.size, 8, none⟩ = some (.int .i64 f) ∧ w1.cell? ⟨w.heap.size, 9, none⟩ = some (.int .i64 s) ∧ w1.cell? ⟨w.heap.size, 10, none⟩ = some (.int .i64 L) ∧ w1.cell? ⟨w.heap.size, 11, none⟩ = some (.int .i64 n) ∧ w1.cell? ⟨w.heap.size, 12, none⟩ = some (.bool g) := by
      refine ⟨?_, ?_, ?_, ?_, ?_, ?_, ?_, ?_, ?_, ?_, ?_, ?_, ?_⟩ <;> (refine cell_below hb1 ?_; repeat (first | (with_reducible assumption) | ((with_reducible refine cell_set ?_ ?_ _); (· first | (simp; done) | (simp; omega) | omega)) | ((with_reducible refine cell_new ?_ ?_); (· (simp; done)); (· rfl)) | (with_reducible refine cell_alloc ?_ _) | (with_reducible refine cell_drew ?_) | (with_reducible refine cell_drewN ?_ _) | (with_reducible refine cell_below (by assumption) ?_)))
    have zf1 : w.heap.size < w1.heap.size := World.block_lt_of_cell? _ _ f1
    go_wp2_with fail
    refine (PB _).mono ?_
    rintro e w2 ⟨rfl, hb2⟩
    obtain ⟨f14, f15, f16, f17, f18, f19, f20, f21, f22, f23, f24, f25, f26⟩ : w2.cell? ⟨w.heap.size, 0, none⟩ = some (.bool true) ∧ w2.cell? ⟨w.heap.size, 1, none⟩ = some (.int .i64 ax) ∧ w2.cell? ⟨w.heap.size, 2, none⟩ = some (.int .i64 ay) ∧ w2.cell? ⟨w.heap.size, 3, none⟩ = some (.int .i64 bx) ∧ w2.cell? ⟨w.heap.size, 4, none⟩ = some (.int .i64 b_y) ∧ w2.cell? ⟨w.heap.size, 5, none⟩ = some (.int .i64 cx) ∧ w2.cell? ⟨w.heap.size, 6, none⟩ = some (.int .i64 cy) ∧ w2.cell? ⟨w.heap.size, 7, none⟩ = some (.int .i64 r) ∧ w2.cell? ⟨w.heap.size, 8, none⟩ = some (.int .i64 f) ∧ w2.cell? ⟨w.heap.size, 9, none⟩ = some (.int .i64 s) ∧ w2.cell? ⟨w.heap.size, 10, none⟩ = some (.int .i64 L) ∧ w2.cell? ⟨w.heap.size, 11, none⟩ = some (.int .i64 n) ∧ w2.cell? ⟨w.heap.size, 12, none⟩ = some (.bool g) := by
      refine ⟨?_, ?_, ?_, ?_, ?_, ?_, ?_, ?_, ?_, ?_, ?_, ?_, ?_⟩ <;> (refine cell_below hb2 ?_; repeat (first | (with_reducible assumption) | ((with_reducible refine cell_set ?_ ?_ _); (· first | (simp; done) | (simp; omega) | omega)) | ((with_reducible refine cell_new ?_ ?_); (· (simp; done)); (· rfl)) | (with_reducible refine cell_alloc ?_ _) | (with_reducible refine cell_drew ?_) | (with_reducible refine cell_drewN ?_ _) | (with_reducible refine cell_below (by assumption) ?_)))
    have zf14 : w.heap.size < w2.heap.size := World.block_lt_of_cell? _ _ f14
    clear f1 zf1 f2 f3 f4 f5 f6 f7 f8 f9 f10 f11 f12 f13
    go_wp2_with fail
    refine (DI _).mono ?_
    rintro e w3 ⟨rfl, hb3⟩
    obtain ⟨f27, f28, f29, f30, f31, f32, f33, f34, f35, f36, f37, f38, f39⟩ : w3.cell? ⟨w.heap.size, 0, none⟩ = some (.bool true) ∧ w3.cell? ⟨w.heap.size, 1, none⟩ = some (.int .i64 ax) ∧ w3.cell? ⟨w.heap.size, 2, none⟩ = some (.int .i64 ay) ∧ w3.cell? ⟨w.heap.size, 3, none⟩ = some (.int .i64 bx) ∧ w3.cell? ⟨w.heap.size, 4, none⟩ = some (.int .i64 b_y) ∧ w3.cell? ⟨w.heap.size, 5, none⟩ = some (.int .i64 cx) ∧ w3.cell? ⟨w.heap.size, 6, none⟩ = some (.int .i64 cy) ∧ w3.cell? ⟨w.heap.size, 7, none⟩ = some (.int .i64 r) ∧ w3.cell? ⟨w.heap.size, 8, none⟩ = some (.int .i64 f) ∧ w3.cell? ⟨w.heap.size, 9, none⟩ = some (.int .i64 s) ∧ w3.cell? ⟨w.heap.size, 10, none⟩ = some (.int .i64 L) ∧ w3.cell? ⟨w.heap.size, 11, none⟩ = some (.int .i64 n) ∧ w3.cell? ⟨w.heap.size, 12, none⟩ = some (.bool g) := by
      refine ⟨?_, ?_, ?_, ?_, ?_, ?_, ?_, ?_, ?_, ?_, ?_, ?_, ?_⟩ <;> (refine cell_below hb3 ?_; repeat (first | (with_reducible assumption) | ((with_reducible refine cell_set ?_ ?_ _); (· first | (simp; done) | (simp; omega) | omega)) | ((with_reducible refine cell_new ?_ ?_); (· (simp; done)); (· rfl)) | (with_reducible refine cell_alloc ?_ _) | (with_reducible refine cell_drew ?_) | (with_reducible refine cell_drewN ?_ _) | (with_reducible refine cell_below (by assumption) ?_)))
    have zf27 : w.heap.size < w3.heap.size := World.block_lt_of_cell? _ _ f27
    clear f14 zf14 f15 f16 f17 f18 f19 f20 f21 f22 f23 f24 f25 f26
    go_wp2_with fail
    refine (TV _).mono ?_
    rintro e w4 ⟨rfl, hb4⟩
    obtain ⟨f40, f41, f42, f43, f44, f45, f46, f47, f48, f49, f50, f51, f52⟩ : w4.cell? ⟨w.heap.size, 0, none⟩ = some (.bool true) ∧ w4.cell? ⟨w.heap.size, 1, none⟩ = some (.int .i64 ax) ∧ w4.cell? ⟨w.heap.size, 2, none⟩ = some (.int .i64 ay) ∧ w4.cell? ⟨w.heap.size, 3, none⟩ = some (.int .i64 bx) ∧ w4.cell? ⟨w.heap.size, 4, none⟩ = some (.int .i64 b_y) ∧ w4.cell? ⟨w.heap.size, 5, none⟩ = some (.int .i64 cx) ∧ w4.cell? ⟨w.heap.size, 6, none⟩ = some (.int .i64 cy) ∧ w4.cell? ⟨w.heap.size, 7, none⟩ = some (.int .i64 r) ∧ w4.cell? ⟨w.heap.size, 8, none⟩ = some (.int .i64 f) ∧ w4.cell? ⟨w.heap.size, 9, none⟩ = some (.int .i64 s) ∧ w4.cell? ⟨w.heap.size, 10, none⟩ = some (.int .i64 L) ∧ w4.cell? ⟨w.heap.size, 11, none⟩ = some (.int .i64 n) ∧ w4.cell? ⟨w.heap.size, 12, none⟩ = some (.bool g) := by
      refine ⟨?_, ?_, ?_, ?_, ?_, ?_, ?_, ?_, ?_, ?_, ?_, ?_, ?_⟩ <;> (refine cell_below hb4 ?_; repeat (first | (with_reducible assumption) | ((with_reducible refine cell_set ?_ ?_ _); (· first | (simp; done) | (simp; omega) | omega)) | ((with_reducible refine cell_new ?_ ?_); (· (simp; done)); (· rfl)) | (with_reducible refine cell_alloc ?_ _) | (with_reducible refine cell_drew ?_) | (with_reducible refine cell_drewN ?_ _) | (with_reducible refine cell_below (by assumption) ?_)))
    have zf40 : w.heap.size < w4.heap.size := World.block_lt_of_cell? _ _ f40
    clear f27 zf27 f28 f29 f30 f31 f32 f33 f34 f35 f36 f37 f38 f39
    go_wp2_with fail
    refine (TL _).mono ?_
    rintro e w5 ⟨rfl, hb5⟩
    obtain ⟨f53, f54, f55, f56, f57, f58, f59, f60, f61, f62, f63, f64, f65⟩ : w5.cell? ⟨w.heap.size, 0, none⟩ = some (.bool true) ∧ w5.cell? ⟨w.heap.size, 1, none⟩ = some (.int .i64 ax) ∧ w5.cell? ⟨w.heap.size, 2, none⟩ = some (.int .i64 ay) ∧ w5.cell? ⟨w.heap.size, 3, none⟩ = some (.int .i64 bx) ∧ w5.cell? ⟨w.heap.size, 4, none⟩ = some (.int .i64 b_y) ∧ w5.cell? ⟨w.heap.size, 5, none⟩ = some (.int .i64 cx) ∧ w5.cell? ⟨w.heap.size, 6, none⟩ = some (.int .i64 cy) ∧ w5.cell? ⟨w.heap.size, 7, none⟩ = some (.int .i64 r) ∧ w5.cell? ⟨w.heap.size, 8, none⟩ = some (.int .i64 f) ∧ w5.cell? ⟨w.heap.size, 9, none⟩ = some (.int .i64 s) ∧ w5.cell? ⟨w.heap.size, 10, none⟩ = some (.int .i64 L) ∧ w5.cell? ⟨w.heap.size, 11, none⟩ = some (.int .i64 n) ∧ w5.cell? ⟨w.heap.size, 12, none⟩ = some (.bool g) := by
      refine ⟨?_, ?_, ?_, ?_, ?_, ?_, ?_, ?_, ?_, ?_, ?_, ?_, ?_⟩ <;> (refine cell_below hb5 ?_; repeat (first | (with_reducible assumption) | ((with_reducible refine cell_set ?_ ?_ _); (· first | (simp; done) | (simp; omega) | omega)) | ((with_reducible refine cell_new ?_ ?_); (· (simp; done)); (· rfl)) | (with_reducible refine cell_alloc ?_ _) | (with_reducible refine cell_drew ?_) | (with_reducible refine cell_drewN ?_ _) | (with_reducible refine cell_below (by assumption) ?_)))
    have zf53 : w.heap.size < w5.heap.size := World.block_lt_of_cell? _ _ f53
    clear f40 zf40 f41 f42 f43 f44 f45 f46 f47 f48 f49 f50 f51 f52
    go_wp2_with fail
    go_ret
    exact ⟨rfl, by (repeat (with_reducible (first | assumption | exact Below.refl _ _ | refine Below.drew ?_ | refine below_drewN ?_ _ | refine below_set ?_ (by simp; try omega) _ | refine below_alloc ?_ (Nat.le_refl _) _ | refine below_sub (by assumption) ?_)))⟩
set_option maxRecDepth 100000 in
set_option maxHeartbeats 4000000 in
theorem elem_arc (g : Bool) (ax ay bx b_y cx cy r f s L n : Int) (ha : vldB ax ay = true) (hb : vldB bx b_y = true) (h : arcB cx cy r f s = true) (h1 : 1 ≤ L) (hl : L = arcLen cx cy r f s) (w : World) :
    Calls Tryz.prog 20 #[.agg #[.bool true, .int .i64 ax, .int .i64 ay, .int .i64 bx, .int .i64 b_y, .int .i64 cx, .int .i64 cy, .int .i64 r, .int .i64 f, .int .i64 s, .int .i64 L, .int .i64 n, .bool g]] w fun e w' => e = .returned (.int .i64 (if awayB cx cy r f s 0 ax ay || awayB cx cy r f s L bx b_y then 10 else 0)) ∧ Below w.heap.size w w' := by
  have PA := fun W => pvalid_e ax ay true ha W
  have PB := fun W => pvalid_e bx b_y true hb W
  have DI := fun W => dist_any ax ay bx b_y W
  generalize distF ax ay bx b_y = d at *
  have TV := fun W => tvalid_any cx cy r f s W
  have TL := fun W => tlen_any cx cy r f s W
  rw [h] at TV
  rw [← hl] at TL
  have HL := hide hl
  clear hl
  have W0 := fun W => away_any cx cy r f s 0 ax ay ha W
  have W1 := fun W => away_any cx cy r f s L bx b_y hb W
  clear h ha hb
  generalize awayB cx cy r f s 0 ax ay = b0 at *
  generalize awayB cx cy r f s L bx b_y = b1 at *
  rcases b0 with _ | _
  · simp only [Bool.false_or]
    rcases b1 with _ | _
    all_goals
      simp only [if_true, if_false, Bool.false_eq_true]
      go_enter Tryz.func20, Tryz.ntmps20
      go_wp2_with fail
      refine (PA _).mono ?_
      rintro e w1 ⟨rfl, hb1⟩
      obtain ⟨f1, f2, f3, f4, f5, f6, f7, f8, f9, f10, f11, f12, f13⟩ : w1.cell? ⟨w.heap.size, 0, none⟩ = some (.bool true) ∧ w1.cell? ⟨w.heap.size, 1, none⟩ = some (.int .i64 ax) ∧ w1.cell? ⟨w.heap.size, 2, none⟩ = some (.int .i64 ay) ∧ w1.cell? ⟨w.heap.size, 3, none⟩ = some (.int .i64 bx) ∧ w1.cell? ⟨w.heap.size, 4, none⟩ = some (.int .i64 b_y) ∧ w1.cell? ⟨w.heap.size, 5, none⟩ = some (.int .i64 cx) ∧ w1.cell? ⟨w.heap.size, 6, none⟩ = some (.int .i64 cy) ∧ w1.cell? ⟨w.heap.size, 7, none⟩ = some (.int .i64 r) ∧ w1.cell? ⟨w.heap.size, 8, none⟩ = some (.int .i64 f) ∧ w1.cell? ⟨w.heap.size, 9, none⟩ = some (.int .i64 s) ∧ w1.cell? ⟨w.heap.size, 10, none⟩ = some (.int .i64 L) ∧ w1.cell? ⟨w.heap.size, 11, none⟩ = some (.int .i64 n) ∧ w1.cell? ⟨w.heap.size, 12, none⟩ = some (.bool g) := by
        refine ⟨?_, ?_, ?_, ?_, ?_, ?_, ?_, ?_, ?_, ?_, ?_, ?_, ?_⟩ <;> (refine cell_below hb1 ?_; repeat (first | (with_reducible assumption) | ((with_reducible refine cell_set ?_ ?_ _); (· first | (simp; done) | (simp; omega) | omega)) | ((with_reducible refine cell_new ?_ ?_); (· (simp; done)); (· rfl)) | (with_reducible refine cell_alloc ?_ _) | (with_reducible refine cell_drew ?_) | (with_reducible refine cell_drewN ?_ _) | (with_reducible refine cell_below (by assumption) ?_)))
      have zf1 : w.heap.size < w1.heap.size := World.block_lt_of_cell? _ _ f1
      go_wp2_with fail
      refine (PB _).mono ?_
      rintro e w2 ⟨rfl, hb2⟩
      obtain ⟨f14, f15, f16, f17, f18, f19, f20, f21, f22, f23, f24, f25, f26⟩ : w2.cell? ⟨w.heap.size, 0, none⟩ = some (.bool true) ∧ w2.cell? ⟨w.heap.size, 1, none⟩ = some (.int .i64 ax) ∧ w2.cell? ⟨w.heap.size, 2, none⟩ = some (.int .i64 ay) ∧ w2.cell? ⟨w.heap.size, 3, none⟩ = some (.int .i64 bx) ∧ w2.cell? ⟨w.heap.size, 4, none⟩ = some (.int .i64 b_y) ∧ w2.cell? ⟨w.heap.size, 5, none⟩ = some (.int .i64 cx) ∧ w2.cell? ⟨w.heap.size, 6, none⟩ = some (.int .i64 cy) ∧ w2.cell? ⟨w.heap.size, 7, none⟩ = some (.int .i64 r) ∧ w2.cell? ⟨w.heap.size, 8, none⟩ = some (.int .i64 f) ∧ w2.cell? ⟨w.heap.size, 9, none⟩ = some (.int .i64 s) ∧ w2.cell? ⟨w.heap.size, 10, none⟩ = some (.int .i64 L) ∧ w2.cell? ⟨w.heap.size, 11, none⟩ = some (.int .i64 n) ∧ w2.cell? ⟨w.heap.size, 12, none⟩ = some (.bool g) := by
        refine ⟨?_, ?_, ?_, ?_, ?_, ?_, ?_, ?_, ?_, ?_, ?_, ?_, ?_⟩ <;> (refine cell_below hb2 ?_; repeat (first | (with_reducible assumption) | ((with_reducible refine cell_set ?_ ?_ _); (· first | (simp; done) | (simp; omega) | omega)) | ((with_reducible refine cell_new ?_ ?_); (· (simp; done)); (· rfl)) | (with_reducible refine cell_alloc ?_ _) | (with_reducible refine cell_drew ?_) | (with_reducible refine cell_drewN ?_ _) | (with_reducible refine cell_below (by assumption) ?_)))
      have zf14 : w.heap.size < w2.heap.size := World.block_lt_of_cell? _ _ f14
      clear f1 zf1 f2 f3 f4 f5 f6 f7 f8 f9 f10 f11 f12 f13
      go_wp2_with fail
      refine (DI _).mono ?_
      rintro e w3 ⟨rfl, hb3⟩
      obtain ⟨f27, f28, f29, f30, f31, f32, f33, f34, f35, f36, f37, f38, f39⟩ : w3.cell? ⟨w.heap.size, 0, none⟩ = some (.bool true) ∧ w3.cell? ⟨w.heap.size, 1, none⟩ = some (.int .i64 ax) ∧ w3.cell? ⟨w.heap.size, 2, none⟩ = some (.int .i64 ay) ∧ w3.cell? ⟨w.heap.size, 3, none⟩ = some (.int .i64 bx) ∧ w3.cell? ⟨w.heap.size, 4, none⟩ = some (.int .i64 b_y) ∧ w3.cell? ⟨w.heap.size, 5, none⟩ = some (.int .i64 cx) ∧ w3.cell? ⟨w.heap.size, 6, none⟩ = some (.int .i64 cy) ∧ w3.cell? ⟨w.heap.size, 7, none⟩ = some (.int .i64 r) ∧ w3.cell? ⟨w.heap.size, 8, none⟩ = some (.int .i64 f) ∧ w3.cell? ⟨w.heap.size, 9, none⟩ = some (.int .i64 s) ∧ w3.cell? ⟨w.heap.size, 10, none⟩ = some (.int .i64 L) ∧ w3.cell? ⟨w.heap.size, 11, none⟩ = some (.int .i64 n) ∧ w3.cell? ⟨w.heap.size, 12, none⟩ = some (.bool g) := by
        refine ⟨?_, ?_, ?_, ?_, ?_, ?_, ?_, ?_, ?_, ?_, ?_, ?_, ?_⟩ <;> (refine cell_below hb3 ?_; repeat (first | (with_reducible assumption) | ((with_reducible refine cell_set ?_ ?_ _); (· first | (simp; done) | (simp; omega) | omega)) | ((with_reducible refine cell_new ?_ ?_); (· (simp; done)); (· rfl)) | (with_reducible refine cell_alloc ?_ _) | (with_reducible refine cell_drew ?_) | (with_reducible refine cell_drewN ?_ _) | (with_reducible refine cell_below (by assumption) ?_)))
      have zf27 : w.heap.size < w3.heap.size := World.block_lt_of_cell? _ _ f27
      clear f14 zf14 f15 f16 f17 f18 f19 f20 f21 f22 f23 f24 f25 f26
      go_wp2_with fail
      refine (TV _).mono ?_
      rintro e w4 ⟨rfl, hb4⟩
      obtain ⟨f40, f41, f42, f43, f44, f45, f46, f47, f48, f49, f50, f51, f52⟩ : w4.cell? ⟨w.heap.size, 0, none⟩ = some (.bool true) ∧ w4.cell? ⟨w.heap.size, 1, none⟩ = some (.int .i64 ax) ∧ w4.cell? ⟨w.heap.size, 2, none⟩ = some (.int .i64 ay) ∧ w4.cell? ⟨w.heap.size, 3, none⟩ = some (.int .i64 bx) ∧ w4.cell? ⟨w.heap.size, 4, none⟩ = some (.int .i64 b_y) ∧ w4.cell? ⟨w.heap.size, 5, none⟩ = some (.int .i64 cx) ∧ w4.cell? ⟨w.heap.size, 6, none⟩ = some (.int .i64 cy) ∧ w4.cell? ⟨w.heap.size, 7, none⟩ = some (.int .i64 r) ∧ w4.cell? ⟨w.heap.size, 8, none⟩ = some (.int .i64 f) ∧ w4.cell? ⟨w.heap.size, 9, none⟩ = some (.int .i64 s) ∧ w4.cell? ⟨w.heap.size, 10, none⟩ = some (.int .i64 L) ∧ w4.cell? ⟨w.heap.size, 11, none⟩ = some (.int .i64 n) ∧ w4.cell? ⟨w.heap.size, 12, none⟩ = some (.bool g) := by
        refine ⟨?_, ?_, ?_, ?_, ?_, ?_, ?_, ?_, ?_, ?_, ?_, ?_, ?_⟩ <;> (refine cell_below hb4 ?_; repeat (first | (with_reducible assumption) | ((with_reducible refine cell_set ?_ ?_ _); (· first | (simp; done) | (simp; omega) | omega)) | ((with_reducible refine cell_new ?_ ?_); (· (simp; done)); (· rfl)) | (with_reducible refine cell_alloc ?_ _) | (with_reducible refine cell_drew ?_) | (with_reducible refine cell_drewN ?_ _) | (with_reducible refine cell_below (by assumption) ?_)))
      have zf40 : w.heap.size < w4.heap.size := World.block_lt_of_cell? _ _ f40
      clear f27 zf27 f28 f29 f30 f31 f32 f33 f34 f35 f36 f37 f38 f39
      go_wp2_with fail
      refine (TL _).mono ?_
      rintro e w5 ⟨rfl, hb5⟩
      obtain ⟨f53, f54, f55, f56, f57, f58, f59, f60, f61, f62, f63, f64, f65⟩ : w5.cell? ⟨w.heap.size, 0, none⟩ = some (.bool true) ∧ w5.cell? ⟨w.heap.size, 1, none⟩ = some (.int .i64 ax) ∧ w5.cell? ⟨w.heap.size, 2, none⟩ = some (.int .i64 ay) ∧ w5.cell? ⟨w.heap.size, 3, none⟩ = some (.int .i64 bx) ∧ w5.cell? ⟨w.heap.size, 4, none⟩ = some (.int .i64 b_y) ∧ w5.cell? ⟨w.heap.size, 5, none⟩ = some (.int .i64 cx) ∧ w5.cell? ⟨w.heap.size, 6, none⟩ = some (.int .i64 cy) ∧ w5.cell? ⟨w.heap.size, 7, none⟩ = some (.int .i64 r) ∧ w5.cell? ⟨w.heap.size, 8, none⟩ = some (.int .i64 f) ∧ w5.cell? ⟨w.heap.size, 9, none⟩ = some (.int .i64 s) ∧ w5.cell? ⟨w.heap.size, 10, none⟩ = some (.int .i64 L) ∧ w5.cell? ⟨w.heap.size, 11, none⟩ = some (.int .i64 n) ∧ w5.cell? ⟨w.heap.size, 12, none⟩ = some (.bool g) := by
        refine ⟨?_, ?_, ?_, ?_, ?_, ?_, ?_, ?_, ?_, ?_, ?_, ?_, ?_⟩ <;> (refine cell_below hb5 ?_; repeat (first | (with_reducible assumption) | ((with_reducible refine cell_set ?_ ?_ _); (· first | (simp; done) | (simp; omega) | omega)) | ((with_reducible refine cell_new ?_ ?_); (· (simp; done)); (· rfl)) | (with_reducible refine cell_alloc ?_ _) | (with_reducible refine cell_drew ?_) | (with_reducible refine cell_drewN ?_ _) | (with_reducible refine cell_below (by assumption) ?_)))
      have zf53 : w.heap.size < w5.heap.size := World.block_lt_of_cell? _ _ f53
      clear f40 zf40 f41 f42 f43 f44 f45 f46 f47 f48 f49 f50 f51 f52
      go_wp2_with fail
      refine (W0 _).mono ?_
      rintro e w6 ⟨rfl, hb6⟩
      obtain ⟨f66, f67, f68, f69, f70, f71, f72, f73, f74, f75, f76, f77, f78⟩ : w6.cell? ⟨w.heap.size, 0, none⟩ = some (.bool true) ∧ w6.cell? ⟨w.heap.size, 1, none⟩ = some (.int .i64 ax) ∧ w6.cell? ⟨w.heap.size, 2, none⟩ = some (.int .i64 ay) ∧ w6.cell? ⟨w.heap.size, 3, none⟩ = some (.int .i64 bx) ∧ w6.cell? ⟨w.heap.size, 4, none⟩ = some (.int .i64 b_y) ∧ w6.cell? ⟨w.heap.size, 5, none⟩ = some (.int .i64 cx) ∧ w6.cell? ⟨w.heap.size, 6, none⟩ = some (.int .i64 cy) ∧ w6.cell? ⟨w.heap.size, 7, none⟩ = some (.int .i64 r) ∧ w6.cell? ⟨w.heap.size, 8, none⟩ = some (.int .i64 f) ∧ w6.cell? ⟨w.heap.size, 9, none⟩ = some (.int .i64 s) ∧ w6.cell? ⟨w.heap.size, 10, none⟩ = some (.int .i64 L) ∧ w6.cell? ⟨w.heap.size, 11, none⟩ = some (.int .i64 n) ∧ w6.cell? ⟨w.heap.size, 12, none⟩ = some (.bool g) := by
        refine ⟨?_, ?_, ?_, ?_, ?_, ?_, ?_, ?_, ?_, ?_, ?_, ?_, ?_⟩ <;> (refine cell_below hb6 ?_; repeat (first | (with_reducible assumption) | ((with_reducible refine cell_set ?_ ?_ _); (· first | (simp; done) | (simp; omega) | omega)) | ((with_reducible refine cell_new ?_ ?_); (· (simp; done)); (· rfl)) | (with_reducible refine cell_alloc ?_ _) | (with_reducible refine cell_drew ?_) | (with_reducible refine cell_drewN ?_ _) | (with_reducible refine cell_below (by assumption) ?_)))
      have zf66 : w.heap.size < w6.heap.size := World.block_lt_of_cell? _ _ f66
      clear f53 zf53 f54 f55 f56 f57 f58 f59 f60 f61 f62 f63 f64 f65
      go_wp2_with fail
      refine (W1 _).mono ?_
      rintro e w7 ⟨rfl, hb7⟩
      obtain ⟨f79, f80, f81, f82, f83, f84, f85, f86, f87, f88, f89, f90, f91⟩ : w7.cell? ⟨w.heap.size, 0, none⟩ = some (.bool true) ∧ w7.cell? ⟨w.heap.size, 1, none⟩ = some (.int .i64 ax) ∧ w7.cell? ⟨w.heap.size, 2, none⟩ = some (.int .i64 ay) ∧ w7.cell? ⟨w.heap.size, 3, none⟩ = some (.int .i64 bx) ∧ w7.cell? ⟨w.heap.size, 4, none⟩ = some (.int .i64 b_y) ∧ w7.cell? ⟨w.heap.size, 5, none⟩ = some (.int .i64 cx) ∧ w7.cell? ⟨w.heap.size, 6, none⟩ = some (.int .i64 cy) ∧ w7.cell? ⟨w.heap.size, 7, none⟩ = some (.int .i64 r) ∧ w7.cell? ⟨w.heap.size, 8, none⟩ = some (.int .i64 f) ∧ w7.cell? ⟨w.heap.size, 9, none⟩ = some (.int .i64 s) ∧ w7.cell? ⟨w.heap.size, 10, none⟩ = some (.int .i64 L) ∧ w7.cell? ⟨w.heap.size, 11, none⟩ = some (.int .i64 n) ∧ w7.cell? ⟨w.heap.size, 12, none⟩ = some (.bool g) := by
        refine ⟨?_, ?_, ?_, ?_, ?_, ?_, ?_, ?_, ?_, ?_, ?_, ?_, ?_⟩ <;> (refine cell_below hb7 ?_; repeat (first | (with_reducible assumption) | ((with_reducible refine cell_set ?_ ?_ _); (· first | (simp; done) | (simp; omega) | omega)) | ((with_reducible refine cell_new ?_ ?_); (· (simp; done)); (· rfl)) | (with_reducible refine cell_alloc ?_ _) | (with_reducible refine cell_drew ?_) | (with_reducible refine cell_drewN ?_ _) | (with_reducible refine cell_below (by assumption) ?_)))
      have zf79 : w.heap.size < w7.heap.size := World.block_lt_of_cell? _ _ f79
      clear f66 zf66 f67 f68 f69 f70 f71 f72 f73 f74 f75 f76 f77 f78
      go_wp2_with fail
      go_ret
      exact ⟨rfl, by (repeat (with_reducible (first | assumption | exact Below.refl _ _ | refine Below.drew ?_ | refine below_drewN ?_ _ | refine below_set ?_ (by simp; try omega) _ | refine below_alloc ?_ (Nat.le_refl _) _ | refine below_sub (by assumption) ?_)))⟩
  · simp only [Bool.true_or, if_true]
    go_enter Tryz.func20, Tryz.ntmps20
    go_wp2_with fail
    refine (PA _).mono ?_
    rintro e w1 ⟨rfl, hb1⟩
    obtain ⟨f1, f2, f3, f4, f5, f6, f7, f8, f9, f10, f11, f12, f13⟩ : w1.cell? ⟨w.heap.size, 0, none⟩ = some (.bool true) ∧ w1.cell? ⟨w.heap.size, 1, none⟩ = some (.int .i64 ax) ∧ w1.cell? ⟨w.heap.size, 2, none⟩ = some (.int .i64 ay) ∧ w1.cell? ⟨w.heap.size, 3, none⟩ = some (.int .i64 bx) ∧ w1.cell? ⟨w.heap.size, 4, none⟩ = some (.int .i64 b_y) ∧ w1.cell? ⟨w.heap.size, 5, none⟩ = some (.int .i64 cx) ∧ w1.cell? ⟨w.heap.size, 6, none⟩ = some (.int .i64 cy) ∧ w1.cell? ⟨w.heap.size, 7, none⟩ = some (.int .i64 r) ∧ w1.cell? ⟨w.heap.size, 8, none⟩ = some (.int .i64 f) ∧ w1.cell? ⟨w.heap.size, 9, none⟩ = some (.int .i64 s) ∧ w1.cell? ⟨w.heap.size, 10, none⟩ = some (.int .i64 L) ∧ w1.cell? ⟨w.heap.size, 11, none⟩ = some (.int .i64 n) ∧ w1.cell? ⟨w.heap.size, 12, none⟩ = some (.bool g) := by
      refine ⟨?_, ?_, ?_, ?_, ?_, ?_, ?_, ?_, ?_, ?_, ?_, ?_, ?_⟩ <;> (refine cell_below hb1 ?_; repeat (first | (with_reducible assumption) | ((with_reducible refine cell_set ?_ ?_ _); (· first | (simp; done) | (simp; omega) | omega)) | ((with_reducible refine cell_new ?_ ?_); (· (simp; done)); (· rfl)) | (with_reducible refine cell_alloc ?_ _) | (with_reducible refine cell_drew ?_) | (with_reducible refine cell_drewN ?_ _) | (with_reducible refine cell_below (by assumption) ?_)))
    have zf1 : w.heap.size < w1.heap.size := World.block_lt_of_cell? _ _ f1
    go_wp2_with fail
    refine (PB _).mono ?_
    rintro e w2 ⟨rfl, hb2⟩
    obtain ⟨f14, f15, f16, f17, f18, f19, f20, f21, f22, f23, f24, f25, f26⟩ : w2.cell? ⟨w.heap.size, 0, none⟩ = some (.bool true) ∧ w2.cell? ⟨w.heap.size, 1, none⟩ = some (.int .i64 ax) ∧ w2.cell? ⟨w.heap.size, 2, none⟩ = some (.int .i64 ay) ∧ w2.cell? ⟨w.heap.size, 3, none⟩ = some (.int .i64 bx) ∧ w2.cell? ⟨w.heap.size, 4, none⟩ = some (.int .i64 b_y) ∧ w2.cell? ⟨w.heap.size, 5, none⟩ = some (.int .i64 cx) ∧ w2.cell? ⟨w.heap.size, 6, none⟩ = some (.int .i64 cy) ∧ w2.cell? ⟨w.heap.size, 7, none⟩ = some (.int .i64 r) ∧ w2.cell? ⟨w.heap.size, 8, none⟩ = some (.int .i64 f) ∧ w2.cell? ⟨w.heap.size, 9, none⟩ = some (.int .i64 s) ∧ w2.cell? ⟨w.heap.size, 10, none⟩ = some (.int .i64 L) ∧ w2.cell? ⟨w.heap.size, 11, none⟩ = some (.int .i64 n) ∧ w2.cell? ⟨w.heap.size, 12, none⟩ = some (.bool g) := by
      refine ⟨?_, ?_, ?_, ?_, ?_, ?_, ?_, ?_, ?_, ?_, ?_, ?_, ?_⟩ <;> (refine cell_below hb2 ?_; repeat (first | (with_reducible assumption) | ((with_reducible refine cell_set ?_ ?_ _); (· first | (simp; done) | (simp; omega) | omega)) | ((with_reducible refine cell_new ?_ ?_); (· (simp; done)); (· rfl)) | (with_reducible refine cell_alloc ?_ _) | (with_reducible refine cell_drew ?_) | (with_reducible refine cell_drewN ?_ _) | (with_reducible refine cell_below (by assumption) ?_)))
    have zf14 : w.heap.size < w2.heap.size := World.block_lt_of_cell? _ _ f14
    clear f1 zf1 f2 f3 f4 f5 f6 f7 f8 f9 f10 f11 f12 f13
    go_wp2_with fail
    refine (DI _).mono ?_
    rintro e w3 ⟨rfl, hb3⟩
    obtain ⟨f27, f28, f29, f30, f31, f32, f33, f34, f35, f36, f37, f38, f39⟩ : w3.cell? ⟨w.heap.size, 0, none⟩ = some (.bool true) ∧ w3.cell? ⟨w.heap.size, 1, none⟩ = some (.int .i64 ax) ∧ w3.cell? ⟨w.heap.size, 2, none⟩ = some (.int .i64 ay) ∧ w3.cell? ⟨w.heap.size, 3, none⟩ = some (.int .i64 bx) ∧ w3.cell? ⟨w.heap.size, 4, none⟩ = some (.int .i64 b_y) ∧ w3.cell? ⟨w.heap.size, 5, none⟩ = some (.int .i64 cx) ∧ w3.cell? ⟨w.heap.size, 6, none⟩ = some (.int .i64 cy) ∧ w3.cell? ⟨w.heap.size, 7, none⟩ = some (.int .i64 r) ∧ w3.cell? ⟨w.heap.size, 8, none⟩ = some (.int .i64 f) ∧ w3.cell? ⟨w.heap.size, 9, none⟩ = some (.int .i64 s) ∧ w3.cell? ⟨w.heap.size, 10, none⟩ = some (.int .i64 L) ∧ w3.cell? ⟨w.heap.size, 11, none⟩ = some (.int .i64 n) ∧ w3.cell? ⟨w.heap.size, 12, none⟩ = some (.bool g) := by
      refine ⟨?_, ?_, ?_, ?_, ?_, ?_, ?_, ?_, ?_, ?_, ?_, ?_, ?_⟩ <;> (refine cell_below hb3 ?_; repeat (first | (with_reducible assumption) | ((with_reducible refine cell_set ?_ ?_ _); (· first | (simp; done) | (simp; omega) | omega)) | ((with_reducible refine cell_new ?_ ?_); (· (simp; done)); (· rfl)) | (with_reducible refine cell_alloc ?_ _) | (with_reducible refine cell_drew ?_) | (with_reducible refine cell_drewN ?_ _) | (with_reducible refine cell_below (by assumption) ?_)))
    have zf27 : w.heap.size < w3.heap.size := World.block_lt_of_cell? _ _ f27
    clear f14 zf14 f15 f16 f17 f18 f19 f20 f21 f22 f23 f24 f25 f26
    go_wp2_with fail
    refine (TV _).mono ?_
    rintro e w4 ⟨rfl, hb4⟩
    obtain ⟨f40, f41, f42, f43, f44, f45, f46, f47, f48, f49, f50, f51, f52⟩ : w4.cell? ⟨w.heap.size, 0, none⟩ = some (.bool true) ∧ w4.cell? ⟨w.heap.size, 1, none⟩ = some (.int .i64 ax) ∧ w4.cell? ⟨w.heap.size, 2, none⟩ = some (.int .i64 ay) ∧ w4.cell? ⟨w.heap.size, 3, none⟩ = some (.int .i64 bx) ∧ w4.cell? ⟨w.heap.size, 4, none⟩ = some (.int .i64 b_y) ∧ w4.cell? ⟨w.heap.size, 5, none⟩ = some (.int .i64 cx) ∧ w4.cell? ⟨w.heap.size, 6, none⟩ = some (.int .i64 cy) ∧ w4.cell? ⟨w.heap.size, 7, none⟩ = some (.int .i64 r) ∧ w4.cell? ⟨w.heap.size, 8, none⟩ = some (.int .i64 f) ∧ w4.cell? ⟨w.heap.size, 9, none⟩ = some (.int .i64 s) ∧ w4.cell? ⟨w.heap.size, 10, none⟩ = some (.int .i64 L) ∧ w4.cell? ⟨w.heap.size, 11, none⟩ = some (.int .i64 n) ∧ w4.cell? ⟨w.heap.size, 12, none⟩ = some (.bool g) := by
      refine ⟨?_, ?_, ?_, ?_, ?_, ?_, ?_, ?_, ?_, ?_, ?_, ?_, ?_⟩ <;> (refine cell_below hb4 ?_; repeat (first | (with_reducible assumption) | ((with_reducible refine cell_set ?_ ?_ _); (· first | (simp; done) | (simp; omega) | omega)) | ((with_reducible refine cell_new ?_ ?_); (· (simp; done)); (· rfl)) | (with_reducible refine cell_alloc ?_ _) | (with_reducible refine cell_drew ?_) | (with_reducible refine cell_drewN ?_ _) | (with_reducible refine cell_below (by assumption) ?_)))
    have zf40 : w.heap.size < w4.heap.size := World.block_lt_of_cell? _ _ f40
    clear f27 zf27 f28 f29 f30 f31 f32 f33 f34 f35 f36 f37 f38 f39
    go_wp2_with fail
    refine (TL _).mono ?_
    rintro e w5 ⟨rfl, hb5⟩
    obtain ⟨f53, f54, f55, f56, f57, f58, f59, f60, f61, f62, f63, f64, f65⟩ : w5.cell? ⟨w.heap.size, 0, none⟩ = some (.bool true) ∧ w5.cell? ⟨w.heap.size, 1, none⟩ = some (.int .i64 ax) ∧ w5.cell? ⟨w.heap.size, 2, none⟩ = some (.int .i64 ay) ∧ w5.cell? ⟨w.heap.size, 3, none⟩ = some (.int .i64 bx) ∧ w5.cell? ⟨w.heap.size, 4, none⟩ = some (.int .i64 b_y) ∧ w5.cell? ⟨w.heap.size, 5, none⟩ = some (.int .i64 cx) ∧ w5.cell? ⟨w.heap.size, 6, none⟩ = some (.int .i64 cy) ∧ w5.cell? ⟨w.heap.size, 7, none⟩ = some (.int .i64 r) ∧ w5.cell? ⟨w.heap.size, 8, none⟩ = some (.int .i64 f) ∧ w5.cell? ⟨w.heap.size, 9, none⟩ = some (.int .i64 s) ∧ w5.cell? ⟨w.heap.size, 10, none⟩ = some (.int .i64 L) ∧ w5.cell? ⟨w.heap.size, 11, none⟩ = some (.int .i64 n) ∧ w5.cell? ⟨w.heap.size, 12, none⟩ = some (.bool g) := by
      refine ⟨?_, ?_, ?_, ?_, ?_, ?_, ?_, ?_, ?_, ?_, ?_, ?_, ?_⟩ <;> (refine cell_below hb5 ?_; repeat (first | (with_reducible assumption) | ((with_reducible refine cell_set ?_ ?_ _); (· first | (simp; done) | (simp; omega) | omega)) | ((with_reducible refine cell_new ?_ ?_); (· (simp; done)); (· rfl)) | (with_reducible refine cell_alloc ?_ _) | (with_reducible refine cell_drew ?_) | (with_reducible refine cell_drewN ?_ _) | (with_reducible refine cell_below (by assumption) ?_)))
    have zf53 : w.heap.size < w5.heap.size := World.block_lt_of_cell? _ _ f53
    clear f40 zf40 f41 f42 f43 f44 f45 f46 f47 f48 f49 f50 f51 f52
    go_wp2_with fail
    refine (W0 _).mono ?_
    rintro e w6 ⟨rfl, hb6⟩
    obtain ⟨f66, f67, f68, f69, f70, f71, f72, f73, f74, f75, f76, f77, f78⟩ : w6.cell? ⟨w.heap.size, 0, none⟩ = some (.bool true) ∧ w6.cell? ⟨w.heap.size, 1, none⟩ = some (.int .i64 ax) ∧ w6.cell? ⟨w.heap.size, 2, none⟩ = some (.int .i64 ay) ∧ w6.cell? ⟨w.heap.size, 3, none⟩ = some (.int .i64 bx) ∧ w6.cell? ⟨w.heap.size, 4, none⟩ = some (.int .i64 b_y) ∧ w6.cell? ⟨w.heap.size, 5, none⟩ = some (.int .i64 cx) ∧ w6.cell? ⟨w.heap.size, 6, none⟩ = some (.int .i64 cy) ∧ w6.cell? ⟨w.heap.size, 7, none⟩ = some (.int .i64 r) ∧ w6.cell? ⟨w.heap.size, 8, none⟩ = some (.int .i64 f) ∧ w6.cell? ⟨w.heap.size, 9, none⟩ = some (.int .i64 s) ∧ w6.cell? ⟨w.heap.size, 10, none⟩ = some (.int .i64 L) ∧ w6.cell? ⟨w.heap.size, 11, none⟩ = some (.int .i64 n) ∧ w6.cell? ⟨w.heap.size, 12, none⟩ = some (.bool g) := by
      refine ⟨?_, ?_, ?_, ?_, ?_, ?_, ?_, ?_, ?_, ?_, ?_, ?_, ?_⟩ <;> (refine cell_below hb6 ?_; repeat (first | (with_reducible assumption) | ((with_reducible refine cell_set ?_ ?_ _); (· first | (simp; done) | (simp; omega) | omega)) | ((with_reducible refine cell_new ?_ ?_); (· (simp; done)); (· rfl)) | (with_reducible refine cell_alloc ?_ _) | (with_reducible refine cell_drew ?_) | (with_reducible refine cell_drewN ?_ _) | (with_reducible refine cell_below (by assumption) ?_)))
    have zf66 : w.heap.size < w6.heap.size := World.block_lt_of_cell? _ _ f66
    clear f53 zf53 f54 f55 f56 f57 f58 f59 f60 f61 f62 f63 f64 f65
    go_wp2_with fail
    go_ret
    exact ⟨rfl, by (repeat (with_reducible (first | assumption | exact Below.refl _ _ | refine Below.drew ?_ | refine below_drewN ?_ _ | refine below_set ?_ (by simp; try omega) _ | refine below_alloc ?_ (Nat.le_refl _) _ | refine below_sub (by assumption) ?_)))⟩
theorem elem_any (c g : Bool) (ax ay bx b_y cx cy r f s L n : Int) (w : World) :
    Calls Tryz.prog 20 #[.agg #[.bool c, .int .i64 ax, .int .i64 ay, .int .i64 bx, .int .i64 b_y, .int .i64 cx, .int .i64 cy, .int .i64 r, .int .i64 f, .int .i64 s, .int .i64 L, .int .i64 n, .bool g]] w fun e w' => e = .returned (.int .i64 (elemF c ax ay bx b_y cx cy r f s L)) ∧ Below w.heap.size w w' := by
  unfold elemF
  rcases hv : (vldB ax ay && vldB bx b_y) with _ | _
  · exact elem_bad c g ax ay bx b_y cx cy r f s L n _ _ rfl rfl hv w
  · have hv' : vldB ax ay = true ∧ vldB bx b_y = true := by simpa using hv
    rw [if_neg (by simp)]
    rcases c with _ | _
    · rw [if_neg (by simp)]
      by_cases hz : cx = 0 ∧ cy = 0 ∧ r = 0 ∧ f = 0 ∧ s = 0
      · obtain ⟨rfl, rfl, rfl, rfl, rfl⟩ := hz
        rw [if_neg (by simp)]
        exact elem_line g ax ay bx b_y L n hv'.1 hv'.2 _ rfl w
      · rw [if_pos hz]
        exact elem_circ g ax ay bx b_y cx cy r f s L n hv'.1 hv'.2 hz w
    · rw [if_pos rfl]
      rcases hB : arcB cx cy r f s with _ | _
      · exact elem_arcno g ax ay bx b_y cx cy r f s L n hv'.1 hv'.2 hB w
      · rw [if_neg (by simp)]
        by_cases hl : L < 1 ∨ ¬ L = arcLen cx cy r f s
        · rw [if_pos hl]
          exact elem_len g ax ay bx b_y cx cy r f s L n hv'.1 hv'.2 hB hl w
        · rw [if_neg hl]
          have e : L = arcLen cx cy r f s := by omega
          have := elem_arc g ax ay bx b_y cx cy r f s L n hv'.1 hv'.2 hB (by omega) e w
          rwa [← e]
end Go.Proofs.YtapgmnjpfcohhaaGreatDoor
