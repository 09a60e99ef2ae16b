/-
  The walks of the reference's near and single.
-/
import Derived.Test.YtapgmnjpfcohhaaGreatDoorMElem
import Derived.Test.YtapgmnjpfcohhaaGreatDoorMFixed
import Derived.Test.YtapgmnjpfcohhaaGreatDoorMGeo
import Derived.Test.YtapgmnjpfcohhaaGreatDoorMLaws
import Derived.Test.YtapgmnjpfcohhaaGreatDoorMLineA
import Derived.Test.YtapgmnjpfcohhaaGreatDoorMLineB
import Derived.Test.YtapgmnjpfcohhaaGreatDoorMPlain
import Derived.Test.YtapgmnjpfcohhaaGreatDoorMSeqP
import Derived.Test.YtapgmnjpfcohhaaGreatDoorMTurnA
import Derived.Test.YtapgmnjpfcohhaaGreatDoorMTurnB
import Derived.Deep.DeepCutAuto
import Derived.Below
import Derived.Deep.RegionHeld3
import Derived.Test.YtapgmnjpfcohhaaGreatDoorProg
import Derived.WalkSpells
import Derived.WalkLawsBesides
import Derived.Deep.QuietTactic
import Derived.BigQuiet
import Derived.Lib.ItoaNum
import Derived.Shelf.Small.Bits
import Derived.Shelf.Strconv.Itoa0
import Derived.Shelf.Bits.Mul64
import Derived.Shelf.Spec.BitsCarry
import Derived.WalkKit
import Derived.ProofKit
import Derived.OpenShut
import Derived.ChangeSame
import Derived.Test.YtapgmnjpfcohhaaGreatDoorRows
import Derived.Laws.BitsAllLaws
namespace Go.Proofs.YtapgmnjpfcohhaaGreatDoor
open Go.RowKit
set_option linter.unusedVariables false
set_option linter.unusedSimpArgs false
theorem farB_near (px py qx qy : Int) : (!farB qx qy px py) = decide (px - qx ≤ 16 ∧ qx - px ≤ 16 ∧ py - qy ≤ 16 ∧ qy - py ≤ 16) := by
  unfold farB
  rw [Bool.eq_iff_iff]
  simp
  omega
set_option maxHeartbeats 1000000 in
theorem near_any (px py qx qy : Int) (h0 : -4000000 ≤ px) (g0 : px ≤ 4000000) (h1 : -4000000 ≤ py) (g1 : py ≤ 4000000) (h2 : -4000000 ≤ qx) (g2 : qx ≤ 4000000) (h3 : -4000000 ≤ qy) (g3 : qy ≤ 4000000) (w : World) :
    Calls Tryz.prog 49 #[.agg #[.int .i64 px, .int .i64 py], .agg #[.int .i64 qx, .int .i64 qy]] w fun e w' => e = .returned (.bool (!farB qx qy px py)) ∧ Below w.heap.size w w' := by
  have h := hide (farB_near px py qx qy)
  generalize (!farB qx qy px py) = R at *
  go_enter Tryz.func49, Tryz.ntmps49
  go_wp2
  all_goals
    go_ret
    exact ⟨ret_bool (by rw [h.out, Bool.eq_iff_iff]; simp; try omega), by (repeat (with_reducible (first | assumption | exact Below.refl _ _ | refine Below.drew ?_ | refine below_drewN ?_ _ | refine below_set ?_ (by simp; try omega) _ | refine below_alloc ?_ (Nat.le_refl _) _ | refine below_sub (by assumption) ?_)))⟩
set_option maxRecDepth 100000 in
set_option maxHeartbeats 4000000 in
theorem relem_bad (c g : Bool) (ax ay bx b_y cx cy r f s L n : Int) (a b : Bool) (ha : vldB ax ay = a) (hb : vldB bx b_y = b) (h : (a && b) = false) (w : World) :
    Calls Tryz.prog 21 #[.agg #[.bool c, .int .i64 ax, .int .i64 ay, .int .i64 bx, .int .i64 b_y, .int .i64 cx, .int .i64 cy, .int .i64 r, .int .i64 f, .int .i64 s, .int .i64 L, .int .i64 n, .bool g]] w fun e w' => e = .returned (.int .i64 1) ∧ Below w.heap.size w w' := by
  have PA := fun W => rpvalid_d ax ay a ha W
  have PB := fun W => rpvalid_d bx b_y b hb W
  clear ha hb
  rcases a with _ | _
  · clear h PB
    go_enter Tryz.func21, Tryz.ntmps21
    go_wp2_with fail
    refine (PA _).mono ?_
    rintro e w1 ⟨rfl, hb1⟩
    obtain ⟨f1, f2, f3, f4, f5, f6, f7, f8, f9, f10, f11, f12, f13⟩ : w1.cell? ⟨w.heap.size, 0, none⟩ = some (.bool c) ∧ w1.cell? ⟨w.heap.size, 1, none⟩ = some (.int .i64 ax) ∧ w1.cell? ⟨w.heap.size, 2, none⟩ = some (.int .i64 ay) ∧ w1.cell? ⟨w.heap.size, 3, none⟩ = some (.int .i64 bx) ∧ w1.cell? ⟨w.heap.size, 4, none⟩ = some (.int .i64 b_y) ∧ w1.cell? ⟨w.heap.size, 5, none⟩ = some (.int .i64 cx) ∧ w1.cell? ⟨w.heap.size, 6, none⟩ = some (.int .i64 cy) ∧ w1.cell? ⟨w.heap.size, 7, none⟩ = some (.int .i64 r) ∧ w1.cell? ⟨w.heap.size, 8, none⟩ = some (.int .i64 f) ∧ w1.cell? ⟨w.heap.size, 9, none⟩ = some (.int .i64 s) ∧ w1.cell? ⟨w.heap.size, 10, none⟩ = some (.int .i64 L) ∧ w1.cell? ⟨w.heap.size, 11, none⟩ = some (.int .i64 n) ∧ w1.cell? ⟨w.heap.size, 12, none⟩ = some (.bool g) := by
      refine ⟨?_, ?_, ?_, ?_, ?_, ?_, ?_, ?_, ?_, ?_, ?_, ?_, ?_⟩ <;> (refine cell_below hb1 ?_; repeat (first | (with_reducible assumption) | ((with_reducible refine cell_set ?_ ?_ _); (· first | (simp; done) | (simp; omega) | omega)) | ((with_reducible refine cell_new ?_ ?_); (· (simp; done)); (· rfl)) | (with_reducible refine cell_alloc ?_ _) | (with_reducible refine cell_drew ?_) | (with_reducible refine cell_drewN ?_ _) | (with_reducible refine cell_below (by assumption) ?_)))
    have zf1 : w.heap.size < w1.heap.size := World.block_lt_of_cell? _ _ f1
    go_wp2_with fail
    go_ret
    exact ⟨rfl, by (repeat (with_reducible (first | assumption | exact Below.refl _ _ | refine Below.drew ?_ | refine below_drewN ?_ _ | refine below_set ?_ (by simp; try omega) _ | refine below_alloc ?_ (Nat.le_refl _) _ | refine below_sub (by assumption) ?_)))⟩
  · obtain rfl : b = false := h
    go_enter Tryz.func21, Tryz.ntmps21
    go_wp2_with fail
    refine (PA _).mono ?_
    rintro e w1 ⟨rfl, hb1⟩
    obtain ⟨f1, f2, f3, f4, f5, f6, f7, f8, f9, f10, f11, f12, f13⟩ : w1.cell? ⟨w.heap.size, 0, none⟩ = some (.bool c) ∧ w1.cell? ⟨w.heap.size, 1, none⟩ = some (.int .i64 ax) ∧ w1.cell? ⟨w.heap.size, 2, none⟩ = some (.int .i64 ay) ∧ w1.cell? ⟨w.heap.size, 3, none⟩ = some (.int .i64 bx) ∧ w1.cell? ⟨w.heap.size, 4, none⟩ = some (.int .i64 b_y) ∧ w1.cell? ⟨w.heap.size, 5, none⟩ = some (.int .i64 cx) ∧ w1.cell? ⟨w.heap.size, 6, none⟩ = some (.int .i64 cy) ∧ w1.cell? ⟨w.heap.size, 7, none⟩ = some (.int .i64 r) ∧ w1.cell? ⟨w.heap.size, 8, none⟩ = some (.int .i64 f) ∧ w1.cell? ⟨w.heap.size, 9, none⟩ = some (.int .i64 s) ∧ w1.cell? ⟨w.heap.size, 10, none⟩ = some (.int .i64 L) ∧ w1.cell? ⟨w.heap.size, 11, none⟩ = some (.int .i64 n) ∧ w1.cell? ⟨w.heap.size, 12, none⟩ = some (.bool g) := by
      refine ⟨?_, ?_, ?_, ?_, ?_, ?_, ?_, ?_, ?_, ?_, ?_, ?_, ?_⟩ <;> (refine cell_below hb1 ?_; repeat (first | (with_reducible assumption) | ((with_reducible refine cell_set ?_ ?_ _); (· first | (simp; done) | (simp; omega) | omega)) | ((with_reducible refine cell_new ?_ ?_); (· (simp; done)); (· rfl)) | (with_reducible refine cell_alloc ?_ _) | (with_reducible refine cell_drew ?_) | (with_reducible refine cell_drewN ?_ _) | (with_reducible refine cell_below (by assumption) ?_)))
    have zf1 : w.heap.size < w1.heap.size := World.block_lt_of_cell? _ _ f1
    go_wp2_with fail
    refine (PB _).mono ?_
    rintro e w2 ⟨rfl, hb2⟩
    obtain ⟨f14, f15, f16, f17, f18, f19, f20, f21, f22, f23, f24, f25, f26⟩ : w2.cell? ⟨w.heap.size, 0, none⟩ = some (.bool c) ∧ w2.cell? ⟨w.heap.size, 1, none⟩ = some (.int .i64 ax) ∧ w2.cell? ⟨w.heap.size, 2, none⟩ = some (.int .i64 ay) ∧ w2.cell? ⟨w.heap.size, 3, none⟩ = some (.int .i64 bx) ∧ w2.cell? ⟨w.heap.size, 4, none⟩ = some (.int .i64 b_y) ∧ w2.cell? ⟨w.heap.size, 5, none⟩ = some (.int .i64 cx) ∧ w2.cell? ⟨w.heap.size, 6, none⟩ = some (.int .i64 cy) ∧ w2.cell? ⟨w.heap.size, 7, none⟩ = some (.int .i64 r) ∧ w2.cell? ⟨w.heap.size, 8, none⟩ = some (.int .i64 f) ∧ w2.cell? ⟨w.heap.size, 9, none⟩ = some (.int .i64 s) ∧ w2.cell? ⟨w.heap.size, 10, none⟩ = some (.int .i64 L) ∧ w2.cell? ⟨w.heap.size, 11, none⟩ = some (.int .i64 n) ∧ w2.cell? ⟨w.heap.size, 12, none⟩ = some (.bool g) := by
      refine ⟨?_, ?_, ?_, ?_, ?_, ?_, ?_, ?_, ?_, ?_, ?_, ?_, ?_⟩ <;> (refine cell_below hb2 ?_; repeat (first | (with_reducible assumption) | ((with_reducible refine cell_set ?_ ?_ _); (· first | (simp; done) | (simp; omega) | omega)) | ((with_reducible refine cell_new ?_ ?_); (· (simp; done)); (· rfl)) | (with_reducible refine cell_alloc ?_ _) | (with_reducible refine cell_drew ?_) | (with_reducible refine cell_drewN ?_ _) | (with_reducible refine cell_below (by assumption) ?_)))
    have zf14 : w.heap.size < w2.heap.size := World.block_lt_of_cell? _ _ f14
    clear f1 zf1 f2 f3 f4 f5 f6 f7 f8 f9 f10 f11 f12 f13
    go_wp2_with fail
    go_ret
    exact ⟨rfl, by (repeat (with_reducible (first | assumption | exact Below.refl _ _ | refine Below.drew ?_ | refine below_drewN ?_ _ | refine below_set ?_ (by simp; try omega) _ | refine below_alloc ?_ (Nat.le_refl _) _ | refine below_sub (by assumption) ?_)))⟩
set_option maxRecDepth 100000 in
set_option maxHeartbeats 4000000 in
theorem relem_circ (g : Bool) (ax ay bx b_y cx cy r f s L n : Int) (ha : vldB ax ay = true) (hb : vldB bx b_y = true) (h : ¬ (cx = 0 ∧ cy = 0 ∧ r = 0 ∧ f = 0 ∧ s = 0)) (w : World) :
    Calls Tryz.prog 21 #[.agg #[.bool false, .int .i64 ax, .int .i64 ay, .int .i64 bx, .int .i64 b_y, .int .i64 cx, .int .i64 cy, .int .i64 r, .int .i64 f, .int .i64 s, .int .i64 L, .int .i64 n, .bool g]] w fun e w' => e = .returned (.int .i64 1) ∧ Below w.heap.size w w' := by
  have PA := fun W => rpvalid_d ax ay true ha W
  have PB := fun W => rpvalid_d bx b_y true hb W
  have hz : (cx == 0) = false ∨ ((cx == 0) = true ∧ (cy == 0) = false) ∨ ((cx == 0) = true ∧ (cy == 0) = true ∧ (r == 0) = false) ∨ ((cx == 0) = true ∧ (cy == 0) = true ∧ (r == 0) = true ∧ (f == 0) = false) ∨ ((cx == 0) = true ∧ (cy == 0) = true ∧ (r == 0) = true ∧ (f == 0) = true ∧ (s == 0) = false) := by
    simp only [beq_iff_eq, beq_eq_false_iff_ne, ne_eq]
    omega
  clear h ha hb
  rcases hz with z1 | ⟨z1, z2⟩ | ⟨z1, z2, z3⟩ | ⟨z1, z2, z3, z4⟩ | ⟨z1, z2, z3, z4, z5⟩
  all_goals
    go_enter Tryz.func21, Tryz.ntmps21
    go_wp2_with fail
    refine (PA _).mono ?_
    rintro e w1 ⟨rfl, hb1⟩
    obtain ⟨f1, f2, f3, f4, f5, f6, f7, f8, f9, f10, f11, f12, f13⟩ : w1.cell? ⟨w.heap.size, 0, none⟩ = some (.bool false) ∧ w1.cell? ⟨w.heap.size, 1, none⟩ = some (.int .i64 ax) ∧ w1.cell? ⟨w.heap.size, 2, none⟩ = some (.int .i64 ay) ∧ w1.cell? ⟨w.heap.size, 3, none⟩ = some (.int .i64 bx) ∧ w1.cell? ⟨w.heap.size, 4, none⟩ = some (.int .i64 b_y) ∧ w1.cell? ⟨w.heap.size, 5, none⟩ = some (.int .i64 cx) ∧ w1.cell? ⟨w.heap.size, 6, none⟩ = some (.int .i64 cy) ∧ w1.cell? ⟨w.heap.size, 7, none⟩ = some (.int .i64 r) ∧ w1.cell? ⟨w.heap.size, 8, none⟩ = some (.int .i64 f) ∧ w1.cell? ⟨w.heap.size, 9, none⟩ = some (.int .i64 s) ∧ w1.cell? ⟨w.heap.size, 10, none⟩ = some (.int .i64 L) ∧ w1.cell? ⟨w.heap.size, 11, none⟩ = some (.int .i64 n) ∧ w1.cell? ⟨w.heap.size, 12, none⟩ = some (.bool g) := by
      refine ⟨?_, ?_, ?_, ?_, ?_, ?_, ?_, ?_, ?_, ?_, ?_, ?_, ?_⟩ <;> (refine cell_below hb1 ?_; repeat (first | (with_reducible assumption) | ((with_reducible refine cell_set ?_ ?_ _); (· first | (simp; done) | (simp; omega) | omega)) | ((with_reducible refine cell_new ?_ ?_); (· (simp; done)); (· rfl)) | (with_reducible refine cell_alloc ?_ _) | (with_reducible refine cell_drew ?_) | (with_reducible refine cell_drewN ?_ _) | (with_reducible refine cell_below (by assumption) ?_)))
    have zf1 : w.heap.size < w1.heap.size := World.block_lt_of_cell? _ _ f1
    go_wp2_with fail
    refine (PB _).mono ?_
    rintro e w2 ⟨rfl, hb2⟩
    obtain ⟨f14, f15, f16, f17, f18, f19, f20, f21, f22, f23, f24, f25, f26⟩ : w2.cell? ⟨w.heap.size, 0, none⟩ = some (.bool false) ∧ w2.cell? ⟨w.heap.size, 1, none⟩ = some (.int .i64 ax) ∧ w2.cell? ⟨w.heap.size, 2, none⟩ = some (.int .i64 ay) ∧ w2.cell? ⟨w.heap.size, 3, none⟩ = some (.int .i64 bx) ∧ w2.cell? ⟨w.heap.size, 4, none⟩ = some (.int .i64 b_y) ∧ w2.cell? ⟨w.heap.size, 5, none⟩ = some (.int .i64 cx) ∧ w2.cell? ⟨w.heap.size, 6, none⟩ = some (.int .i64 cy) ∧ w2.cell? ⟨w.heap.size, 7, none⟩ = some (.int .i64 r) ∧ w2.cell? ⟨w.heap.size, 8, none⟩ = some (.int .i64 f) ∧ w2.cell? ⟨w.heap.size, 9, none⟩ = some (.int .i64 s) ∧ w2.cell? ⟨w.heap.size, 10, none⟩ = some (.int .i64 L) ∧ w2.cell? ⟨w.heap.size, 11, none⟩ = some (.int .i64 n) ∧ w2.cell? ⟨w.heap.size, 12, none⟩ = some (.bool g) := by
      refine ⟨?_, ?_, ?_, ?_, ?_, ?_, ?_, ?_, ?_, ?_, ?_, ?_, ?_⟩ <;> (refine cell_below hb2 ?_; repeat (first | (with_reducible assumption) | ((with_reducible refine cell_set ?_ ?_ _); (· first | (simp; done) | (simp; omega) | omega)) | ((with_reducible refine cell_new ?_ ?_); (· (simp; done)); (· rfl)) | (with_reducible refine cell_alloc ?_ _) | (with_reducible refine cell_drew ?_) | (with_reducible refine cell_drewN ?_ _) | (with_reducible refine cell_below (by assumption) ?_)))
    have zf14 : w.heap.size < w2.heap.size := World.block_lt_of_cell? _ _ f14
    clear f1 zf1 f2 f3 f4 f5 f6 f7 f8 f9 f10 f11 f12 f13
    go_wp2_with fail
    go_ret
    exact ⟨rfl, by (repeat (with_reducible (first | assumption | exact Below.refl _ _ | refine Below.drew ?_ | refine below_drewN ?_ _ | refine below_set ?_ (by simp; try omega) _ | refine below_alloc ?_ (Nat.le_refl _) _ | refine below_sub (by assumption) ?_)))⟩
set_option maxRecDepth 100000 in
set_option maxHeartbeats 4000000 in
theorem relem_line (g : Bool) (ax ay bx b_y L n : Int) (ha : vldB ax ay = true) (hb : vldB bx b_y = true) (d : Int) (hd : d = distF ax ay bx b_y) (t : Int) (ht : Hid (t = if L < 1 ∨ ¬ L = d then 4 else 0)) (w : World) :
    Calls Tryz.prog 21 #[.agg #[.bool false, .int .i64 ax, .int .i64 ay, .int .i64 bx, .int .i64 b_y, .int .i64 0, .int .i64 0, .int .i64 0, .int .i64 0, .int .i64 0, .int .i64 L, .int .i64 n, .bool g]] w fun e w' => e = .returned (.int .i64 t) ∧ Below w.heap.size w w' := by
  have PA := fun W => rpvalid_d ax ay true ha W
  have PB := fun W => rpvalid_d bx b_y true hb W
  have DI := fun W => rdist_any ax ay bx b_y W
  rw [← hd] at DI
  clear hd ha hb
  by_cases h : L < 1
  · obtain rfl : t = 4 := by rw [ht.out]; simp [h]
    clear ht
    go_enter Tryz.func21, Tryz.ntmps21
    go_wp2_with fail
    refine (PA _).mono ?_
    rintro e w1 ⟨rfl, hb1⟩
    obtain ⟨f1, f2, f3, f4, f5, f6, f7, f8, f9, f10, f11, f12, f13⟩ : w1.cell? ⟨w.heap.size, 0, none⟩ = some (.bool false) ∧ w1.cell? ⟨w.heap.size, 1, none⟩ = some (.int .i64 ax) ∧ w1.cell? ⟨w.heap.size, 2, none⟩ = some (.int .i64 ay) ∧ w1.cell? ⟨w.heap.size, 3, none⟩ = some (.int .i64 bx) ∧ w1.cell? ⟨w.heap.size, 4, none⟩ = some (.int .i64 b_y) ∧ w1.cell? ⟨w.heap.size, 5, none⟩ = some (.int .i64 0) ∧ w1.cell? ⟨w.heap.size, 6, none⟩ = some (.int .i64 0) ∧ w1.cell? ⟨w.heap.size, 7, none⟩ = some (.int .i64 0) ∧ w1.cell? ⟨w.heap.size, 8, none⟩ = some (.int .i64 0) ∧ w1.cell? ⟨w.heap.size, 9, none⟩ = some (.int .i64 0) ∧ w1.cell? ⟨w.heap.size, 10, none⟩ = some (.int .i64 L) ∧ w1.cell? ⟨w.heap.size, 11, none⟩ = some (.int .i64 n) ∧ w1.cell? ⟨w.heap.size, 12, none⟩ = some (.bool g) := by
      refine ⟨?_, ?_, ?_, ?_, ?_, ?_, ?_, ?_, ?_, ?_, ?_, ?_, ?_⟩ <;> (refine cell_below hb1 ?_; repeat (first | (with_reducible assumption) | ((with_reducible refine cell_set ?_ ?_ _); (· first | (simp; done) | (simp; omega) | omega)) | ((with_reducible refine cell_new ?_ ?_); (· (simp; done)); (· rfl)) | (with_reducible refine cell_alloc ?_ _) | (with_reducible refine cell_drew ?_) | (with_reducible refine cell_drewN ?_ _) | (with_reducible refine cell_below (by assumption) ?_)))
    have zf1 : w.heap.size < w1.heap.size := World.block_lt_of_cell? _ _ f1
    go_wp2_with fail
    refine (PB _).mono ?_
    rintro e w2 ⟨rfl, hb2⟩
    obtain ⟨f14, f15, f16, f17, f18, f19, f20, f21, f22, f23, f24, f25, f26⟩ : w2.cell? ⟨w.heap.size, 0, none⟩ = some (.bool false) ∧ w2.cell? ⟨w.heap.size, 1, none⟩ = some (.int .i64 ax) ∧ w2.cell? ⟨w.heap.size, 2, none⟩ = some (.int .i64 ay) ∧ w2.cell? ⟨w.heap.size, 3, none⟩ = some (.int .i64 bx) ∧ w2.cell? ⟨w.heap.size, 4, none⟩ = some (.int .i64 b_y) ∧ w2.cell? ⟨w.heap.size, 5, none⟩ = some (.int .i64 0) ∧ w2.cell? ⟨w.heap.size, 6, none⟩ = some (.int .i64 0) ∧ w2.cell? ⟨w.heap.size, 7, none⟩ = some (.int .i64 0) ∧ w2.cell? ⟨w.heap.size, 8, none⟩ = some (.int .i64 0) ∧ w2.cell? ⟨w.heap.size, 9, none⟩ = some (.int .i64 0) ∧ w2.cell? ⟨w.heap.size, 10, none⟩ = some (.int .i64 L) ∧ w2.cell? ⟨w.heap.size, 11, none⟩ = some (.int .i64 n) ∧ w2.cell? ⟨w.heap.size, 12, none⟩ = some (.bool g) := by
      refine ⟨?_, ?_, ?_, ?_, ?_, ?_, ?_, ?_, ?_, ?_, ?_, ?_, ?_⟩ <;> (refine cell_below hb2 ?_; repeat (first | (with_reducible assumption) | ((with_reducible refine cell_set ?_ ?_ _); (· first | (simp; done) | (simp; omega) | omega)) | ((with_reducible refine cell_new ?_ ?_); (· (simp; done)); (· rfl)) | (with_reducible refine cell_alloc ?_ _) | (with_reducible refine cell_drew ?_) | (with_reducible refine cell_drewN ?_ _) | (with_reducible refine cell_below (by assumption) ?_)))
    have zf14 : w.heap.size < w2.heap.size := World.block_lt_of_cell? _ _ f14
    clear f1 zf1 f2 f3 f4 f5 f6 f7 f8 f9 f10 f11 f12 f13
    go_wp2_with fail
    go_quiet (fail)
    go_wp2_with fail
    go_ret
    exact ⟨rfl, by (repeat (with_reducible (first | assumption | exact Below.refl _ _ | refine Below.drew ?_ | refine below_drewN ?_ _ | refine below_set ?_ (by simp; try omega) _ | refine below_alloc ?_ (Nat.le_refl _) _ | refine below_sub (by assumption) ?_)))⟩
  · have h1 : 1 ≤ L := by omega
    clear h
    go_enter Tryz.func21, Tryz.ntmps21
    go_wp2_with fail
    refine (PA _).mono ?_
    rintro e w1 ⟨rfl, hb1⟩
    obtain ⟨f1, f2, f3, f4, f5, f6, f7, f8, f9, f10, f11, f12, f13⟩ : w1.cell? ⟨w.heap.size, 0, none⟩ = some (.bool false) ∧ w1.cell? ⟨w.heap.size, 1, none⟩ = some (.int .i64 ax) ∧ w1.cell? ⟨w.heap.size, 2, none⟩ = some (.int .i64 ay) ∧ w1.cell? ⟨w.heap.size, 3, none⟩ = some (.int .i64 bx) ∧ w1.cell? ⟨w.heap.size, 4, none⟩ = some (.int .i64 b_y) ∧ w1.cell? ⟨w.heap.size, 5, none⟩ = some (.int .i64 0) ∧ w1.cell? ⟨w.heap.size, 6, none⟩ = some (.int .i64 0) ∧ w1.cell? ⟨w.heap.size, 7, none⟩ = some (.int .i64 0) ∧ w1.cell? ⟨w.heap.size, 8, none⟩ = some (.int .i64 0) ∧ w1.cell? ⟨w.heap.size, 9, none⟩ = some (.int .i64 0) ∧ w1.cell? ⟨w.heap.size, 10, none⟩ = some (.int .i64 L) ∧ w1.cell? ⟨w.heap.size, 11, none⟩ = some (.int .i64 n) ∧ w1.cell? ⟨w.heap.size, 12, none⟩ = some (.bool g) := by
      refine ⟨?_, ?_, ?_, ?_, ?_, ?_, ?_, ?_, ?_, ?_, ?_, ?_, ?_⟩ <;> (refine cell_below hb1 ?_; repeat (first | (with_reducible assumption) | ((with_reducible refine cell_set ?_ ?_ _); (· first | (simp; done) | (simp; omega) | omega)) | ((with_reducible refine cell_new ?_ ?_); (· (simp; done)); (· rfl)) | (with_reducible refine cell_alloc ?_ _) | (with_reducible refine cell_drew ?_) | (with_reducible refine cell_drewN ?_ _) | (with_reducible refine cell_below (by assumption) ?_)))
    have zf1 : w.heap.size < w1.heap.size := World.block_lt_of_cell? _ _ f1
    go_wp2_with fail
    refine (PB _).mono ?_
    rintro e w2 ⟨rfl, hb2⟩
    obtain ⟨f14, f15, f16, f17, f18, f19, f20, f21, f22, f23, f24, f25, f26⟩ : w2.cell? ⟨w.heap.size, 0, none⟩ = some (.bool false) ∧ w2.cell? ⟨w.heap.size, 1, none⟩ = some (.int .i64 ax) ∧ w2.cell? ⟨w.heap.size, 2, none⟩ = some (.int .i64 ay) ∧ w2.cell? ⟨w.heap.size, 3, none⟩ = some (.int .i64 bx) ∧ w2.cell? ⟨w.heap.size, 4, none⟩ = some (.int .i64 b_y) ∧ w2.cell? ⟨w.heap.size, 5, none⟩ = some (.int .i64 0) ∧ w2.cell? ⟨w.heap.size, 6, none⟩ = some (.int .i64 0) ∧ w2.cell? ⟨w.heap.size, 7, none⟩ = some (.int .i64 0) ∧ w2.cell? ⟨w.heap.size, 8, none⟩ = some (.int .i64 0) ∧ w2.cell? ⟨w.heap.size, 9, none⟩ = some (.int .i64 0) ∧ w2.cell? ⟨w.heap.size, 10, none⟩ = some (.int .i64 L) ∧ w2.cell? ⟨w.heap.size, 11, none⟩ = some (.int .i64 n) ∧ w2.cell? ⟨w.heap.size, 12, none⟩ = some (.bool g) := by
      refine ⟨?_, ?_, ?_, ?_, ?_, ?_, ?_, ?_, ?_, ?_, ?_, ?_, ?_⟩ <;> (refine cell_below hb2 ?_; repeat (first | (with_reducible assumption) | ((with_reducible refine cell_set ?_ ?_ _); (· first | (simp; done) | (simp; omega) | omega)) | ((with_reducible refine cell_new ?_ ?_); (· (simp; done)); (· rfl)) | (with_reducible refine cell_alloc ?_ _) | (with_reducible refine cell_drew ?_) | (with_reducible refine cell_drewN ?_ _) | (with_reducible refine cell_below (by assumption) ?_)))
    have zf14 : w.heap.size < w2.heap.size := World.block_lt_of_cell? _ _ f14
    clear f1 zf1 f2 f3 f4 f5 f6 f7 f8 f9 f10 f11 f12 f13
    have bL : decide (L < 1) = false := decide_eq_false (by omega)
    go_wp2_with fail
    go_cut [38] (fun sA wx => ∃ wy, sA = .bool (L != d) ∧ wy = wx ∧ Below w2.heap.size w2 wy)
    case first =>
      go_region_with (first
        | (go_at_call 46; (with_reducible refine (DI _).mono ?_); rintro e w' ⟨rfl, hb'⟩; refine (fun hT => ?_) (cell_below hb' (b := w.heap.size) (o := 10) (v := .int .i64 L) ?_); rotate_left; (· (repeat (first | (with_reducible assumption) | ((with_reducible refine cell_set ?_ ?_ _); (· first | (simp; done) | (simp; omega) | omega)) | ((with_reducible refine cell_new ?_ ?_); (· (simp; done)); (· rfl)) | (with_reducible refine cell_alloc ?_ _) | (with_reducible refine cell_drew ?_) | (with_reducible refine cell_drewN ?_ _) | (with_reducible refine cell_below (by assumption) ?_))))))
      all_goals
        go_wp2_with fail
        go_meet
        refine ⟨_, by simp [*], rfl, ?_⟩
        (repeat (with_reducible (first | assumption | exact Below.refl _ _ | refine Below.drew ?_ | refine below_drewN ?_ _ | refine below_set ?_ (by simp; try omega) _ | refine below_alloc ?_ (Nat.le_refl _) _ | refine below_sub (by assumption) ?_)))
    case rest =>
      obtain ⟨wy, rfl, rfl, hby⟩ := hcut
      obtain ⟨t27, t28, t29, t30, t31, t32, t33, t34, t35, t36, t37, t38, t39⟩ : wy.cell? ⟨w.heap.size, 0, none⟩ = some (.bool false) ∧ wy.cell? ⟨w.heap.size, 1, none⟩ = some (.int .i64 ax) ∧ wy.cell? ⟨w.heap.size, 2, none⟩ = some (.int .i64 ay) ∧ wy.cell? ⟨w.heap.size, 3, none⟩ = some (.int .i64 bx) ∧ wy.cell? ⟨w.heap.size, 4, none⟩ = some (.int .i64 b_y) ∧ wy.cell? ⟨w.heap.size, 5, none⟩ = some (.int .i64 0) ∧ wy.cell? ⟨w.heap.size, 6, none⟩ = some (.int .i64 0) ∧ wy.cell? ⟨w.heap.size, 7, none⟩ = some (.int .i64 0) ∧ wy.cell? ⟨w.heap.size, 8, none⟩ = some (.int .i64 0) ∧ wy.cell? ⟨w.heap.size, 9, none⟩ = some (.int .i64 0) ∧ wy.cell? ⟨w.heap.size, 10, none⟩ = some (.int .i64 L) ∧ wy.cell? ⟨w.heap.size, 11, none⟩ = some (.int .i64 n) ∧ wy.cell? ⟨w.heap.size, 12, none⟩ = some (.bool g) := by
        refine ⟨?_, ?_, ?_, ?_, ?_, ?_, ?_, ?_, ?_, ?_, ?_, ?_, ?_⟩ <;> (refine cell_below hby ?_; repeat (first | (with_reducible assumption) | ((with_reducible refine cell_set ?_ ?_ _); (· first | (simp; done) | (simp; omega) | omega)) | ((with_reducible refine cell_new ?_ ?_); (· (simp; done)); (· rfl)) | (with_reducible refine cell_alloc ?_ _) | (with_reducible refine cell_drew ?_) | (with_reducible refine cell_drewN ?_ _) | (with_reducible refine cell_below (by assumption) ?_)))
      have zt27 : w.heap.size < wy.heap.size := World.block_lt_of_cell? _ _ t27
      clear f14 zf14 f15 f16 f17 f18 f19 f20 f21 f22 f23 f24 f25 f26
      by_cases hL : L = d
      · have T : (L != d) = false := by simp [hL]
        obtain rfl : t = 0 := by rw [ht.out]; simp [hL]; omega
        clear ht hL
        go_wp2_with fail
        go_ret
        exact ⟨rfl, by (repeat (with_reducible (first | assumption | exact Below.refl _ _ | refine Below.drew ?_ | refine below_drewN ?_ _ | refine below_set ?_ (by simp; try omega) _ | refine below_alloc ?_ (Nat.le_refl _) _ | refine below_sub (by assumption) ?_)))⟩
      · have T : (L != d) = true := bne_iff_ne.2 hL
        obtain rfl : t = 4 := by rw [ht.out]; simp [hL]
        clear ht hL
        go_wp2_with fail
        go_ret
        exact ⟨rfl, by (repeat (with_reducible (first | assumption | exact Below.refl _ _ | refine Below.drew ?_ | refine below_drewN ?_ _ | refine below_set ?_ (by simp; try omega) _ | refine below_alloc ?_ (Nat.le_refl _) _ | refine below_sub (by assumption) ?_)))⟩
set_option maxRecDepth 100000 in
set_option maxHeartbeats 4000000 in
theorem relem_arcno (g : Bool) (ax ay bx b_y cx cy r f s L n : Int) (ha : vldB ax ay = true) (hb : vldB bx b_y = true) (h : arcB cx cy r f s = false) (w : World) :
    Calls Tryz.prog 21 #[.agg #[.bool true, .int .i64 ax, .int .i64 ay, .int .i64 bx, .int .i64 b_y, .int .i64 cx, .int .i64 cy, .int .i64 r, .int .i64 f, .int .i64 s, .int .i64 L, .int .i64 n, .bool g]] w fun e w' => e = .returned (.int .i64 1) ∧ Below w.heap.size w w' := by
  have PA := fun W => rpvalid_d ax ay true ha W
  have PB := fun W => rpvalid_d bx b_y true hb W
  have TV := fun W => rtvalid_any cx cy r f s W
  rw [h] at TV
  clear h ha hb
  · skip
    go_enter Tryz.func21, Tryz.ntmps21
    go_wp2_with fail
    refine (PA _).mono ?_
    rintro e w1 ⟨rfl, hb1⟩
    obtain ⟨f1, f2, f3, f4, f5, f6, f7, f8, f9, f10, f11, f12, f13⟩ : w1.cell? ⟨w.heap.size, 0, none⟩ = some (.bool true) ∧ w1.cell? ⟨w.heap.size, 1, none⟩ = some (.int .i64 ax) ∧ w1.cell? ⟨w.heap.size, 2, none⟩ = some (.int .i64 ay) ∧ w1.cell? ⟨w.heap.size, 3, none⟩ = some (.int .i64 bx) ∧ w1.cell? ⟨w.heap.size, 4, none⟩ = some (.int .i64 b_y) ∧ w1.cell? ⟨w.heap.size, 5, none⟩ = some (.int .i64 cx) ∧ w1.cell? ⟨w.heap.size, 6, none⟩ = some (.int .i64 cy) ∧ w1.cell? ⟨w.heap.size, 7, none⟩ = some (.int .i64 r) ∧ w1.cell? ⟨w.heap.size, 8, none⟩ = some (.int .i64 f) ∧ w1.cell? ⟨w.heap.size, 9, none⟩ = some (.int .i64 s) ∧ w1.cell? ⟨w.heap.size, 10, none⟩ = some (.int .i64 L) ∧ w1.cell? ⟨w.heap.size, 11, none⟩ = some (.int .i64 n) ∧ w1.cell? ⟨w.heap.size, 12, none⟩ = some (.bool g) := by
      refine ⟨?_, ?_, ?_, ?_, ?_, ?_, ?_, ?_, ?_, ?_, ?_, ?_, ?_⟩ <;> (refine cell_below hb1 ?_; repeat (first | (with_reducible assumption) | ((with_reducible refine cell_set ?_ ?_ _); (· first | (simp; done) | (simp; omega) | omega)) | ((with_reducible refine cell_new ?_ ?_); (· (simp; done)); (· rfl)) | (with_reducible refine cell_alloc ?_ _) | (with_reducible refine cell_drew ?_) | (with_reducible refine cell_drewN ?_ _) | (with_reducible refine cell_below (by assumption) ?_)))
    have zf1 : w.heap.size < w1.heap.size := World.block_lt_of_cell? _ _ f1
    go_wp2_with fail
    refine (PB _).mono ?_
    rintro e w2 ⟨rfl, hb2⟩
    obtain ⟨f14, f15, f16, f17, f18, f19, f20, f21, f22, f23, f24, f25, f26⟩ : w2.cell? ⟨w.heap.size, 0, none⟩ = some (.bool true) ∧ w2.cell? ⟨w.heap.size, 1, none⟩ = some (.int .i64 ax) ∧ w2.cell? ⟨w.heap.size, 2, none⟩ = some (.int .i64 ay) ∧ w2.cell? ⟨w.heap.size, 3, none⟩ = some (.int .i64 bx) ∧ w2.cell? ⟨w.heap.size, 4, none⟩ = some (.int .i64 b_y) ∧ w2.cell? ⟨w.heap.size, 5, none⟩ = some (.int .i64 cx) ∧ w2.cell? ⟨w.heap.size, 6, none⟩ = some (.int .i64 cy) ∧ w2.cell? ⟨w.heap.size, 7, none⟩ = some (.int .i64 r) ∧ w2.cell? ⟨w.heap.size, 8, none⟩ = some (.int .i64 f) ∧ w2.cell? ⟨w.heap.size, 9, none⟩ = some (.int .i64 s) ∧ w2.cell? ⟨w.heap.size, 10, none⟩ = some (.int .i64 L) ∧ w2.cell? ⟨w.heap.size, 11, none⟩ = some (.int .i64 n) ∧ w2.cell? ⟨w.heap.size, 12, none⟩ = some (.bool g) := by
      refine ⟨?_, ?_, ?_, ?_, ?_, ?_, ?_, ?_, ?_, ?_, ?_, ?_, ?_⟩ <;> (refine cell_below hb2 ?_; repeat (first | (with_reducible assumption) | ((with_reducible refine cell_set ?_ ?_ _); (· first | (simp; done) | (simp; omega) | omega)) | ((with_reducible refine cell_new ?_ ?_); (· (simp; done)); (· rfl)) | (with_reducible refine cell_alloc ?_ _) | (with_reducible refine cell_drew ?_) | (with_reducible refine cell_drewN ?_ _) | (with_reducible refine cell_below (by assumption) ?_)))
    have zf14 : w.heap.size < w2.heap.size := World.block_lt_of_cell? _ _ f14
    clear f1 zf1 f2 f3 f4 f5 f6 f7 f8 f9 f10 f11 f12 f13
    go_wp2_with fail
    refine (TV _).mono ?_
    rintro e w3 ⟨rfl, hb3⟩
    obtain ⟨f27, f28, f29, f30, f31, f32, f33, f34, f35, f36, f37, f38, f39⟩ : w3.cell? ⟨w.heap.size, 0, none⟩ = some (.bool true) ∧ w3.cell? ⟨w.heap.size, 1, none⟩ = some (.int .i64 ax) ∧ w3.cell? ⟨w.heap.size, 2, none⟩ = some (.int .i64 ay) ∧ w3.cell? ⟨w.heap.size, 3, none⟩ = some (.int .i64 bx) ∧ w3.cell? ⟨w.heap.size, 4, none⟩ = some (.int .i64 b_y) ∧ w3.cell? ⟨w.heap.size, 5, none⟩ = some (.int .i64 cx) ∧ w3.cell? ⟨w.heap.size, 6, none⟩ = some (.int .i64 cy) ∧ w3.cell? ⟨w.heap.size, 7, none⟩ = some (.int .i64 r) ∧ w3.cell? ⟨w.heap.size, 8, none⟩ = some (.int .i64 f) ∧ w3.cell? ⟨w.heap.size, 9, none⟩ = some (.int .i64 s) ∧ w3.cell? ⟨w.heap.size, 10, none⟩ = some (.int .i64 L) ∧ w3.cell? ⟨w.heap.size, 11, none⟩ = some (.int .i64 n) ∧ w3.cell? ⟨w.heap.size, 12, none⟩ = some (.bool g) := by
      refine ⟨?_, ?_, ?_, ?_, ?_, ?_, ?_, ?_, ?_, ?_, ?_, ?_, ?_⟩ <;> (refine cell_below hb3 ?_; repeat (first | (with_reducible assumption) | ((with_reducible refine cell_set ?_ ?_ _); (· first | (simp; done) | (simp; omega) | omega)) | ((with_reducible refine cell_new ?_ ?_); (· (simp; done)); (· rfl)) | (with_reducible refine cell_alloc ?_ _) | (with_reducible refine cell_drew ?_) | (with_reducible refine cell_drewN ?_ _) | (with_reducible refine cell_below (by assumption) ?_)))
    have zf27 : w.heap.size < w3.heap.size := World.block_lt_of_cell? _ _ f27
    clear f14 zf14 f15 f16 f17 f18 f19 f20 f21 f22 f23 f24 f25 f26
    go_wp2_with fail
    go_ret
    exact ⟨rfl, by (repeat (with_reducible (first | assumption | exact Below.refl _ _ | refine Below.drew ?_ | refine below_drewN ?_ _ | refine below_set ?_ (by simp; try omega) _ | refine below_alloc ?_ (Nat.le_refl _) _ | refine below_sub (by assumption) ?_)))⟩
set_option maxRecDepth 100000 in
set_option maxHeartbeats 4000000 in
theorem relem_len (g : Bool) (ax ay bx b_y cx cy r f s L n : Int) (ha : vldB ax ay = true) (hb : vldB bx b_y = true) (h : arcB cx cy r f s = true) (hl : L < 1 ∨ ¬ L = arcLen cx cy r f s) (w : World) :
    Calls Tryz.prog 21 #[.agg #[.bool true, .int .i64 ax, .int .i64 ay, .int .i64 bx, .int .i64 b_y, .int .i64 cx, .int .i64 cy, .int .i64 r, .int .i64 f, .int .i64 s, .int .i64 L, .int .i64 n, .bool g]] w fun e w' => e = .returned (.int .i64 4) ∧ Below w.heap.size w w' := by
  have PA := fun W => rpvalid_d ax ay true ha W
  have PB := fun W => rpvalid_d bx b_y true hb W
  have TV := fun W => rtvalid_any cx cy r f s W
  have TL := fun W => rtlen_any cx cy r f s W
  rw [h] at TV
  generalize arcLen cx cy r f s = m at *
  clear h ha hb
  have h' : L < 1 ∨ (1 ≤ L ∧ (L != m) = true) := by
    rcases Int.lt_or_le L 1 with q | q
    · exact .inl q
    · exact .inr ⟨q, bne_iff_ne.2 (by omega)⟩
  clear hl
  rcases h' with h | ⟨h, k⟩
  · skip
    go_enter Tryz.func21, Tryz.ntmps21
    go_wp2_with fail
    refine (PA _).mono ?_
    rintro e w1 ⟨rfl, hb1⟩
    obtain ⟨f1, f2, f3, f4, f5, f6, f7, f8, f9, f10, f11, f12, f13⟩ : w1.cell? ⟨w.heap.size, 0, none⟩ = some (.bool true) ∧ w1.cell? ⟨w.heap.size, 1, none⟩ = some (.int .i64 ax) ∧ w1.cell? ⟨w.heap.size, 2, none⟩ = some (.int .i64 ay) ∧ w1.cell? ⟨w.heap.size, 3, none⟩ = some (.int .i64 bx) ∧ w1.cell? ⟨w.heap.size, 4, none⟩ = some (.int .i64 b_y) ∧ w1.cell? ⟨w.heap.size, 5, none⟩ = some (.int .i64 cx) ∧ w1.cell? ⟨w.heap.size, 6, none⟩ = some (.int .i64 cy) ∧ w1.cell? ⟨w.heap.size, 7, none⟩ = some (.int .i64 r) ∧ w1.cell? ⟨w.heap.size, 8, none⟩ = some (.int .i64 f) ∧ w1.cell? ⟨w.heap.size, 9, none⟩ = some (.int .i64 s) ∧ w1.cell? ⟨w.heap.size, 10, none⟩ = some (.int .i64 L) ∧ w1.cell? ⟨w.heap.size, 11, none⟩ = some (.int .i64 n) ∧ w1.cell? ⟨w.heap.size, 12, none⟩ = some (.bool g) := by
      refine ⟨?_, ?_, ?_, ?_, ?_, ?_, ?_, ?_, ?_, ?_, ?_, ?_, ?_⟩ <;> (refine cell_below hb1 ?_; repeat (first | (with_reducible assumption) | ((with_reducible refine cell_set ?_ ?_ _); (· first | (simp; done) | (simp; omega) | omega)) | ((with_reducible refine cell_new ?_ ?_); (· (simp; done)); (· rfl)) | (with_reducible refine cell_alloc ?_ _) | (with_reducible refine cell_drew ?_) | (with_reducible refine cell_drewN ?_ _) | (with_reducible refine cell_below (by assumption) ?_)))
    have zf1 : w.heap.size < w1.heap.size := World.block_lt_of_cell? _ _ f1
    go_wp2_with fail
    refine (PB _).mono ?_
    rintro e w2 ⟨rfl, hb2⟩
    obtain ⟨f14, f15, f16, f17, f18, f19, f20, f21, f22, f23, f24, f25, f26⟩ : w2.cell? ⟨w.heap.size, 0, none⟩ = some (.bool true) ∧ w2.cell? ⟨w.heap.size, 1, none⟩ = some (.int .i64 ax) ∧ w2.cell? ⟨w.heap.size, 2, none⟩ = some (.int .i64 ay) ∧ w2.cell? ⟨w.heap.size, 3, none⟩ = some (.int .i64 bx) ∧ w2.cell? ⟨w.heap.size, 4, none⟩ = some (.int .i64 b_y) ∧ w2.cell? ⟨w.heap.size, 5, none⟩ = some (.int .i64 cx) ∧ w2.cell? ⟨w.heap.size, 6, none⟩ = some (.int .i64 cy) ∧ w2.cell? ⟨w.heap.size, 7, none⟩ = some (.int .i64 r) ∧ w2.cell? ⟨w.heap.size, 8, none⟩ = some (.int .i64 f) ∧ w2.cell? ⟨w.heap.size, 9, none⟩ = some (.int .i64 s) ∧ w2.cell? ⟨w.heap.size, 10, none⟩ = some (.int .i64 L) ∧ w2.cell? ⟨w.heap.size, 11, none⟩ = some (.int .i64 n) ∧ w2.cell? ⟨w.heap.size, 12, none⟩ = some (.bool g) := by
      refine ⟨?_, ?_, ?_, ?_, ?_, ?_, ?_, ?_, ?_, ?_, ?_, ?_, ?_⟩ <;> (refine cell_below hb2 ?_; repeat (first | (with_reducible assumption) | ((with_reducible refine cell_set ?_ ?_ _); (· first | (simp; done) | (simp; omega) | omega)) | ((with_reducible refine cell_new ?_ ?_); (· (simp; done)); (· rfl)) | (with_reducible refine cell_alloc ?_ _) | (with_reducible refine cell_drew ?_) | (with_reducible refine cell_drewN ?_ _) | (with_reducible refine cell_below (by assumption) ?_)))
    have zf14 : w.heap.size < w2.heap.size := World.block_lt_of_cell? _ _ f14
    clear f1 zf1 f2 f3 f4 f5 f6 f7 f8 f9 f10 f11 f12 f13
    go_wp2_with fail
    refine (TV _).mono ?_
    rintro e w3 ⟨rfl, hb3⟩
    obtain ⟨f27, f28, f29, f30, f31, f32, f33, f34, f35, f36, f37, f38, f39⟩ : w3.cell? ⟨w.heap.size, 0, none⟩ = some (.bool true) ∧ w3.cell? ⟨w.heap.size, 1, none⟩ = some (.int .i64 ax) ∧ w3.cell? ⟨w.heap.size, 2, none⟩ = some (.int .i64 ay) ∧ w3.cell? ⟨w.heap.size, 3, none⟩ = some (.int .i64 bx) ∧ w3.cell? ⟨w.heap.size, 4, none⟩ = some (.int .i64 b_y) ∧ w3.cell? ⟨w.heap.size, 5, none⟩ = some (.int .i64 cx) ∧ w3.cell? ⟨w.heap.size, 6, none⟩ = some (.int .i64 cy) ∧ w3.cell? ⟨w.heap.size, 7, none⟩ = some (.int .i64 r) ∧ w3.cell? ⟨w.heap.size, 8, none⟩ = some (.int .i64 f) ∧ w3.cell? ⟨w.heap.size, 9, none⟩ = some (.int .i64 s) ∧ w3.cell? ⟨w.heap.size, 10, none⟩ = some (.int .i64 L) ∧ w3.cell? ⟨w.heap.size, 11, none⟩ = some (.int .i64 n) ∧ w3.cell? ⟨w.heap.size, 12, none⟩ = some (.bool g) := by
      refine ⟨?_, ?_, ?_, ?_, ?_, ?_, ?_, ?_, ?_, ?_, ?_, ?_, ?_⟩ <;> (refine cell_below hb3 ?_; repeat (first | (with_reducible assumption) | ((with_reducible refine cell_set ?_ ?_ _); (· first | (simp; done) | (simp; omega) | omega)) | ((with_reducible refine cell_new ?_ ?_); (· (simp; done)); (· rfl)) | (with_reducible refine cell_alloc ?_ _) | (with_reducible refine cell_drew ?_) | (with_reducible refine cell_drewN ?_ _) | (with_reducible refine cell_below (by assumption) ?_)))
    have zf27 : w.heap.size < w3.heap.size := World.block_lt_of_cell? _ _ f27
    clear f14 zf14 f15 f16 f17 f18 f19 f20 f21 f22 f23 f24 f25 f26
    go_wp2_with fail
    go_quiet (fail)
    go_wp2_with fail
    go_ret
    exact ⟨rfl, by (repeat (with_reducible (first | assumption | exact Below.refl _ _ | refine Below.drew ?_ | refine below_drewN ?_ _ | refine below_set ?_ (by simp; try omega) _ | refine below_alloc ?_ (Nat.le_refl _) _ | refine below_sub (by assumption) ?_)))⟩
  · skip
    go_enter Tryz.func21, Tryz.ntmps21
    go_wp2_with fail
    refine (PA _).mono ?_
    rintro e w1 ⟨rfl, hb1⟩
    obtain ⟨f1, f2, f3, f4, f5, f6, f7, f8, f9, f10, f11, f12, f13⟩ : w1.cell? ⟨w.heap.size, 0, none⟩ = some (.bool true) ∧ w1.cell? ⟨w.heap.size, 1, none⟩ = some (.int .i64 ax) ∧ w1.cell? ⟨w.heap.size, 2, none⟩ = some (.int .i64 ay) ∧ w1.cell? ⟨w.heap.size, 3, none⟩ = some (.int .i64 bx) ∧ w1.cell? ⟨w.heap.size, 4, none⟩ = some (.int .i64 b_y) ∧ w1.cell? ⟨w.heap.size, 5, none⟩ = some (.int .i64 cx) ∧ w1.cell? ⟨w.heap.size, 6, none⟩ = some (.int .i64 cy) ∧ w1.cell? ⟨w.heap.size, 7, none⟩ = some (.int .i64 r) ∧ w1.cell? ⟨w.heap.size, 8, none⟩ = some (.int .i64 f) ∧ w1.cell? ⟨w.heap.size, 9, none⟩ = some (.int .i64 s) ∧ w1.cell? ⟨w.heap.size, 10, none⟩ = some (.int .i64 L) ∧ w1.cell? ⟨w.heap.size, 11, none⟩ = some (.int .i64 n) ∧ w1.cell? ⟨w.heap.size, 12, none⟩ = some (.bool g) := by
      refine ⟨?_, ?_, ?_, ?_, ?_, ?_, ?_, ?_, ?_, ?_, ?_, ?_, ?_⟩ <;> (refine cell_below hb1 ?_; repeat (first | (with_reducible assumption) | ((with_reducible refine cell_set ?_ ?_ _); (· first | (simp; done) | (simp; omega) | omega)) | ((with_reducible refine cell_new ?_ ?_); (· (simp; done)); (· rfl)) | (with_reducible refine cell_alloc ?_ _) | (with_reducible refine cell_drew ?_) | (with_reducible refine cell_drewN ?_ _) | (with_reducible refine cell_below (by assumption) ?_)))
    have zf1 : w.heap.size < w1.heap.size := World.block_lt_of_cell? _ _ f1
    go_wp2_with fail
    refine (PB _).mono ?_
    rintro e w2 ⟨rfl, hb2⟩
    obtain ⟨f14, f15, f16, f17, f18, f19, f20, f21, f22, f23, f24, f25, f26⟩ : w2.cell? ⟨w.heap.size, 0, none⟩ = some (.bool true) ∧ w2.cell? ⟨w.heap.size, 1, none⟩ = some (.int .i64 ax) ∧ w2.cell? ⟨w.heap.size, 2, none⟩ = some (.int .i64 ay) ∧ w2.cell? ⟨w.heap.size, 3, none⟩ = some (.int .i64 bx) ∧ w2.cell? ⟨w.heap.size, 4, none⟩ = some (.int .i64 b_y) ∧ w2.cell? ⟨w.heap.size, 5, none⟩ = some (.int .i64 cx) ∧ w2.cell? ⟨w.heap.size, 6, none⟩ = some (.int .i64 cy) ∧ w2.cell? ⟨w.heap.size, 7, none⟩ = some (.int .i64 r) ∧ w2.cell? ⟨w.heap.size, 8, none⟩ = some (.int .i64 f) ∧ w2.cell? ⟨w.heap.size, 9, none⟩ = some (.int .i64 s) ∧ w2.cell? ⟨w.heap.size, 10, none⟩ = some (.int .i64 L) ∧ w2.cell? ⟨w.heap.size, 11, none⟩ = some (.int .i64 n) ∧ w2.cell? ⟨w.heap.size, 12, none⟩ = some (.bool g) := by
      refine ⟨?_, ?_, ?_, ?_, ?_, ?_, ?_, ?_, ?_, ?_, ?_, ?_, ?_⟩ <;> (refine cell_below hb2 ?_; repeat (first | (with_reducible assumption) | ((with_reducible refine cell_set ?_ ?_ _); (· first | (simp; done) | (simp; omega) | omega)) | ((with_reducible refine cell_new ?_ ?_); (· (simp; done)); (· rfl)) | (with_reducible refine cell_alloc ?_ _) | (with_reducible refine cell_drew ?_) | (with_reducible refine cell_drewN ?_ _) | (with_reducible refine cell_below (by assumption) ?_)))
    have zf14 : w.heap.size < w2.heap.size := World.block_lt_of_cell? _ _ f14
    clear f1 zf1 f2 f3 f4 f5 f6 f7 f8 f9 f10 f11 f12 f13
    go_wp2_with fail
    refine (TV _).mono ?_
    rintro e w3 ⟨rfl, hb3⟩
    obtain ⟨f27, f28, f29, f30, f31, f32, f33, f34, f35, f36, f37, f38, f39⟩ : w3.cell? ⟨w.heap.size, 0, none⟩ = some (.bool true) ∧ w3.cell? ⟨w.heap.size, 1, none⟩ = some (.int .i64 ax) ∧ w3.cell? ⟨w.heap.size, 2, none⟩ = some (.int .i64 ay) ∧ w3.cell? ⟨w.heap.size, 3, none⟩ = some (.int .i64 bx) ∧ w3.cell? ⟨w.heap.size, 4, none⟩ = some (.int .i64 b_y) ∧ w3.cell? ⟨w.heap.size, 5, none⟩ = some (.int .i64 cx) ∧ w3.cell? ⟨w.heap.size, 6, none⟩ = some (.int .i64 cy) ∧ w3.cell? ⟨w.heap.size, 7, none⟩ = some (.int .i64 r) ∧ w3.cell? ⟨w.heap.size, 8, none⟩ = some (.int .i64 f) ∧ w3.cell? ⟨w.heap.size, 9, none⟩ = some (.int .i64 s) ∧ w3.cell? ⟨w.heap.size, 10, none⟩ = some (.int .i64 L) ∧ w3.cell? ⟨w.heap.size, 11, none⟩ = some (.int .i64 n) ∧ w3.cell? ⟨w.heap.size, 12, none⟩ = some (.bool g) := by
      refine ⟨?_, ?_, ?_, ?_, ?_, ?_, ?_, ?_, ?_, ?_, ?_, ?_, ?_⟩ <;> (refine cell_below hb3 ?_; repeat (first | (with_reducible assumption) | ((with_reducible refine cell_set ?_ ?_ _); (· first | (simp; done) | (simp; omega) | omega)) | ((with_reducible refine cell_new ?_ ?_); (· (simp; done)); (· rfl)) | (with_reducible refine cell_alloc ?_ _) | (with_reducible refine cell_drew ?_) | (with_reducible refine cell_drewN ?_ _) | (with_reducible refine cell_below (by assumption) ?_)))
    have zf27 : w.heap.size < w3.heap.size := World.block_lt_of_cell? _ _ f27
    clear f14 zf14 f15 f16 f17 f18 f19 f20 f21 f22 f23 f24 f25 f26
    have bL : decide (L < 1) = false := decide_eq_false (by omega)
    go_wp2_with fail
    go_cut [53] (fun sA wx => ∃ wy, sA = .bool (L != m) ∧ wy = wx ∧ Below w3.heap.size w3 wy)
    case first =>
      go_region_with (first
        | (go_at_call 48; (with_reducible refine (TL _).mono ?_); rintro e w' ⟨rfl, hb'⟩; refine (fun hT => ?_) (cell_below hb' (b := w.heap.size) (o := 10) (v := .int .i64 L) ?_); rotate_left; (· (repeat (first | (with_reducible assumption) | ((with_reducible refine cell_set ?_ ?_ _); (· first | (simp; done) | (simp; omega) | omega)) | ((with_reducible refine cell_new ?_ ?_); (· (simp; done)); (· rfl)) | (with_reducible refine cell_alloc ?_ _) | (with_reducible refine cell_drew ?_) | (with_reducible refine cell_drewN ?_ _) | (with_reducible refine cell_below (by assumption) ?_))))))
      all_goals
        go_wp2_with fail
        go_meet
        refine ⟨_, by simp [*], rfl, ?_⟩
        (repeat (with_reducible (first | assumption | exact Below.refl _ _ | refine Below.drew ?_ | refine below_drewN ?_ _ | refine below_set ?_ (by simp; try omega) _ | refine below_alloc ?_ (Nat.le_refl _) _ | refine below_sub (by assumption) ?_)))
    case rest =>
      obtain ⟨wy, rfl, rfl, hby⟩ := hcut
      obtain ⟨t40, t41, t42, t43, t44, t45, t46, t47, t48, t49, t50, t51, t52⟩ : wy.cell? ⟨w.heap.size, 0, none⟩ = some (.bool true) ∧ wy.cell? ⟨w.heap.size, 1, none⟩ = some (.int .i64 ax) ∧ wy.cell? ⟨w.heap.size, 2, none⟩ = some (.int .i64 ay) ∧ wy.cell? ⟨w.heap.size, 3, none⟩ = some (.int .i64 bx) ∧ wy.cell? ⟨w.heap.size, 4, none⟩ = some (.int .i64 b_y) ∧ wy.cell? ⟨w.heap.size, 5, none⟩ = some (.int .i64 cx) ∧ wy.cell? ⟨w.heap.size, 6, none⟩ = some (.int .i64 cy) ∧ wy.cell? ⟨w.heap.size, 7, none⟩ = some (.int .i64 r) ∧ wy.cell? ⟨w.heap.size, 8, none⟩ = some (.int .i64 f) ∧ wy.cell? ⟨w.heap.size, 9, none⟩ = some (.int .i64 s) ∧ wy.cell? ⟨w.heap.size, 10, none⟩ = some (.int .i64 L) ∧ wy.cell? ⟨w.heap.size, 11, none⟩ = some (.int .i64 n) ∧ wy.cell? ⟨w.heap.size, 12, none⟩ = some (.bool g) := by
        refine ⟨?_, ?_, ?_, ?_, ?_, ?_, ?_, ?_, ?_, ?_, ?_, ?_, ?_⟩ <;> (refine cell_below hby ?_; repeat (first | (with_reducible assumption) | ((with_reducible refine cell_set ?_ ?_ _); (· first | (simp; done) | (simp; omega) | omega)) | ((with_reducible refine cell_new ?_ ?_); (· (simp; done)); (· rfl)) | (with_reducible refine cell_alloc ?_ _) | (with_reducible refine cell_drew ?_) | (with_reducible refine cell_drewN ?_ _) | (with_reducible refine cell_below (by assumption) ?_)))
      have zt40 : w.heap.size < wy.heap.size := World.block_lt_of_cell? _ _ t40
      clear f27 zf27 f28 f29 f30 f31 f32 f33 f34 f35 f36 f37 f38 f39
      go_wp2_with fail
      go_ret
      exact ⟨rfl, by (repeat (with_reducible (first | assumption | exact Below.refl _ _ | refine Below.drew ?_ | refine below_drewN ?_ _ | refine below_set ?_ (by simp; try omega) _ | refine below_alloc ?_ (Nat.le_refl _) _ | refine below_sub (by assumption) ?_)))⟩
set_option maxRecDepth 100000 in
set_option maxHeartbeats 4000000 in
theorem relem_arc (g : Bool) (ax ay bx b_y cx cy r f s L n : Int) (ha : vldB ax ay = true) (hb : vldB bx b_y = true) (h : arcB cx cy r f s = true) (h1 : 1 ≤ L) (hl : L = arcLen cx cy r f s) (t : Int) (ht : Hid (t = if awayB cx cy r f s 0 ax ay || awayB cx cy r f s L bx b_y then 10 else 0)) (w : World) :
    Calls Tryz.prog 21 #[.agg #[.bool true, .int .i64 ax, .int .i64 ay, .int .i64 bx, .int .i64 b_y, .int .i64 cx, .int .i64 cy, .int .i64 r, .int .i64 f, .int .i64 s, .int .i64 L, .int .i64 n, .bool g]] w fun e w' => e = .returned (.int .i64 t) ∧ Below w.heap.size w w' := by
  have PA := fun W => rpvalid_d ax ay true ha W
  have PB := fun W => rpvalid_d bx b_y true hb W
  have TV := fun W => rtvalid_any cx cy r f s W
  have TL := fun W => rtlen_any cx cy r f s W
  rw [h] at TV
  rw [← hl] at TL
  have HL := hide hl
  clear hl
  have v1 := vldB_bd ha
  have v2 := vldB_bd hb
  have d1 := arcAt_bd cx cy r f s 0
  have d2 := arcAt_bd cx cy r f s L
  obtain ⟨R0, hR0⟩ : ∃ R, R = arcAt cx cy r f s 0 := ⟨_, rfl⟩
  obtain ⟨R1, hR1⟩ : ∃ R, R = arcAt cx cy r f s L := ⟨_, rfl⟩
  have A0 := fun W => rarcat_any cx cy r f s 0 W R0 hR0
  have A1 := fun W => rarcat_any cx cy r f s L W R1 hR1
  have ht : Hid (t = if (decide (R0.2.2.2 = 0) && farB ax ay R0.1 R0.2.1) || (decide (R1.2.2.2 = 0) && farB bx b_y R1.1 R1.2.1) then 10 else 0) := hide (by rw [ht.out, hR0, hR1]; rfl)
  have hE := arcAt_code (al := 0) h (Int.le_refl 0) (arcLen_bd cx cy r f s).1
  have hG := arcAt_code (al := L) h (by omega) (by rw [HL.out]; exact Int.le_refl _)
  rw [← hR0] at d1 hE
  rw [← hR1] at d2 hG
  obtain ⟨X, Y, C, E⟩ := R0
  obtain ⟨U, V, D, G⟩ := R1
  dsimp only at d1 d2 hE hG
  have N0 := fun W => near_any X Y ax ay (by omega) (by omega) (by omega) (by omega) (by omega) (by omega) (by omega) (by omega) W
  have N1 := fun W => near_any U V bx b_y (by omega) (by omega) (by omega) (by omega) (by omega) (by omega) (by omega) (by omega) W
  clear h ha hb hR0 hR1 d1 d2 v1 v2
  generalize farB ax ay X Y = b0 at *
  generalize farB bx b_y U V = b1 at *
  go_enter Tryz.func21, Tryz.ntmps21
  go_wp2_with fail
  refine (PA _).mono ?_
  rintro e w1 ⟨rfl, hb1⟩
  obtain ⟨f1, f2, f3, f4, f5, f6, f7, f8, f9, f10, f11, f12, f13⟩ : w1.cell? ⟨w.heap.size, 0, none⟩ = some (.bool true) ∧ w1.cell? ⟨w.heap.size, 1, none⟩ = some (.int .i64 ax) ∧ w1.cell? ⟨w.heap.size, 2, none⟩ = some (.int .i64 ay) ∧ w1.cell? ⟨w.heap.size, 3, none⟩ = some (.int .i64 bx) ∧ w1.cell? ⟨w.heap.size, 4, none⟩ = some (.int .i64 b_y) ∧ w1.cell? ⟨w.heap.size, 5, none⟩ = some (.int .i64 cx) ∧ w1.cell? ⟨w.heap.size, 6, none⟩ = some (.int .i64 cy) ∧ w1.cell? ⟨w.heap.size, 7, none⟩ = some (.int .i64 r) ∧ w1.cell? ⟨w.heap.size, 8, none⟩ = some (.int .i64 f) ∧ w1.cell? ⟨w.heap.size, 9, none⟩ = some (.int .i64 s) ∧ w1.cell? ⟨w.heap.size, 10, none⟩ = some (.int .i64 L) ∧ w1.cell? ⟨w.heap.size, 11, none⟩ = some (.int .i64 n) ∧ w1.cell? ⟨w.heap.size, 12, none⟩ = some (.bool g) := by
    refine ⟨?_, ?_, ?_, ?_, ?_, ?_, ?_, ?_, ?_, ?_, ?_, ?_, ?_⟩ <;> (refine cell_below hb1 ?_; repeat (first | (with_reducible assumption) | ((with_reducible refine cell_set ?_ ?_ _); (· first | (simp; done) | (simp; omega) | omega)) | ((with_reducible refine cell_new ?_ ?_); (· (simp; done)); (· rfl)) | (with_reducible refine cell_alloc ?_ _) | (with_reducible refine cell_drew ?_) | (with_reducible refine cell_drewN ?_ _) | (with_reducible refine cell_below (by assumption) ?_)))
  have zf1 : w.heap.size < w1.heap.size := World.block_lt_of_cell? _ _ f1
  go_wp2_with fail
  refine (PB _).mono ?_
  rintro e w2 ⟨rfl, hb2⟩
  obtain ⟨f14, f15, f16, f17, f18, f19, f20, f21, f22, f23, f24, f25, f26⟩ : w2.cell? ⟨w.heap.size, 0, none⟩ = some (.bool true) ∧ w2.cell? ⟨w.heap.size, 1, none⟩ = some (.int .i64 ax) ∧ w2.cell? ⟨w.heap.size, 2, none⟩ = some (.int .i64 ay) ∧ w2.cell? ⟨w.heap.size, 3, none⟩ = some (.int .i64 bx) ∧ w2.cell? ⟨w.heap.size, 4, none⟩ = some (.int .i64 b_y) ∧ w2.cell? ⟨w.heap.size, 5, none⟩ = some (.int .i64 cx) ∧ w2.cell? ⟨w.heap.size, 6, none⟩ = some (.int .i64 cy) ∧ w2.cell? ⟨w.heap.size, 7, none⟩ = some (.int .i64 r) ∧ w2.cell? ⟨w.heap.size, 8, none⟩ = some (.int .i64 f) ∧ w2.cell? ⟨w.heap.size, 9, none⟩ = some (.int .i64 s) ∧ w2.cell? ⟨w.heap.size, 10, none⟩ = some (.int .i64 L) ∧ w2.cell? ⟨w.heap.size, 11, none⟩ = some (.int .i64 n) ∧ w2.cell? ⟨w.heap.size, 12, none⟩ = some (.bool g) := by
    refine ⟨?_, ?_, ?_, ?_, ?_, ?_, ?_, ?_, ?_, ?_, ?_, ?_, ?_⟩ <;> (refine cell_below hb2 ?_; repeat (first | (with_reducible assumption) | ((with_reducible refine cell_set ?_ ?_ _); (· first | (simp; done) | (simp; omega) | omega)) | ((with_reducible refine cell_new ?_ ?_); (· (simp; done)); (· rfl)) | (with_reducible refine cell_alloc ?_ _) | (with_reducible refine cell_drew ?_) | (with_reducible refine cell_drewN ?_ _) | (with_reducible refine cell_below (by assumption) ?_)))
  have zf14 : w.heap.size < w2.heap.size := World.block_lt_of_cell? _ _ f14
  clear f1 zf1 f2 f3 f4 f5 f6 f7 f8 f9 f10 f11 f12 f13
  go_wp2_with fail
  refine (TV _).mono ?_
  rintro e w3 ⟨rfl, hb3⟩
  obtain ⟨f27, f28, f29, f30, f31, f32, f33, f34, f35, f36, f37, f38, f39⟩ : w3.cell? ⟨w.heap.size, 0, none⟩ = some (.bool true) ∧ w3.cell? ⟨w.heap.size, 1, none⟩ = some (.int .i64 ax) ∧ w3.cell? ⟨w.heap.size, 2, none⟩ = some (.int .i64 ay) ∧ w3.cell? ⟨w.heap.size, 3, none⟩ = some (.int .i64 bx) ∧ w3.cell? ⟨w.heap.size, 4, none⟩ = some (.int .i64 b_y) ∧ w3.cell? ⟨w.heap.size, 5, none⟩ = some (.int .i64 cx) ∧ w3.cell? ⟨w.heap.size, 6, none⟩ = some (.int .i64 cy) ∧ w3.cell? ⟨w.heap.size, 7, none⟩ = some (.int .i64 r) ∧ w3.cell? ⟨w.heap.size, 8, none⟩ = some (.int .i64 f) ∧ w3.cell? ⟨w.heap.size, 9, none⟩ = some (.int .i64 s) ∧ w3.cell? ⟨w.heap.size, 10, none⟩ = some (.int .i64 L) ∧ w3.cell? ⟨w.heap.size, 11, none⟩ = some (.int .i64 n) ∧ w3.cell? ⟨w.heap.size, 12, none⟩ = some (.bool g) := by
    refine ⟨?_, ?_, ?_, ?_, ?_, ?_, ?_, ?_, ?_, ?_, ?_, ?_, ?_⟩ <;> (refine cell_below hb3 ?_; repeat (first | (with_reducible assumption) | ((with_reducible refine cell_set ?_ ?_ _); (· first | (simp; done) | (simp; omega) | omega)) | ((with_reducible refine cell_new ?_ ?_); (· (simp; done)); (· rfl)) | (with_reducible refine cell_alloc ?_ _) | (with_reducible refine cell_drew ?_) | (with_reducible refine cell_drewN ?_ _) | (with_reducible refine cell_below (by assumption) ?_)))
  have zf27 : w.heap.size < w3.heap.size := World.block_lt_of_cell? _ _ f27
  clear f14 zf14 f15 f16 f17 f18 f19 f20 f21 f22 f23 f24 f25 f26
  have bL : decide (L < 1) = false := decide_eq_false (by omega)
  go_wp2_with fail
  go_cut [53] (fun sA wx => ∃ wy, sA = .bool (L != L) ∧ wy = wx ∧ Below w3.heap.size w3 wy)
  case first =>
    go_region_with (first
      | (go_at_call 48; (with_reducible refine (TL _).mono ?_); rintro e w' ⟨rfl, hb'⟩; refine (fun hT => ?_) (cell_below hb' (b := w.heap.size) (o := 10) (v := .int .i64 L) ?_); rotate_left; (· (repeat (first | (with_reducible assumption) | ((with_reducible refine cell_set ?_ ?_ _); (· first | (simp; done) | (simp; omega) | omega)) | ((with_reducible refine cell_new ?_ ?_); (· (simp; done)); (· rfl)) | (with_reducible refine cell_alloc ?_ _) | (with_reducible refine cell_drew ?_) | (with_reducible refine cell_drewN ?_ _) | (with_reducible refine cell_below (by assumption) ?_))))))
    all_goals
      go_wp2_with fail
      go_meet
      refine ⟨_, by simp [*], rfl, ?_⟩
      (repeat (with_reducible (first | assumption | exact Below.refl _ _ | refine Below.drew ?_ | refine below_drewN ?_ _ | refine below_set ?_ (by simp; try omega) _ | refine below_alloc ?_ (Nat.le_refl _) _ | refine below_sub (by assumption) ?_)))
  case rest =>
    obtain ⟨wy, rfl, rfl, hby⟩ := hcut
    obtain ⟨t40, t41, t42, t43, t44, t45, t46, t47, t48, t49, t50, t51, t52⟩ : wy.cell? ⟨w.heap.size, 0, none⟩ = some (.bool true) ∧ wy.cell? ⟨w.heap.size, 1, none⟩ = some (.int .i64 ax) ∧ wy.cell? ⟨w.heap.size, 2, none⟩ = some (.int .i64 ay) ∧ wy.cell? ⟨w.heap.size, 3, none⟩ = some (.int .i64 bx) ∧ wy.cell? ⟨w.heap.size, 4, none⟩ = some (.int .i64 b_y) ∧ wy.cell? ⟨w.heap.size, 5, none⟩ = some (.int .i64 cx) ∧ wy.cell? ⟨w.heap.size, 6, none⟩ = some (.int .i64 cy) ∧ wy.cell? ⟨w.heap.size, 7, none⟩ = some (.int .i64 r) ∧ wy.cell? ⟨w.heap.size, 8, none⟩ = some (.int .i64 f) ∧ wy.cell? ⟨w.heap.size, 9, none⟩ = some (.int .i64 s) ∧ wy.cell? ⟨w.heap.size, 10, none⟩ = some (.int .i64 L) ∧ wy.cell? ⟨w.heap.size, 11, none⟩ = some (.int .i64 n) ∧ wy.cell? ⟨w.heap.size, 12, none⟩ = some (.bool g) := by
      refine ⟨?_, ?_, ?_, ?_, ?_, ?_, ?_, ?_, ?_, ?_, ?_, ?_, ?_⟩ <;> (refine cell_below hby ?_; repeat (first | (with_reducible assumption) | ((with_reducible refine cell_set ?_ ?_ _); (· first | (simp; done) | (simp; omega) | omega)) | ((with_reducible refine cell_new ?_ ?_); (· (simp; done)); (· rfl)) | (with_reducible refine cell_alloc ?_ _) | (with_reducible refine cell_drew ?_) | (with_reducible refine cell_drewN ?_ _) | (with_reducible refine cell_below (by assumption) ?_)))
    have zt40 : w.heap.size < wy.heap.size := World.block_lt_of_cell? _ _ t40
    clear f27 zf27 f28 f29 f30 f31 f32 f33 f34 f35 f36 f37 f38 f39
    go_wp2_with fail
    refine (A0 _).mono ?_
    rintro e w4 ⟨rfl, hb4⟩
    obtain ⟨f53, f54, f55, f56, f57, f58, f59, f60, f61, f62, f63, f64, f65⟩ : w4.cell? ⟨w.heap.size, 0, none⟩ = some (.bool true) ∧ w4.cell? ⟨w.heap.size, 1, none⟩ = some (.int .i64 ax) ∧ w4.cell? ⟨w.heap.size, 2, none⟩ = some (.int .i64 ay) ∧ w4.cell? ⟨w.heap.size, 3, none⟩ = some (.int .i64 bx) ∧ w4.cell? ⟨w.heap.size, 4, none⟩ = some (.int .i64 b_y) ∧ w4.cell? ⟨w.heap.size, 5, none⟩ = some (.int .i64 cx) ∧ w4.cell? ⟨w.heap.size, 6, none⟩ = some (.int .i64 cy) ∧ w4.cell? ⟨w.heap.size, 7, none⟩ = some (.int .i64 r) ∧ w4.cell? ⟨w.heap.size, 8, none⟩ = some (.int .i64 f) ∧ w4.cell? ⟨w.heap.size, 9, none⟩ = some (.int .i64 s) ∧ w4.cell? ⟨w.heap.size, 10, none⟩ = some (.int .i64 L) ∧ w4.cell? ⟨w.heap.size, 11, none⟩ = some (.int .i64 n) ∧ w4.cell? ⟨w.heap.size, 12, none⟩ = some (.bool g) := by
      refine ⟨?_, ?_, ?_, ?_, ?_, ?_, ?_, ?_, ?_, ?_, ?_, ?_, ?_⟩ <;> (refine cell_below hb4 ?_; repeat (first | (with_reducible assumption) | ((with_reducible refine cell_set ?_ ?_ _); (· first | (simp; done) | (simp; omega) | omega)) | ((with_reducible refine cell_new ?_ ?_); (· (simp; done)); (· rfl)) | (with_reducible refine cell_alloc ?_ _) | (with_reducible refine cell_drew ?_) | (with_reducible refine cell_drewN ?_ _) | (with_reducible refine cell_below (by assumption) ?_)))
    have zf53 : w.heap.size < w4.heap.size := World.block_lt_of_cell? _ _ f53
    clear t40 zt40 t41 t42 t43 t44 t45 t46 t47 t48 t49 t50 t51 t52
    go_wp2_with fail
    refine (A1 _).mono ?_
    rintro e w5 ⟨rfl, hb5⟩
    obtain ⟨f66, f67, f68, f69, f70, f71, f72, f73, f74, f75, f76, f77, f78, f79, f80⟩ : w5.cell? ⟨w.heap.size, 0, none⟩ = some (.bool true) ∧ w5.cell? ⟨w.heap.size, 1, none⟩ = some (.int .i64 ax) ∧ w5.cell? ⟨w.heap.size, 2, none⟩ = some (.int .i64 ay) ∧ w5.cell? ⟨w.heap.size, 3, none⟩ = some (.int .i64 bx) ∧ w5.cell? ⟨w.heap.size, 4, none⟩ = some (.int .i64 b_y) ∧ w5.cell? ⟨w.heap.size, 5, none⟩ = some (.int .i64 cx) ∧ w5.cell? ⟨w.heap.size, 6, none⟩ = some (.int .i64 cy) ∧ w5.cell? ⟨w.heap.size, 7, none⟩ = some (.int .i64 r) ∧ w5.cell? ⟨w.heap.size, 8, none⟩ = some (.int .i64 f) ∧ w5.cell? ⟨w.heap.size, 9, none⟩ = some (.int .i64 s) ∧ w5.cell? ⟨w.heap.size, 10, none⟩ = some (.int .i64 L) ∧ w5.cell? ⟨w.heap.size, 11, none⟩ = some (.int .i64 n) ∧ w5.cell? ⟨w.heap.size, 12, none⟩ = some (.bool g) ∧ w5.cell? ⟨w4.heap.size, 0, none⟩ = some (.int .i64 X) ∧ w5.cell? ⟨w4.heap.size, 1, none⟩ = some (.int .i64 Y) := by
      refine ⟨?_, ?_, ?_, ?_, ?_, ?_, ?_, ?_, ?_, ?_, ?_, ?_, ?_, ?_, ?_⟩ <;> (refine cell_below hb5 ?_; repeat (first | (with_reducible assumption) | ((with_reducible refine cell_set ?_ ?_ _); (· first | (simp; done) | (simp; omega) | omega)) | ((with_reducible refine cell_new ?_ ?_); (· (simp; done)); (· rfl)) | (with_reducible refine cell_alloc ?_ _) | (with_reducible refine cell_drew ?_) | (with_reducible refine cell_drewN ?_ _) | (with_reducible refine cell_below (by assumption) ?_)))
    have zf66 : w.heap.size < w5.heap.size := World.block_lt_of_cell? _ _ f66
    have zf79 : w4.heap.size < w5.heap.size := World.block_lt_of_cell? _ _ f79
    clear f53 zf53 f54 f55 f56 f57 f58 f59 f60 f61 f62 f63 f64 f65
    rcases hE with rfl | rfl
    · rcases b0 with _ | _
      · rcases hG with rfl | rfl
        · rcases b1 with _ | _
          · obtain rfl : t = 0 := by rw [ht.out]; simp
            go_wp2_with fail
            refine (N0 _).mono ?_
            rintro e w6 ⟨rfl, hb6⟩
            obtain ⟨f81, f82, f83, f84, f85, f86, f87, f88, f89, f90, f91, f92, f93, f94, f95, f96, f97⟩ : w6.cell? ⟨w.heap.size, 0, none⟩ = some (.bool true) ∧ w6.cell? ⟨w.heap.size, 1, none⟩ = some (.int .i64 ax) ∧ w6.cell? ⟨w.heap.size, 2, none⟩ = some (.int .i64 ay) ∧ w6.cell? ⟨w.heap.size, 3, none⟩ = some (.int .i64 bx) ∧ w6.cell? ⟨w.heap.size, 4, none⟩ = some (.int .i64 b_y) ∧ w6.cell? ⟨w.heap.size, 5, none⟩ = some (.int .i64 cx) ∧ w6.cell? ⟨w.heap.size, 6, none⟩ = some (.int .i64 cy) ∧ w6.cell? ⟨w.heap.size, 7, none⟩ = some (.int .i64 r) ∧ w6.cell? ⟨w.heap.size, 8, none⟩ = some (.int .i64 f) ∧ w6.cell? ⟨w.heap.size, 9, none⟩ = some (.int .i64 s) ∧ w6.cell? ⟨w.heap.size, 10, none⟩ = some (.int .i64 L) ∧ w6.cell? ⟨w.heap.size, 11, none⟩ = some (.int .i64 n) ∧ w6.cell? ⟨w.heap.size, 12, none⟩ = some (.bool g) ∧ w6.cell? ⟨w4.heap.size, 0, none⟩ = some (.int .i64 X) ∧ w6.cell? ⟨w4.heap.size, 1, none⟩ = some (.int .i64 Y) ∧ w6.cell? ⟨w5.heap.size, 0, none⟩ = some (.int .i64 U) ∧ w6.cell? ⟨w5.heap.size, 1, none⟩ = some (.int .i64 V) := by
              refine ⟨?_, ?_, ?_, ?_, ?_, ?_, ?_, ?_, ?_, ?_, ?_, ?_, ?_, ?_, ?_, ?_, ?_⟩ <;> (refine cell_below hb6 ?_; repeat (first | (with_reducible assumption) | ((with_reducible refine cell_set ?_ ?_ _); (· first | (simp; done) | (simp; omega) | omega)) | ((with_reducible refine cell_new ?_ ?_); (· (simp; done)); (· rfl)) | (with_reducible refine cell_alloc ?_ _) | (with_reducible refine cell_drew ?_) | (with_reducible refine cell_drewN ?_ _) | (with_reducible refine cell_below (by assumption) ?_)))
            have zf81 : w.heap.size < w6.heap.size := World.block_lt_of_cell? _ _ f81
            have zf94 : w4.heap.size < w6.heap.size := World.block_lt_of_cell? _ _ f94
            have zf96 : w5.heap.size < w6.heap.size := World.block_lt_of_cell? _ _ f96
            clear f66 zf66 f67 f68 f69 f70 f71 f72 f73 f74 f75 f76 f77 f78 f79 zf79 f80
            go_wp2_with fail
            refine (N1 _).mono ?_
            rintro e w7 ⟨rfl, hb7⟩
            obtain ⟨f98, f99, f100, f101, f102, f103, f104, f105, f106, f107, f108, f109, f110, f111, f112, f113, f114⟩ : w7.cell? ⟨w.heap.size, 0, none⟩ = some (.bool true) ∧ w7.cell? ⟨w.heap.size, 1, none⟩ = some (.int .i64 ax) ∧ w7.cell? ⟨w.heap.size, 2, none⟩ = some (.int .i64 ay) ∧ w7.cell? ⟨w.heap.size, 3, none⟩ = some (.int .i64 bx) ∧ w7.cell? ⟨w.heap.size, 4, none⟩ = some (.int .i64 b_y) ∧ w7.cell? ⟨w.heap.size, 5, none⟩ = some (.int .i64 cx) ∧ w7.cell? ⟨w.heap.size, 6, none⟩ = some (.int .i64 cy) ∧ w7.cell? ⟨w.heap.size, 7, none⟩ = some (.int .i64 r) ∧ w7.cell? ⟨w.heap.size, 8, none⟩ = some (.int .i64 f) ∧ w7.cell? ⟨w.heap.size, 9, none⟩ = some (.int .i64 s) ∧ w7.cell? ⟨w.heap.size, 10, none⟩ = some (.int .i64 L) ∧ w7.cell? ⟨w.heap.size, 11, none⟩ = some (.int .i64 n) ∧ w7.cell? ⟨w.heap.size, 12, none⟩ = some (.bool g) ∧ w7.cell? ⟨w4.heap.size, 0, none⟩ = some (.int .i64 X) ∧ w7.cell? ⟨w4.heap.size, 1, none⟩ = some (.int .i64 Y) ∧ w7.cell? ⟨w5.heap.size, 0, none⟩ = some (.int .i64 U) ∧ w7.cell? ⟨w5.heap.size, 1, none⟩ = some (.int .i64 V) := by
              refine ⟨?_, ?_, ?_, ?_, ?_, ?_, ?_, ?_, ?_, ?_, ?_, ?_, ?_, ?_, ?_, ?_, ?_⟩ <;> (refine cell_below hb7 ?_; repeat (first | (with_reducible assumption) | ((with_reducible refine cell_set ?_ ?_ _); (· first | (simp; done) | (simp; omega) | omega)) | ((with_reducible refine cell_new ?_ ?_); (· (simp; done)); (· rfl)) | (with_reducible refine cell_alloc ?_ _) | (with_reducible refine cell_drew ?_) | (with_reducible refine cell_drewN ?_ _) | (with_reducible refine cell_below (by assumption) ?_)))
            have zf98 : w.heap.size < w7.heap.size := World.block_lt_of_cell? _ _ f98
            have zf111 : w4.heap.size < w7.heap.size := World.block_lt_of_cell? _ _ f111
            have zf113 : w5.heap.size < w7.heap.size := World.block_lt_of_cell? _ _ f113
            clear f81 zf81 f82 f83 f84 f85 f86 f87 f88 f89 f90 f91 f92 f93 f94 zf94 f95 f96 zf96 f97
            go_wp2_with fail
            go_ret
            exact ⟨rfl, by (repeat (with_reducible (first | assumption | exact Below.refl _ _ | refine Below.drew ?_ | refine below_drewN ?_ _ | refine below_set ?_ (by simp; try omega) _ | refine below_alloc ?_ (Nat.le_refl _) _ | refine below_sub (by assumption) ?_)))⟩
          · obtain rfl : t = 10 := by rw [ht.out]; simp
            go_wp2_with fail
            refine (N0 _).mono ?_
            rintro e w6 ⟨rfl, hb6⟩
            obtain ⟨f81, f82, f83, f84, f85, f86, f87, f88, f89, f90, f91, f92, f93, f94, f95, f96, f97⟩ : w6.cell? ⟨w.heap.size, 0, none⟩ = some (.bool true) ∧ w6.cell? ⟨w.heap.size, 1, none⟩ = some (.int .i64 ax) ∧ w6.cell? ⟨w.heap.size, 2, none⟩ = some (.int .i64 ay) ∧ w6.cell? ⟨w.heap.size, 3, none⟩ = some (.int .i64 bx) ∧ w6.cell? ⟨w.heap.size, 4, none⟩ = some (.int .i64 b_y) ∧ w6.cell? ⟨w.heap.size, 5, none⟩ = some (.int .i64 cx) ∧ w6.cell? ⟨w.heap.size, 6, none⟩ = some (.int .i64 cy) ∧ w6.cell? ⟨w.heap.size, 7, none⟩ = some (.int .i64 r) ∧ w6.cell? ⟨w.heap.size, 8, none⟩ = some (.int .i64 f) ∧ w6.cell? ⟨w.heap.size, 9, none⟩ = some (.int .i64 s) ∧ w6.cell? ⟨w.heap.size, 10, none⟩ = some (.int .i64 L) ∧ w6.cell? ⟨w.heap.size, 11, none⟩ = some (.int .i64 n) ∧ w6.cell? ⟨w.heap.size, 12, none⟩ = some (.bool g) ∧ w6.cell? ⟨w4.heap.size, 0, none⟩ = some (.int .i64 X) ∧ w6.cell? ⟨w4.heap.size, 1, none⟩ = some (.int .i64 Y) ∧ w6.cell? ⟨w5.heap.size, 0, none⟩ = some (.int .i64 U) ∧ w6.cell? ⟨w5.heap.size, 1, none⟩ = some (.int .i64 V) := by
              refine ⟨?_, ?_, ?_, ?_, ?_, ?_, ?_, ?_, ?_, ?_, ?_, ?_, ?_, ?_, ?_, ?_, ?_⟩ <;> (refine cell_below hb6 ?_; repeat (first | (with_reducible assumption) | ((with_reducible refine cell_set ?_ ?_ _); (· first | (simp; done) | (simp; omega) | omega)) | ((with_reducible refine cell_new ?_ ?_); (· (simp; done)); (· rfl)) | (with_reducible refine cell_alloc ?_ _) | (with_reducible refine cell_drew ?_) | (with_reducible refine cell_drewN ?_ _) | (with_reducible refine cell_below (by assumption) ?_)))
            have zf81 : w.heap.size < w6.heap.size := World.block_lt_of_cell? _ _ f81
            have zf94 : w4.heap.size < w6.heap.size := World.block_lt_of_cell? _ _ f94
            have zf96 : w5.heap.size < w6.heap.size := World.block_lt_of_cell? _ _ f96
            clear f66 zf66 f67 f68 f69 f70 f71 f72 f73 f74 f75 f76 f77 f78 f79 zf79 f80
            go_wp2_with fail
            refine (N1 _).mono ?_
            rintro e w7 ⟨rfl, hb7⟩
            obtain ⟨f98, f99, f100, f101, f102, f103, f104, f105, f106, f107, f108, f109, f110, f111, f112, f113, f114⟩ : w7.cell? ⟨w.heap.size, 0, none⟩ = some (.bool true) ∧ w7.cell? ⟨w.heap.size, 1, none⟩ = some (.int .i64 ax) ∧ w7.cell? ⟨w.heap.size, 2, none⟩ = some (.int .i64 ay) ∧ w7.cell? ⟨w.heap.size, 3, none⟩ = some (.int .i64 bx) ∧ w7.cell? ⟨w.heap.size, 4, none⟩ = some (.int .i64 b_y) ∧ w7.cell? ⟨w.heap.size, 5, none⟩ = some (.int .i64 cx) ∧ w7.cell? ⟨w.heap.size, 6, none⟩ = some (.int .i64 cy) ∧ w7.cell? ⟨w.heap.size, 7, none⟩ = some (.int .i64 r) ∧ w7.cell? ⟨w.heap.size, 8, none⟩ = some (.int .i64 f) ∧ w7.cell? ⟨w.heap.size, 9, none⟩ = some (.int .i64 s) ∧ w7.cell? ⟨w.heap.size, 10, none⟩ = some (.int .i64 L) ∧ w7.cell? ⟨w.heap.size, 11, none⟩ = some (.int .i64 n) ∧ w7.cell? ⟨w.heap.size, 12, none⟩ = some (.bool g) ∧ w7.cell? ⟨w4.heap.size, 0, none⟩ = some (.int .i64 X) ∧ w7.cell? ⟨w4.heap.size, 1, none⟩ = some (.int .i64 Y) ∧ w7.cell? ⟨w5.heap.size, 0, none⟩ = some (.int .i64 U) ∧ w7.cell? ⟨w5.heap.size, 1, none⟩ = some (.int .i64 V) := by
              refine ⟨?_, ?_, ?_, ?_, ?_, ?_, ?_, ?_, ?_, ?_, ?_, ?_, ?_, ?_, ?_, ?_, ?_⟩ <;> (refine cell_below hb7 ?_; repeat (first | (with_reducible assumption) | ((with_reducible refine cell_set ?_ ?_ _); (· first | (simp; done) | (simp; omega) | omega)) | ((with_reducible refine cell_new ?_ ?_); (· (simp; done)); (· rfl)) | (with_reducible refine cell_alloc ?_ _) | (with_reducible refine cell_drew ?_) | (with_reducible refine cell_drewN ?_ _) | (with_reducible refine cell_below (by assumption) ?_)))
            have zf98 : w.heap.size < w7.heap.size := World.block_lt_of_cell? _ _ f98
            have zf111 : w4.heap.size < w7.heap.size := World.block_lt_of_cell? _ _ f111
            have zf113 : w5.heap.size < w7.heap.size := World.block_lt_of_cell? _ _ f113
            clear f81 zf81 f82 f83 f84 f85 f86 f87 f88 f89 f90 f91 f92 f93 f94 zf94 f95 f96 zf96 f97
            go_wp2_with fail
            go_ret
            exact ⟨rfl, by (repeat (with_reducible (first | assumption | exact Below.refl _ _ | refine Below.drew ?_ | refine below_drewN ?_ _ | refine below_set ?_ (by simp; try omega) _ | refine below_alloc ?_ (Nat.le_refl _) _ | refine below_sub (by assumption) ?_)))⟩
        · obtain rfl : t = 0 := by rw [ht.out]; simp
          go_wp2_with fail
          refine (N0 _).mono ?_
          rintro e w6 ⟨rfl, hb6⟩
          obtain ⟨f81, f82, f83, f84, f85, f86, f87, f88, f89, f90, f91, f92, f93, f94, f95, f96, f97⟩ : w6.cell? ⟨w.heap.size, 0, none⟩ = some (.bool true) ∧ w6.cell? ⟨w.heap.size, 1, none⟩ = some (.int .i64 ax) ∧ w6.cell? ⟨w.heap.size, 2, none⟩ = some (.int .i64 ay) ∧ w6.cell? ⟨w.heap.size, 3, none⟩ = some (.int .i64 bx) ∧ w6.cell? ⟨w.heap.size, 4, none⟩ = some (.int .i64 b_y) ∧ w6.cell? ⟨w.heap.size, 5, none⟩ = some (.int .i64 cx) ∧ w6.cell? ⟨w.heap.size, 6, none⟩ = some (.int .i64 cy) ∧ w6.cell? ⟨w.heap.size, 7, none⟩ = some (.int .i64 r) ∧ w6.cell? ⟨w.heap.size, 8, none⟩ = some (.int .i64 f) ∧ w6.cell? ⟨w.heap.size, 9, none⟩ = some (.int .i64 s) ∧ w6.cell? ⟨w.heap.size, 10, none⟩ = some (.int .i64 L) ∧ w6.cell? ⟨w.heap.size, 11, none⟩ = some (.int .i64 n) ∧ w6.cell? ⟨w.heap.size, 12, none⟩ = some (.bool g) ∧ w6.cell? ⟨w4.heap.size, 0, none⟩ = some (.int .i64 X) ∧ w6.cell? ⟨w4.heap.size, 1, none⟩ = some (.int .i64 Y) ∧ w6.cell? ⟨w5.heap.size, 0, none⟩ = some (.int .i64 U) ∧ w6.cell? ⟨w5.heap.size, 1, none⟩ = some (.int .i64 V) := by
            refine ⟨?_, ?_, ?_, ?_, ?_, ?_, ?_, ?_, ?_, ?_, ?_, ?_, ?_, ?_, ?_, ?_, ?_⟩ <;> (refine cell_below hb6 ?_; repeat (first | (with_reducible assumption) | ((with_reducible refine cell_set ?_ ?_ _); (· first | (simp; done) | (simp; omega) | omega)) | ((with_reducible refine cell_new ?_ ?_); (· (simp; done)); (· rfl)) | (with_reducible refine cell_alloc ?_ _) | (with_reducible refine cell_drew ?_) | (with_reducible refine cell_drewN ?_ _) | (with_reducible refine cell_below (by assumption) ?_)))
          have zf81 : w.heap.size < w6.heap.size := World.block_lt_of_cell? _ _ f81
          have zf94 : w4.heap.size < w6.heap.size := World.block_lt_of_cell? _ _ f94
          have zf96 : w5.heap.size < w6.heap.size := World.block_lt_of_cell? _ _ f96
          clear f66 zf66 f67 f68 f69 f70 f71 f72 f73 f74 f75 f76 f77 f78 f79 zf79 f80
          go_wp2_with fail
          go_ret
          exact ⟨rfl, by (repeat (with_reducible (first | assumption | exact Below.refl _ _ | refine Below.drew ?_ | refine below_drewN ?_ _ | refine below_set ?_ (by simp; try omega) _ | refine below_alloc ?_ (Nat.le_refl _) _ | refine below_sub (by assumption) ?_)))⟩
      · obtain rfl : t = 10 := by rw [ht.out]; simp
        go_wp2_with fail
        refine (N0 _).mono ?_
        rintro e w6 ⟨rfl, hb6⟩
        obtain ⟨f81, f82, f83, f84, f85, f86, f87, f88, f89, f90, f91, f92, f93, f94, f95, f96, f97⟩ : w6.cell? ⟨w.heap.size, 0, none⟩ = some (.bool true) ∧ w6.cell? ⟨w.heap.size, 1, none⟩ = some (.int .i64 ax) ∧ w6.cell? ⟨w.heap.size, 2, none⟩ = some (.int .i64 ay) ∧ w6.cell? ⟨w.heap.size, 3, none⟩ = some (.int .i64 bx) ∧ w6.cell? ⟨w.heap.size, 4, none⟩ = some (.int .i64 b_y) ∧ w6.cell? ⟨w.heap.size, 5, none⟩ = some (.int .i64 cx) ∧ w6.cell? ⟨w.heap.size, 6, none⟩ = some (.int .i64 cy) ∧ w6.cell? ⟨w.heap.size, 7, none⟩ = some (.int .i64 r) ∧ w6.cell? ⟨w.heap.size, 8, none⟩ = some (.int .i64 f) ∧ w6.cell? ⟨w.heap.size, 9, none⟩ = some (.int .i64 s) ∧ w6.cell? ⟨w.heap.size, 10, none⟩ = some (.int .i64 L) ∧ w6.cell? ⟨w.heap.size, 11, none⟩ = some (.int .i64 n) ∧ w6.cell? ⟨w.heap.size, 12, none⟩ = some (.bool g) ∧ w6.cell? ⟨w4.heap.size, 0, none⟩ = some (.int .i64 X) ∧ w6.cell? ⟨w4.heap.size, 1, none⟩ = some (.int .i64 Y) ∧ w6.cell? ⟨w5.heap.size, 0, none⟩ = some (.int .i64 U) ∧ w6.cell? ⟨w5.heap.size, 1, none⟩ = some (.int .i64 V) := by
          refine ⟨?_, ?_, ?_, ?_, ?_, ?_, ?_, ?_, ?_, ?_, ?_, ?_, ?_, ?_, ?_, ?_, ?_⟩ <;> (refine cell_below hb6 ?_; repeat (first | (with_reducible assumption) | ((with_reducible refine cell_set ?_ ?_ _); (· first | (simp; done) | (simp; omega) | omega)) | ((with_reducible refine cell_new ?_ ?_); (· (simp; done)); (· rfl)) | (with_reducible refine cell_alloc ?_ _) | (with_reducible refine cell_drew ?_) | (with_reducible refine cell_drewN ?_ _) | (with_reducible refine cell_below (by assumption) ?_)))
        have zf81 : w.heap.size < w6.heap.size := World.block_lt_of_cell? _ _ f81
        have zf94 : w4.heap.size < w6.heap.size := World.block_lt_of_cell? _ _ f94
        have zf96 : w5.heap.size < w6.heap.size := World.block_lt_of_cell? _ _ f96
        clear f66 zf66 f67 f68 f69 f70 f71 f72 f73 f74 f75 f76 f77 f78 f79 zf79 f80
        go_wp2_with fail
        go_ret
        exact ⟨rfl, by (repeat (with_reducible (first | assumption | exact Below.refl _ _ | refine Below.drew ?_ | refine below_drewN ?_ _ | refine below_set ?_ (by simp; try omega) _ | refine below_alloc ?_ (Nat.le_refl _) _ | refine below_sub (by assumption) ?_)))⟩
    · rcases hG with rfl | rfl
      · rcases b1 with _ | _
        · obtain rfl : t = 0 := by rw [ht.out]; simp
          go_wp2_with fail
          refine (N1 _).mono ?_
          rintro e w6 ⟨rfl, hb6⟩
          obtain ⟨f81, f82, f83, f84, f85, f86, f87, f88, f89, f90, f91, f92, f93, f94, f95, f96, f97⟩ : w6.cell? ⟨w.heap.size, 0, none⟩ = some (.bool true) ∧ w6.cell? ⟨w.heap.size, 1, none⟩ = some (.int .i64 ax) ∧ w6.cell? ⟨w.heap.size, 2, none⟩ = some (.int .i64 ay) ∧ w6.cell? ⟨w.heap.size, 3, none⟩ = some (.int .i64 bx) ∧ w6.cell? ⟨w.heap.size, 4, none⟩ = some (.int .i64 b_y) ∧ w6.cell? ⟨w.heap.size, 5, none⟩ = some (.int .i64 cx) ∧ w6.cell? ⟨w.heap.size, 6, none⟩ = some (.int .i64 cy) ∧ w6.cell? ⟨w.heap.size, 7, none⟩ = some (.int .i64 r) ∧ w6.cell? ⟨w.heap.size, 8, none⟩ = some (.int .i64 f) ∧ w6.cell? ⟨w.heap.size, 9, none⟩ = some (.int .i64 s) ∧ w6.cell? ⟨w.heap.size, 10, none⟩ = some (.int .i64 L) ∧ w6.cell? ⟨w.heap.size, 11, none⟩ = some (.int .i64 n) ∧ w6.cell? ⟨w.heap.size, 12, none⟩ = some (.bool g) ∧ w6.cell? ⟨w4.heap.size, 0, none⟩ = some (.int .i64 X) ∧ w6.cell? ⟨w4.heap.size, 1, none⟩ = some (.int .i64 Y) ∧ w6.cell? ⟨w5.heap.size, 0, none⟩ = some (.int .i64 U) ∧ w6.cell? ⟨w5.heap.size, 1, none⟩ = some (.int .i64 V) := by
            refine ⟨?_, ?_, ?_, ?_, ?_, ?_, ?_, ?_, ?_, ?_, ?_, ?_, ?_, ?_, ?_, ?_, ?_⟩ <;> (refine cell_below hb6 ?_; repeat (first | (with_reducible assumption) | ((with_reducible refine cell_set ?_ ?_ _); (· first | (simp; done) | (simp; omega) | omega)) | ((with_reducible refine cell_new ?_ ?_); (· (simp; done)); (· rfl)) | (with_reducible refine cell_alloc ?_ _) | (with_reducible refine cell_drew ?_) | (with_reducible refine cell_drewN ?_ _) | (with_reducible refine cell_below (by assumption) ?_)))
          have zf81 : w.heap.size < w6.heap.size := World.block_lt_of_cell? _ _ f81
          have zf94 : w4.heap.size < w6.heap.size := World.block_lt_of_cell? _ _ f94
          have zf96 : w5.heap.size < w6.heap.size := World.block_lt_of_cell? _ _ f96
          clear f66 zf66 f67 f68 f69 f70 f71 f72 f73 f74 f75 f76 f77 f78 f79 zf79 f80
          go_wp2_with fail
          go_ret
          exact ⟨rfl, by (repeat (with_reducible (first | assumption | exact Below.refl _ _ | refine Below.drew ?_ | refine below_drewN ?_ _ | refine below_set ?_ (by simp; try omega) _ | refine below_alloc ?_ (Nat.le_refl _) _ | refine below_sub (by assumption) ?_)))⟩
        · obtain rfl : t = 10 := by rw [ht.out]; simp
          go_wp2_with fail
          refine (N1 _).mono ?_
          rintro e w6 ⟨rfl, hb6⟩
          obtain ⟨f81, f82, f83, f84, f85, f86, f87, f88, f89, f90, f91, f92, f93, f94, f95, f96, f97⟩ : w6.cell? ⟨w.heap.size, 0, none⟩ = some (.bool true) ∧ w6.cell? ⟨w.heap.size, 1, none⟩ = some (.int .i64 ax) ∧ w6.cell? ⟨w.heap.size, 2, none⟩ = some (.int .i64 ay) ∧ w6.cell? ⟨w.heap.size, 3, none⟩ = some (.int .i64 bx) ∧ w6.cell? ⟨w.heap.size, 4, none⟩ = some (.int .i64 b_y) ∧ w6.cell? ⟨w.heap.size, 5, none⟩ = some (.int .i64 cx) ∧ w6.cell? ⟨w.heap.size, 6, none⟩ = some (.int .i64 cy) ∧ w6.cell? ⟨w.heap.size, 7, none⟩ = some (.int .i64 r) ∧ w6.cell? ⟨w.heap.size, 8, none⟩ = some (.int .i64 f) ∧ w6.cell? ⟨w.heap.size, 9, none⟩ = some (.int .i64 s) ∧ w6.cell? ⟨w.heap.size, 10, none⟩ = some (.int .i64 L) ∧ w6.cell? ⟨w.heap.size, 11, none⟩ = some (.int .i64 n) ∧ w6.cell? ⟨w.heap.size, 12, none⟩ = some (.bool g) ∧ w6.cell? ⟨w4.heap.size, 0, none⟩ = some (.int .i64 X) ∧ w6.cell? ⟨w4.heap.size, 1, none⟩ = some (.int .i64 Y) ∧ w6.cell? ⟨w5.heap.size, 0, none⟩ = some (.int .i64 U) ∧ w6.cell? ⟨w5.heap.size, 1, none⟩ = some (.int .i64 V) := by
            refine ⟨?_, ?_, ?_, ?_, ?_, ?_, ?_, ?_, ?_, ?_, ?_, ?_, ?_, ?_, ?_, ?_, ?_⟩ <;> (refine cell_below hb6 ?_; repeat (first | (with_reducible assumption) | ((with_reducible refine cell_set ?_ ?_ _); (· first | (simp; done) | (simp; omega) | omega)) | ((with_reducible refine cell_new ?_ ?_); (· (simp; done)); (· rfl)) | (with_reducible refine cell_alloc ?_ _) | (with_reducible refine cell_drew ?_) | (with_reducible refine cell_drewN ?_ _) | (with_reducible refine cell_below (by assumption) ?_)))
          have zf81 : w.heap.size < w6.heap.size := World.block_lt_of_cell? _ _ f81
          have zf94 : w4.heap.size < w6.heap.size := World.block_lt_of_cell? _ _ f94
          have zf96 : w5.heap.size < w6.heap.size := World.block_lt_of_cell? _ _ f96
          clear f66 zf66 f67 f68 f69 f70 f71 f72 f73 f74 f75 f76 f77 f78 f79 zf79 f80
          go_wp2_with fail
          go_ret
          exact ⟨rfl, by (repeat (with_reducible (first | assumption | exact Below.refl _ _ | refine Below.drew ?_ | refine below_drewN ?_ _ | refine below_set ?_ (by simp; try omega) _ | refine below_alloc ?_ (Nat.le_refl _) _ | refine below_sub (by assumption) ?_)))⟩
      · obtain rfl : t = 0 := by rw [ht.out]; simp
        go_wp2_with fail
        go_ret
        exact ⟨rfl, by (repeat (with_reducible (first | assumption | exact Below.refl _ _ | refine Below.drew ?_ | refine below_drewN ?_ _ | refine below_set ?_ (by simp; try omega) _ | refine below_alloc ?_ (Nat.le_refl _) _ | refine below_sub (by assumption) ?_)))⟩
theorem relem_any (c g : Bool) (ax ay bx b_y cx cy r f s L n : Int) (w : World) :
    Calls Tryz.prog 21 #[.agg #[.bool c, .int .i64 ax, .int .i64 ay, .int .i64 bx, .int .i64 b_y, .int .i64 cx, .int .i64 cy, .int .i64 r, .int .i64 f, .int .i64 s, .int .i64 L, .int .i64 n, .bool g]] w fun e w' => e = .returned (.int .i64 (elemF c ax ay bx b_y cx cy r f s L)) ∧ Below w.heap.size w w' := by
  unfold elemF
  rcases hv : (vldB ax ay && vldB bx b_y) with _ | _
  · exact relem_bad c g ax ay bx b_y cx cy r f s L n _ _ rfl rfl hv w
  · have hv' : vldB ax ay = true ∧ vldB bx b_y = true := by simpa using hv
    rw [if_neg (by simp)]
    rcases c with _ | _
    · rw [if_neg (by simp)]
      by_cases hz : cx = 0 ∧ cy = 0 ∧ r = 0 ∧ f = 0 ∧ s = 0
      · obtain ⟨rfl, rfl, rfl, rfl, rfl⟩ := hz
        rw [if_neg (by simp)]
        exact relem_line g ax ay bx b_y L n hv'.1 hv'.2 _ rfl _ (hide rfl) w
      · rw [if_pos hz]
        exact relem_circ g ax ay bx b_y cx cy r f s L n hv'.1 hv'.2 hz w
    · rw [if_pos rfl]
      rcases hB : arcB cx cy r f s with _ | _
      · exact relem_arcno g ax ay bx b_y cx cy r f s L n hv'.1 hv'.2 hB w
      · rw [if_neg (by simp)]
        by_cases hl : L < 1 ∨ ¬ L = arcLen cx cy r f s
        · rw [if_pos hl]
          exact relem_len g ax ay bx b_y cx cy r f s L n hv'.1 hv'.2 hB hl w
        · rw [if_neg hl]
          have e : L = arcLen cx cy r f s := by omega
          have := relem_arc g ax ay bx b_y cx cy r f s L n hv'.1 hv'.2 hB (by omega) e _ (hide rfl) w
          rwa [← e]
end Go.Proofs.YtapgmnjpfcohhaaGreatDoor
