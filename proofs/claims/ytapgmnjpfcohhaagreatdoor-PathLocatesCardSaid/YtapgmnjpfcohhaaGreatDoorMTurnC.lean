/-
  The walks of Offset from an arc.
-/
import Derived.Test.YtapgmnjpfcohhaaGreatDoorMFixed
import Derived.Test.YtapgmnjpfcohhaaGreatDoorMFrame
import Derived.Test.YtapgmnjpfcohhaaGreatDoorMGeo
import Derived.Test.YtapgmnjpfcohhaaGreatDoorMLaws
import Derived.Test.YtapgmnjpfcohhaaGreatDoorMLineA
import Derived.Test.YtapgmnjpfcohhaaGreatDoorMLineB
import Derived.Test.YtapgmnjpfcohhaaGreatDoorMLineD
import Derived.Test.YtapgmnjpfcohhaaGreatDoorMPlain
import Derived.Test.YtapgmnjpfcohhaaGreatDoorMRoot
import Derived.Test.YtapgmnjpfcohhaaGreatDoorMScale
import Derived.Test.YtapgmnjpfcohhaaGreatDoorMTrig
import Derived.Test.YtapgmnjpfcohhaaGreatDoorMTurnA
import Derived.Test.YtapgmnjpfcohhaaGreatDoorMWi
import Derived.Deep.DeepCutAuto
import Derived.Below
import Derived.Deep.RegionHeld3
import Derived.Test.YtapgmnjpfcohhaaGreatDoorProg
import Derived.WalkSpells
import Derived.WalkLawsBesides
import Derived.Deep.QuietTactic
import Derived.BigQuiet
import Derived.Lib.ItoaNum
import Derived.Shelf.Small.Bits
import Derived.Shelf.Strconv.Itoa0
import Derived.Shelf.Bits.Mul64
import Derived.Shelf.Spec.BitsCarry
import Derived.WalkKit
import Derived.ProofKit
import Derived.OpenShut
import Derived.ChangeSame
import Derived.Test.YtapgmnjpfcohhaaGreatDoorRows
import Derived.Laws.BitsAllLaws
namespace Go.Proofs.YtapgmnjpfcohhaaGreatDoor
open Go.RowKit
set_option linter.unusedVariables false
set_option linter.unusedSimpArgs false
theorem arcOff_no {cx cy r f s px py : Int} (h : (arcB cx cy r f s && vldB px py) = false) : arcOff cx cy r f s px py = (0, 0, 1) := by unfold arcOff; rw [h]; rfl
theorem arcOff_at {cx cy r f s px py : Int} (h : (arcB cx cy r f s && vldB px py) = true) (h2 : px = cx ∧ py = cy) : arcOff cx cy r f s px py = (0, 0, 10) := by unfold arcOff; rw [h, if_neg (by simp), if_pos h2]
theorem arcOff_in {cx cy r f s px py : Int} (h : (arcB cx cy r f s && vldB px py) = true) (h2 : ¬ (px = cx ∧ py = cy)) :
    arcOff cx cy r f s px py = (sideOf s (r - distF cx cy px py), arcAlong (sweepF (decide (0 ≤ s)) f (courseF cx cy px py).1) s.natAbs (arcLen cx cy r f s), 0) := by unfold arcOff; rw [h, if_neg (by simp), if_neg h2]
theorem course_ne {ax ay bx b_y : Int} (h1 : vldB ax ay = true) (h2 : vldB bx b_y = true) (h : ¬ (bx = ax ∧ b_y = ay)) : (courseF ax ay bx b_y).2 = 0 := by
  unfold courseF
  rw [h1, h2, if_neg (by simp), if_neg (fun e => h ⟨e.1.symm, e.2.symm⟩)]
theorem al_in {w a n : Int} (w0 : 0 ≤ w) (w1 : w ≤ 129600000) (a0 : 0 < a) (n0 : 0 ≤ n) (n1 : n ≤ 60000000) (h : w ≤ a) : muldiv 2 w n a = (rnd 2 (w * n) a, 0) := by
  have p0 : 0 ≤ w * n := Int.mul_nonneg w0 n0
  have p1 : w * n ≤ a * n := Int.mul_le_mul_of_nonneg_right h n0
  have b : 0 ≤ rnd 2 (w * n) a ∧ rnd 2 (w * n) a ≤ 60000001 := by
    unfold rnd
    simp only [show (2 : Nat) ≠ 0 from by decide, show (2 : Nat) ≠ 1 from by decide, if_false]
    have f := floor_bd (2 * (w * n) + a) (2 * a) (by omega)
    generalize (2 * (w * n) + a).fdiv (2 * a) = q at *
    constructor
    · apply Classical.byContradiction
      intro hq
      have : (q + 1) * (2 * a) ≤ 0 * (2 * a) := Int.mul_le_mul_of_nonneg_right (by omega) (by omega)
      have e2 : (q + 1) * (2 * a) = q * (2 * a) + 2 * a := by grind
      omega
    · apply Classical.byContradiction
      intro hq
      have h5 : (n + 1) * (2 * a) ≤ q * (2 * a) := Int.mul_le_mul_of_nonneg_right (by omega) (by omega)
      have e2 : (n + 1) * (2 * a) = 2 * (a * n) + 2 * a := by grind
      omega
  unfold muldiv
  rw [if_neg (by omega), if_pos]
  unfold in64
  generalize rnd 2 (w * n) a = q at *
  exact decide_eq_true (by omega)
theorem along_cases (w a n : Int) (w0 : 0 ≤ w) (a0 : 0 ≤ a) :
    (w ≤ a ∧ 0 < a ∧ arcAlong w a n = rnd 2 (w * n) a) ∨ (w = 0 ∧ a = 0 ∧ arcAlong w a n = n) ∨ (a < w ∧ w - a ≤ 129600000 - w ∧ arcAlong w a n = n) ∨ (a < w ∧ 129600000 - w < w - a ∧ arcAlong w a n = 0) := by
  unfold arcAlong
  by_cases h1 : w ≤ a
  · by_cases h2 : a = 0
    · right; left
      refine ⟨by omega, h2, ?_⟩
      rw [if_neg (fun h => h.2 h2), if_pos (by omega)]
    · left
      refine ⟨h1, by omega, ?_⟩
      rw [if_pos ⟨h1, h2⟩]
  · by_cases h3 : w - a ≤ 129600000 - w
    · right; right; left
      refine ⟨by omega, h3, ?_⟩
      rw [if_neg (fun h => h1 h.1), if_pos h3]
    · right; right; right
      refine ⟨by omega, by omega, ?_⟩
      rw [if_neg (fun h => h1 h.1), if_neg h3]
set_option maxRecDepth 100000 in
set_option maxHeartbeats 4000000 in
theorem aoff_any (cx cy r f s px py : Int) (w : World) (R : Int × Int × Int) (hR : R = arcOff cx cy r f s px py) :
    Calls Tryz.prog 30 #[.agg #[.int .i64 cx, .int .i64 cy, .int .i64 r, .int .i64 f, .int .i64 s], .agg #[.int .i64 px, .int .i64 py]] w fun e w' => e = .returned (.tuple #[.int .i64 R.1, .int .i64 R.2.1, .int .i64 R.2.2]) ∧ Below w.heap.size w w' := by
  have TV := fun W => tvalid_any cx cy r f s W
  have TL := fun W => tlen_any cx cy r f s W
  rcases hB : arcB cx cy r f s with _ | _
  · rw [arcOff_no (by rw [hB]; rfl)] at hR
    rw [hB] at TV
    subst hR
    clear hB TL
    go_enter Tryz.func30, Tryz.ntmps30
    go_wp2_with fail
    refine (TV _).mono ?_
    rintro e w1 ⟨rfl, hb1⟩
    obtain ⟨f1, f2, f3, f4, f5, f6, f7⟩ : w1.cell? ⟨w.heap.size, 0, none⟩ = some (.int .i64 cx) ∧ w1.cell? ⟨w.heap.size, 1, none⟩ = some (.int .i64 cy) ∧ w1.cell? ⟨w.heap.size, 2, none⟩ = some (.int .i64 r) ∧ w1.cell? ⟨w.heap.size, 3, none⟩ = some (.int .i64 f) ∧ w1.cell? ⟨w.heap.size, 4, none⟩ = some (.int .i64 s) ∧ w1.cell? ⟨w.heap.size + 1, 0, none⟩ = some (.int .i64 px) ∧ w1.cell? ⟨w.heap.size + 1, 1, none⟩ = some (.int .i64 py) := by
      refine ⟨?_, ?_, ?_, ?_, ?_, ?_, ?_⟩ <;> (refine cell_below hb1 ?_; repeat (first | (with_reducible assumption) | (with_reducible refine cell_drew ?_) | (with_reducible refine cell_drewN ?_ _) | (with_reducible refine cell_below (by assumption) ?_) | ((with_reducible refine cell_new ?_ ?_); (· (simp; done)); (· rfl)) | (with_reducible refine cell_alloc ?_ _) | ((with_reducible refine cell_set ?_ ?_ _); (· first | (simp; done) | (simp; omega) | omega))))
    have zf1 : w.heap.size < w1.heap.size := World.block_lt_of_cell? _ _ f1
    have zf6 : w.heap.size + 1 < w1.heap.size := World.block_lt_of_cell? _ _ f6
    go_wp2_with fail
    go_ret3
    exact ⟨rfl, by (repeat (with_reducible (first | assumption | exact Below.refl _ _ | refine Below.drew ?_ | refine below_drewN ?_ _ | refine below_set ?_ (by simp; try omega) _ | refine below_alloc ?_ (Nat.le_refl _) _ | refine below_sub (by assumption) ?_)))⟩
  rw [hB] at TV
  rcases hp : vldB px py with _ | _
  · rw [arcOff_no (by rw [hB, hp]; rfl)] at hR
    have PV := fun W => pvalid_e px py false hp W
    subst hR
    clear hB hp TL
    go_enter Tryz.func30, Tryz.ntmps30
    go_wp2_with fail
    refine (TV _).mono ?_
    rintro e w1 ⟨rfl, hb1⟩
    obtain ⟨f1, f2, f3, f4, f5, f6, f7⟩ : w1.cell? ⟨w.heap.size, 0, none⟩ = some (.int .i64 cx) ∧ w1.cell? ⟨w.heap.size, 1, none⟩ = some (.int .i64 cy) ∧ w1.cell? ⟨w.heap.size, 2, none⟩ = some (.int .i64 r) ∧ w1.cell? ⟨w.heap.size, 3, none⟩ = some (.int .i64 f) ∧ w1.cell? ⟨w.heap.size, 4, none⟩ = some (.int .i64 s) ∧ w1.cell? ⟨w.heap.size + 1, 0, none⟩ = some (.int .i64 px) ∧ w1.cell? ⟨w.heap.size + 1, 1, none⟩ = some (.int .i64 py) := by
      refine ⟨?_, ?_, ?_, ?_, ?_, ?_, ?_⟩ <;> (refine cell_below hb1 ?_; repeat (first | (with_reducible assumption) | (with_reducible refine cell_drew ?_) | (with_reducible refine cell_drewN ?_ _) | (with_reducible refine cell_below (by assumption) ?_) | ((with_reducible refine cell_new ?_ ?_); (· (simp; done)); (· rfl)) | (with_reducible refine cell_alloc ?_ _) | ((with_reducible refine cell_set ?_ ?_ _); (· first | (simp; done) | (simp; omega) | omega))))
    have zf1 : w.heap.size < w1.heap.size := World.block_lt_of_cell? _ _ f1
    have zf6 : w.heap.size + 1 < w1.heap.size := World.block_lt_of_cell? _ _ f6
    go_wp2_with fail
    refine (PV _).mono ?_
    rintro e w2 ⟨rfl, hb2⟩
    obtain ⟨f8, f9, f10, f11, f12, f13, f14⟩ : w2.cell? ⟨w.heap.size, 0, none⟩ = some (.int .i64 cx) ∧ w2.cell? ⟨w.heap.size, 1, none⟩ = some (.int .i64 cy) ∧ w2.cell? ⟨w.heap.size, 2, none⟩ = some (.int .i64 r) ∧ w2.cell? ⟨w.heap.size, 3, none⟩ = some (.int .i64 f) ∧ w2.cell? ⟨w.heap.size, 4, none⟩ = some (.int .i64 s) ∧ w2.cell? ⟨w.heap.size + 1, 0, none⟩ = some (.int .i64 px) ∧ w2.cell? ⟨w.heap.size + 1, 1, none⟩ = some (.int .i64 py) := by
      refine ⟨?_, ?_, ?_, ?_, ?_, ?_, ?_⟩ <;> (refine cell_below hb2 ?_; repeat (first | (with_reducible assumption) | (with_reducible refine cell_drew ?_) | (with_reducible refine cell_drewN ?_ _) | (with_reducible refine cell_below (by assumption) ?_) | ((with_reducible refine cell_new ?_ ?_); (· (simp; done)); (· rfl)) | (with_reducible refine cell_alloc ?_ _) | ((with_reducible refine cell_set ?_ ?_ _); (· first | (simp; done) | (simp; omega) | omega))))
    have zf8 : w.heap.size < w2.heap.size := World.block_lt_of_cell? _ _ f8
    have zf13 : w.heap.size + 1 < w2.heap.size := World.block_lt_of_cell? _ _ f13
    clear f1 zf1 f2 f3 f4 f5 f6 zf6 f7
    go_wp2_with fail
    go_ret3
    exact ⟨rfl, by (repeat (with_reducible (first | assumption | exact Below.refl _ _ | refine Below.drew ?_ | refine below_drewN ?_ _ | refine below_set ?_ (by simp; try omega) _ | refine below_alloc ?_ (Nat.le_refl _) _ | refine below_sub (by assumption) ?_)))⟩
  have PV := fun W => pvalid_e px py true hp W
  by_cases he : px = cx ∧ py = cy
  · rw [arcOff_at (by rw [hB, hp]; rfl) he] at hR
    subst hR
    obtain ⟨rfl, rfl⟩ := he
    clear hB hp TL
    go_enter Tryz.func30, Tryz.ntmps30
    go_wp2_with fail
    refine (TV _).mono ?_
    rintro e w1 ⟨rfl, hb1⟩
    obtain ⟨f1, f2, f3, f4, f5, f6, f7⟩ : w1.cell? ⟨w.heap.size, 0, none⟩ = some (.int .i64 px) ∧ w1.cell? ⟨w.heap.size, 1, none⟩ = some (.int .i64 py) ∧ w1.cell? ⟨w.heap.size, 2, none⟩ = some (.int .i64 r) ∧ w1.cell? ⟨w.heap.size, 3, none⟩ = some (.int .i64 f) ∧ w1.cell? ⟨w.heap.size, 4, none⟩ = some (.int .i64 s) ∧ w1.cell? ⟨w.heap.size + 1, 0, none⟩ = some (.int .i64 px) ∧ w1.cell? ⟨w.heap.size + 1, 1, none⟩ = some (.int .i64 py) := by
      refine ⟨?_, ?_, ?_, ?_, ?_, ?_, ?_⟩ <;> (refine cell_below hb1 ?_; repeat (first | (with_reducible assumption) | (with_reducible refine cell_drew ?_) | (with_reducible refine cell_drewN ?_ _) | (with_reducible refine cell_below (by assumption) ?_) | ((with_reducible refine cell_new ?_ ?_); (· (simp; done)); (· rfl)) | (with_reducible refine cell_alloc ?_ _) | ((with_reducible refine cell_set ?_ ?_ _); (· first | (simp; done) | (simp; omega) | omega))))
    have zf1 : w.heap.size < w1.heap.size := World.block_lt_of_cell? _ _ f1
    have zf6 : w.heap.size + 1 < w1.heap.size := World.block_lt_of_cell? _ _ f6
    go_wp2_with fail
    refine (PV _).mono ?_
    rintro e w2 ⟨rfl, hb2⟩
    obtain ⟨f8, f9, f10, f11, f12, f13, f14⟩ : w2.cell? ⟨w.heap.size, 0, none⟩ = some (.int .i64 px) ∧ w2.cell? ⟨w.heap.size, 1, none⟩ = some (.int .i64 py) ∧ w2.cell? ⟨w.heap.size, 2, none⟩ = some (.int .i64 r) ∧ w2.cell? ⟨w.heap.size, 3, none⟩ = some (.int .i64 f) ∧ w2.cell? ⟨w.heap.size, 4, none⟩ = some (.int .i64 s) ∧ w2.cell? ⟨w.heap.size + 1, 0, none⟩ = some (.int .i64 px) ∧ w2.cell? ⟨w.heap.size + 1, 1, none⟩ = some (.int .i64 py) := by
      refine ⟨?_, ?_, ?_, ?_, ?_, ?_, ?_⟩ <;> (refine cell_below hb2 ?_; repeat (first | (with_reducible assumption) | (with_reducible refine cell_drew ?_) | (with_reducible refine cell_drewN ?_ _) | (with_reducible refine cell_below (by assumption) ?_) | ((with_reducible refine cell_new ?_ ?_); (· (simp; done)); (· rfl)) | (with_reducible refine cell_alloc ?_ _) | ((with_reducible refine cell_set ?_ ?_ _); (· first | (simp; done) | (simp; omega) | omega))))
    have zf8 : w.heap.size < w2.heap.size := World.block_lt_of_cell? _ _ f8
    have zf13 : w.heap.size + 1 < w2.heap.size := World.block_lt_of_cell? _ _ f13
    clear f1 zf1 f2 f3 f4 f5 f6 zf6 f7
    go_wp2_with fail
    go_ret3
    exact ⟨rfl, by (repeat (with_reducible (first | assumption | exact Below.refl _ _ | refine Below.drew ?_ | refine below_drewN ?_ _ | refine below_set ?_ (by simp; try omega) _ | refine below_alloc ?_ (Nat.le_refl _) _ | refine below_sub (by assumption) ?_)))⟩
  rw [arcOff_in (by rw [hB, hp]; rfl) he] at hR
  have T : ((px == cx) = true ∧ (py == cy) = false) ∨ (px == cx) = false := by
    by_cases hx0 : px = cx
    · left; simp [hx0]; intro hy0; exact he ⟨hx0, hy0⟩
    · right; simp [hx0]
  have nb := arcLen_bd cx cy r f s
  obtain ⟨hv, ⟨b1, b2⟩, ⟨b3, b4⟩, b5, b6⟩ := arc_cases hB
  have DS := fun W => dist_any cx cy px py W
  have db := distF_bd cx cy px py
  have CS := fun W => course_any cx cy px py W
  rw [course_ne hv hp he] at CS
  have cb := courseF_bd cx cy px py
  clear hB hp he hv
  generalize distF cx cy px py = D at *
  generalize (courseF cx cy px py).1 = c at *
  generalize arcLen cx cy r f s = n at *
  have AB := fun W => abs_any s (by unfold I64; omega) (by omega) W
  have SD := fun W => tside_any cx cy r f s (r - D) (by omega) (by omega) W
  have wn := wi' (x := r - D) (by omega) (by omega)
  by_cases hs : 0 ≤ s
  ·
    have t0 : decide (0 ≤ s) = true := decide_eq_true hs
    rw [t0] at hR
    have SW := fun W => sweep_right f c (by unfold I64; omega) (by unfold I64; omega) W
    rw [show norm (norm c - norm f) = sweepF true f c from rfl] at SW
    have sw : 0 ≤ sweepF true f c ∧ sweepF true f c < 129600000 := norm_bd _
    generalize sweepF true f c = u at *
    have ab : 0 ≤ (s.natAbs : Int) ∧ (s.natAbs : Int) ≤ 129600000 := by omega
    generalize (s.natAbs : Int) = a at *
    have MD := fun W => muldivround_any u n a (by unfold I64; omega) (by unfold I64; omega) (by unfold I64; omega) W
    have LC := along_cases u a n sw.1 ab.1
    have MM := fun h => al_in (w := u) (a := a) (n := n) sw.1 (by omega) h nb.1 nb.2
    rw [show sideOf s (r - D) = r - D from by unfold sideOf; rw [if_neg (by omega)]] at *
    clear t0
    generalize arcAlong u a n = AL at *
    subst hR
    rcases LC with ⟨k1, k2, rfl⟩ | ⟨rfl, rfl, rfl⟩ | ⟨k1, k2, rfl⟩ | ⟨k1, k2, rfl⟩
    · rw [MM k2 k1] at MD
      have k3 : (a != 0) = true := by rw [bne_iff_ne]; omega
      clear MM
      generalize rnd 2 (u * n) a = q at *
      rcases T with ⟨t1, t2⟩ | t1
      all_goals
        go_enter Tryz.func30, Tryz.ntmps30
        go_wp2_with fail
        refine (TV _).mono ?_
        rintro e w1 ⟨rfl, hb1⟩
        obtain ⟨f1, f2, f3, f4, f5, f6, f7⟩ : w1.cell? ⟨w.heap.size, 0, none⟩ = some (.int .i64 cx) ∧ w1.cell? ⟨w.heap.size, 1, none⟩ = some (.int .i64 cy) ∧ w1.cell? ⟨w.heap.size, 2, none⟩ = some (.int .i64 r) ∧ w1.cell? ⟨w.heap.size, 3, none⟩ = some (.int .i64 f) ∧ w1.cell? ⟨w.heap.size, 4, none⟩ = some (.int .i64 s) ∧ w1.cell? ⟨w.heap.size + 1, 0, none⟩ = some (.int .i64 px) ∧ w1.cell? ⟨w.heap.size + 1, 1, none⟩ = some (.int .i64 py) := by
          refine ⟨?_, ?_, ?_, ?_, ?_, ?_, ?_⟩ <;> (refine cell_below hb1 ?_; repeat (first | (with_reducible assumption) | (with_reducible refine cell_drew ?_) | (with_reducible refine cell_drewN ?_ _) | (with_reducible refine cell_below (by assumption) ?_) | ((with_reducible refine cell_new ?_ ?_); (· (simp; done)); (· rfl)) | (with_reducible refine cell_alloc ?_ _) | ((with_reducible refine cell_set ?_ ?_ _); (· first | (simp; done) | (simp; omega) | omega))))
        have zf1 : w.heap.size < w1.heap.size := World.block_lt_of_cell? _ _ f1
        have zf6 : w.heap.size + 1 < w1.heap.size := World.block_lt_of_cell? _ _ f6
        go_wp2_with fail
        refine (PV _).mono ?_
        rintro e w2 ⟨rfl, hb2⟩
        obtain ⟨f8, f9, f10, f11, f12, f13, f14⟩ : w2.cell? ⟨w.heap.size, 0, none⟩ = some (.int .i64 cx) ∧ w2.cell? ⟨w.heap.size, 1, none⟩ = some (.int .i64 cy) ∧ w2.cell? ⟨w.heap.size, 2, none⟩ = some (.int .i64 r) ∧ w2.cell? ⟨w.heap.size, 3, none⟩ = some (.int .i64 f) ∧ w2.cell? ⟨w.heap.size, 4, none⟩ = some (.int .i64 s) ∧ w2.cell? ⟨w.heap.size + 1, 0, none⟩ = some (.int .i64 px) ∧ w2.cell? ⟨w.heap.size + 1, 1, none⟩ = some (.int .i64 py) := by
          refine ⟨?_, ?_, ?_, ?_, ?_, ?_, ?_⟩ <;> (refine cell_below hb2 ?_; repeat (first | (with_reducible assumption) | (with_reducible refine cell_drew ?_) | (with_reducible refine cell_drewN ?_ _) | (with_reducible refine cell_below (by assumption) ?_) | ((with_reducible refine cell_new ?_ ?_); (· (simp; done)); (· rfl)) | (with_reducible refine cell_alloc ?_ _) | ((with_reducible refine cell_set ?_ ?_ _); (· first | (simp; done) | (simp; omega) | omega))))
        have zf8 : w.heap.size < w2.heap.size := World.block_lt_of_cell? _ _ f8
        have zf13 : w.heap.size + 1 < w2.heap.size := World.block_lt_of_cell? _ _ f13
        clear f1 zf1 f2 f3 f4 f5 f6 zf6 f7
        go_wp2_with fail
        go_region_held3 (fun w' => w'.cell? ⟨w.heap.size, 0, none⟩ = some (.int .i64 cx) ∧ w'.cell? ⟨w.heap.size, 1, none⟩ = some (.int .i64 cy) ∧ w'.cell? ⟨w.heap.size, 2, none⟩ = some (.int .i64 r) ∧ w'.cell? ⟨w.heap.size, 3, none⟩ = some (.int .i64 f) ∧ w'.cell? ⟨w.heap.size, 4, none⟩ = some (.int .i64 s) ∧ w'.cell? ⟨w.heap.size + 1, 0, none⟩ = some (.int .i64 px) ∧ w'.cell? ⟨w.heap.size + 1, 1, none⟩ = some (.int .i64 py)) ((go_split_ands; refine ⟨?_, ?_, ?_, ?_, ?_, ?_, ?_⟩ <;> (repeat (first | (with_reducible assumption) | (with_reducible refine cell_drew ?_) | (with_reducible refine cell_drewN ?_ _) | (with_reducible refine cell_below (by assumption) ?_) | ((with_reducible refine cell_new ?_ ?_); (· (simp; done)); (· rfl)) | (with_reducible refine cell_alloc ?_ _) | ((with_reducible refine cell_set ?_ ?_ _); (· first | (simp; done) | (simp; omega) | omega))))))
          (first
            | (go_at_call 41; (with_reducible refine (DS _).mono ?_); rintro e w' ⟨rfl, hb'⟩)
            | (go_at_call 52; (with_reducible refine (SD _).mono ?_); rintro e w' ⟨rfl, hb'⟩))
        rename_i hH
        obtain ⟨f15, f16, f17, f18, f19, f20, f21⟩ := hH
        have zf15 : w.heap.size < w'.heap.size := World.block_lt_of_cell? _ _ f15
        have zf20 : w.heap.size + 1 < w'.heap.size := World.block_lt_of_cell? _ _ f20
        clear f8 zf8 f9 f10 f11 f12 f13 zf13 f14
        go_wp2_with fail
        refine (CS _).mono ?_
        rintro e w3 ⟨rfl, hb3⟩
        obtain ⟨f22, f23, f24, f25, f26, f27, f28⟩ : w3.cell? ⟨w.heap.size, 0, none⟩ = some (.int .i64 cx) ∧ w3.cell? ⟨w.heap.size, 1, none⟩ = some (.int .i64 cy) ∧ w3.cell? ⟨w.heap.size, 2, none⟩ = some (.int .i64 r) ∧ w3.cell? ⟨w.heap.size, 3, none⟩ = some (.int .i64 f) ∧ w3.cell? ⟨w.heap.size, 4, none⟩ = some (.int .i64 s) ∧ w3.cell? ⟨w.heap.size + 1, 0, none⟩ = some (.int .i64 px) ∧ w3.cell? ⟨w.heap.size + 1, 1, none⟩ = some (.int .i64 py) := by
          refine ⟨?_, ?_, ?_, ?_, ?_, ?_, ?_⟩ <;> (refine cell_below hb3 ?_; repeat (first | (with_reducible assumption) | (with_reducible refine cell_drew ?_) | (with_reducible refine cell_drewN ?_ _) | (with_reducible refine cell_below (by assumption) ?_) | ((with_reducible refine cell_new ?_ ?_); (· (simp; done)); (· rfl)) | (with_reducible refine cell_alloc ?_ _) | ((with_reducible refine cell_set ?_ ?_ _); (· first | (simp; done) | (simp; omega) | omega))))
        have zf22 : w.heap.size < w3.heap.size := World.block_lt_of_cell? _ _ f22
        have zf27 : w.heap.size + 1 < w3.heap.size := World.block_lt_of_cell? _ _ f27
        clear f15 zf15 f16 f17 f18 f19 f20 zf20 f21
        go_wp2_with fail
        go_region_held3 (fun w' => w'.cell? ⟨w.heap.size, 0, none⟩ = some (.int .i64 cx) ∧ w'.cell? ⟨w.heap.size, 1, none⟩ = some (.int .i64 cy) ∧ w'.cell? ⟨w.heap.size, 2, none⟩ = some (.int .i64 r) ∧ w'.cell? ⟨w.heap.size, 3, none⟩ = some (.int .i64 f) ∧ w'.cell? ⟨w.heap.size, 4, none⟩ = some (.int .i64 s) ∧ w'.cell? ⟨w.heap.size + 1, 0, none⟩ = some (.int .i64 px) ∧ w'.cell? ⟨w.heap.size + 1, 1, none⟩ = some (.int .i64 py)) ((go_split_ands; refine ⟨?_, ?_, ?_, ?_, ?_, ?_, ?_⟩ <;> (repeat (first | (with_reducible assumption) | (with_reducible refine cell_drew ?_) | (with_reducible refine cell_drewN ?_ _) | (with_reducible refine cell_below (by assumption) ?_) | ((with_reducible refine cell_new ?_ ?_); (· (simp; done)); (· rfl)) | (with_reducible refine cell_alloc ?_ _) | ((with_reducible refine cell_set ?_ ?_ _); (· first | (simp; done) | (simp; omega) | omega))))))
          (first
            | (go_at_call 67; (with_reducible refine (SW _).mono ?_); rintro e w' ⟨rfl, rfl⟩)
            | (go_at_call 50; (with_reducible refine (AB _).mono ?_); rintro e w' ⟨rfl, rfl⟩)
            | (go_at_call 43; (with_reducible refine (TL _).mono ?_); rintro e w' ⟨rfl, hb'⟩))
        all_goals
          go_wp2_with (go_at_call 23; refine (MD _).mono ?_; rintro e w' ⟨rfl, n1, rfl⟩)
          go_ret3
          exact ⟨rfl, by (repeat (with_reducible (first | assumption | exact Below.refl _ _ | refine Below.drew ?_ | refine below_drewN ?_ _ | refine below_set ?_ (by simp; try omega) _ | refine below_alloc ?_ (Nat.le_refl _) _ | refine below_sub (by assumption) ?_)))⟩
    all_goals
      clear MM MD
      rcases T with ⟨t1, t2⟩ | t1
      all_goals
        go_enter Tryz.func30, Tryz.ntmps30
        go_wp2_with fail
        refine (TV _).mono ?_
        rintro e w1 ⟨rfl, hb1⟩
        obtain ⟨f1, f2, f3, f4, f5, f6, f7⟩ : w1.cell? ⟨w.heap.size, 0, none⟩ = some (.int .i64 cx) ∧ w1.cell? ⟨w.heap.size, 1, none⟩ = some (.int .i64 cy) ∧ w1.cell? ⟨w.heap.size, 2, none⟩ = some (.int .i64 r) ∧ w1.cell? ⟨w.heap.size, 3, none⟩ = some (.int .i64 f) ∧ w1.cell? ⟨w.heap.size, 4, none⟩ = some (.int .i64 s) ∧ w1.cell? ⟨w.heap.size + 1, 0, none⟩ = some (.int .i64 px) ∧ w1.cell? ⟨w.heap.size + 1, 1, none⟩ = some (.int .i64 py) := by
          refine ⟨?_, ?_, ?_, ?_, ?_, ?_, ?_⟩ <;> (refine cell_below hb1 ?_; repeat (first | (with_reducible assumption) | (with_reducible refine cell_drew ?_) | (with_reducible refine cell_drewN ?_ _) | (with_reducible refine cell_below (by assumption) ?_) | ((with_reducible refine cell_new ?_ ?_); (· (simp; done)); (· rfl)) | (with_reducible refine cell_alloc ?_ _) | ((with_reducible refine cell_set ?_ ?_ _); (· first | (simp; done) | (simp; omega) | omega))))
        have zf1 : w.heap.size < w1.heap.size := World.block_lt_of_cell? _ _ f1
        have zf6 : w.heap.size + 1 < w1.heap.size := World.block_lt_of_cell? _ _ f6
        go_wp2_with fail
        refine (PV _).mono ?_
        rintro e w2 ⟨rfl, hb2⟩
        obtain ⟨f8, f9, f10, f11, f12, f13, f14⟩ : w2.cell? ⟨w.heap.size, 0, none⟩ = some (.int .i64 cx) ∧ w2.cell? ⟨w.heap.size, 1, none⟩ = some (.int .i64 cy) ∧ w2.cell? ⟨w.heap.size, 2, none⟩ = some (.int .i64 r) ∧ w2.cell? ⟨w.heap.size, 3, none⟩ = some (.int .i64 f) ∧ w2.cell? ⟨w.heap.size, 4, none⟩ = some (.int .i64 s) ∧ w2.cell? ⟨w.heap.size + 1, 0, none⟩ = some (.int .i64 px) ∧ w2.cell? ⟨w.heap.size + 1, 1, none⟩ = some (.int .i64 py) := by
          refine ⟨?_, ?_, ?_, ?_, ?_, ?_, ?_⟩ <;> (refine cell_below hb2 ?_; repeat (first | (with_reducible assumption) | (with_reducible refine cell_drew ?_) | (with_reducible refine cell_drewN ?_ _) | (with_reducible refine cell_below (by assumption) ?_) | ((with_reducible refine cell_new ?_ ?_); (· (simp; done)); (· rfl)) | (with_reducible refine cell_alloc ?_ _) | ((with_reducible refine cell_set ?_ ?_ _); (· first | (simp; done) | (simp; omega) | omega))))
        have zf8 : w.heap.size < w2.heap.size := World.block_lt_of_cell? _ _ f8
        have zf13 : w.heap.size + 1 < w2.heap.size := World.block_lt_of_cell? _ _ f13
        clear f1 zf1 f2 f3 f4 f5 f6 zf6 f7
        go_wp2_with fail
        go_region_held3 (fun w' => w'.cell? ⟨w.heap.size, 0, none⟩ = some (.int .i64 cx) ∧ w'.cell? ⟨w.heap.size, 1, none⟩ = some (.int .i64 cy) ∧ w'.cell? ⟨w.heap.size, 2, none⟩ = some (.int .i64 r) ∧ w'.cell? ⟨w.heap.size, 3, none⟩ = some (.int .i64 f) ∧ w'.cell? ⟨w.heap.size, 4, none⟩ = some (.int .i64 s) ∧ w'.cell? ⟨w.heap.size + 1, 0, none⟩ = some (.int .i64 px) ∧ w'.cell? ⟨w.heap.size + 1, 1, none⟩ = some (.int .i64 py)) ((go_split_ands; refine ⟨?_, ?_, ?_, ?_, ?_, ?_, ?_⟩ <;> (repeat (first | (with_reducible assumption) | (with_reducible refine cell_drew ?_) | (with_reducible refine cell_drewN ?_ _) | (with_reducible refine cell_below (by assumption) ?_) | ((with_reducible refine cell_new ?_ ?_); (· (simp; done)); (· rfl)) | (with_reducible refine cell_alloc ?_ _) | ((with_reducible refine cell_set ?_ ?_ _); (· first | (simp; done) | (simp; omega) | omega))))))
          (first
            | (go_at_call 41; (with_reducible refine (DS _).mono ?_); rintro e w' ⟨rfl, hb'⟩)
            | (go_at_call 52; (with_reducible refine (SD _).mono ?_); rintro e w' ⟨rfl, hb'⟩))
        rename_i hH
        obtain ⟨f15, f16, f17, f18, f19, f20, f21⟩ := hH
        have zf15 : w.heap.size < w'.heap.size := World.block_lt_of_cell? _ _ f15
        have zf20 : w.heap.size + 1 < w'.heap.size := World.block_lt_of_cell? _ _ f20
        clear f8 zf8 f9 f10 f11 f12 f13 zf13 f14
        go_wp2_with fail
        refine (CS _).mono ?_
        rintro e w3 ⟨rfl, hb3⟩
        obtain ⟨f22, f23, f24, f25, f26, f27, f28⟩ : w3.cell? ⟨w.heap.size, 0, none⟩ = some (.int .i64 cx) ∧ w3.cell? ⟨w.heap.size, 1, none⟩ = some (.int .i64 cy) ∧ w3.cell? ⟨w.heap.size, 2, none⟩ = some (.int .i64 r) ∧ w3.cell? ⟨w.heap.size, 3, none⟩ = some (.int .i64 f) ∧ w3.cell? ⟨w.heap.size, 4, none⟩ = some (.int .i64 s) ∧ w3.cell? ⟨w.heap.size + 1, 0, none⟩ = some (.int .i64 px) ∧ w3.cell? ⟨w.heap.size + 1, 1, none⟩ = some (.int .i64 py) := by
          refine ⟨?_, ?_, ?_, ?_, ?_, ?_, ?_⟩ <;> (refine cell_below hb3 ?_; repeat (first | (with_reducible assumption) | (with_reducible refine cell_drew ?_) | (with_reducible refine cell_drewN ?_ _) | (with_reducible refine cell_below (by assumption) ?_) | ((with_reducible refine cell_new ?_ ?_); (· (simp; done)); (· rfl)) | (with_reducible refine cell_alloc ?_ _) | ((with_reducible refine cell_set ?_ ?_ _); (· first | (simp; done) | (simp; omega) | omega))))
        have zf22 : w.heap.size < w3.heap.size := World.block_lt_of_cell? _ _ f22
        have zf27 : w.heap.size + 1 < w3.heap.size := World.block_lt_of_cell? _ _ f27
        clear f15 zf15 f16 f17 f18 f19 f20 zf20 f21
        go_wp2_with fail
        go_region_held3 (fun w' => w'.cell? ⟨w.heap.size, 0, none⟩ = some (.int .i64 cx) ∧ w'.cell? ⟨w.heap.size, 1, none⟩ = some (.int .i64 cy) ∧ w'.cell? ⟨w.heap.size, 2, none⟩ = some (.int .i64 r) ∧ w'.cell? ⟨w.heap.size, 3, none⟩ = some (.int .i64 f) ∧ w'.cell? ⟨w.heap.size, 4, none⟩ = some (.int .i64 s) ∧ w'.cell? ⟨w.heap.size + 1, 0, none⟩ = some (.int .i64 px) ∧ w'.cell? ⟨w.heap.size + 1, 1, none⟩ = some (.int .i64 py)) ((go_split_ands; refine ⟨?_, ?_, ?_, ?_, ?_, ?_, ?_⟩ <;> (repeat (first | (with_reducible assumption) | (with_reducible refine cell_drew ?_) | (with_reducible refine cell_drewN ?_ _) | (with_reducible refine cell_below (by assumption) ?_) | ((with_reducible refine cell_new ?_ ?_); (· (simp; done)); (· rfl)) | (with_reducible refine cell_alloc ?_ _) | ((with_reducible refine cell_set ?_ ?_ _); (· first | (simp; done) | (simp; omega) | omega))))))
          (first
            | (go_at_call 67; (with_reducible refine (SW _).mono ?_); rintro e w' ⟨rfl, rfl⟩)
            | (go_at_call 50; (with_reducible refine (AB _).mono ?_); rintro e w' ⟨rfl, rfl⟩)
            | (go_at_call 43; (with_reducible refine (TL _).mono ?_); rintro e w' ⟨rfl, hb'⟩))
        all_goals
          go_wp2_with fail
          go_ret3
          exact ⟨rfl, by (repeat (with_reducible (first | assumption | exact Below.refl _ _ | refine Below.drew ?_ | refine below_drewN ?_ _ | refine below_set ?_ (by simp; try omega) _ | refine below_alloc ?_ (Nat.le_refl _) _ | refine below_sub (by assumption) ?_)))⟩
  ·
    have t0 : decide (0 ≤ s) = false := decide_eq_false hs
    rw [t0] at hR
    have SW := fun W => sweep_left f c (by unfold I64; omega) (by unfold I64; omega) W
    rw [show norm (norm f - norm c) = sweepF false f c from rfl] at SW
    have sw : 0 ≤ sweepF false f c ∧ sweepF false f c < 129600000 := norm_bd _
    generalize sweepF false f c = u at *
    have ab : 0 ≤ (s.natAbs : Int) ∧ (s.natAbs : Int) ≤ 129600000 := by omega
    generalize (s.natAbs : Int) = a at *
    have MD := fun W => muldivround_any u n a (by unfold I64; omega) (by unfold I64; omega) (by unfold I64; omega) W
    have LC := along_cases u a n sw.1 ab.1
    have MM := fun h => al_in (w := u) (a := a) (n := n) sw.1 (by omega) h nb.1 nb.2
    rw [show sideOf s (r - D) = -(r - D) from by unfold sideOf; rw [if_pos (by omega)]] at *
    have wn2 := wi' (x := -(r - D)) (by omega) (by omega)
    clear t0
    generalize arcAlong u a n = AL at *
    subst hR
    rcases LC with ⟨k1, k2, rfl⟩ | ⟨rfl, rfl, rfl⟩ | ⟨k1, k2, rfl⟩ | ⟨k1, k2, rfl⟩
    · rw [MM k2 k1] at MD
      have k3 : (a != 0) = true := by rw [bne_iff_ne]; omega
      clear MM
      generalize rnd 2 (u * n) a = q at *
      rcases T with ⟨t1, t2⟩ | t1
      all_goals
        go_enter Tryz.func30, Tryz.ntmps30
        go_wp2_with fail
        refine (TV _).mono ?_
        rintro e w1 ⟨rfl, hb1⟩
        obtain ⟨f1, f2, f3, f4, f5, f6, f7⟩ : w1.cell? ⟨w.heap.size, 0, none⟩ = some (.int .i64 cx) ∧ w1.cell? ⟨w.heap.size, 1, none⟩ = some (.int .i64 cy) ∧ w1.cell? ⟨w.heap.size, 2, none⟩ = some (.int .i64 r) ∧ w1.cell? ⟨w.heap.size, 3, none⟩ = some (.int .i64 f) ∧ w1.cell? ⟨w.heap.size, 4, none⟩ = some (.int .i64 s) ∧ w1.cell? ⟨w.heap.size + 1, 0, none⟩ = some (.int .i64 px) ∧ w1.cell? ⟨w.heap.size + 1, 1, none⟩ = some (.int .i64 py) := by
          refine ⟨?_, ?_, ?_, ?_, ?_, ?_, ?_⟩ <;> (refine cell_below hb1 ?_; repeat (first | (with_reducible assumption) | (with_reducible refine cell_drew ?_) | (with_reducible refine cell_drewN ?_ _) | (with_reducible refine cell_below (by assumption) ?_) | ((with_reducible refine cell_new ?_ ?_); (· (simp; done)); (· rfl)) | (with_reducible refine cell_alloc ?_ _) | ((with_reducible refine cell_set ?_ ?_ _); (· first | (simp; done) | (simp; omega) | omega))))
        have zf1 : w.heap.size < w1.heap.size := World.block_lt_of_cell? _ _ f1
        have zf6 : w.heap.size + 1 < w1.heap.size := World.block_lt_of_cell? _ _ f6
        go_wp2_with fail
        refine (PV _).mono ?_
        rintro e w2 ⟨rfl, hb2⟩
        obtain ⟨f8, f9, f10, f11, f12, f13, f14⟩ : w2.cell? ⟨w.heap.size, 0, none⟩ = some (.int .i64 cx) ∧ w2.cell? ⟨w.heap.size, 1, none⟩ = some (.int .i64 cy) ∧ w2.cell? ⟨w.heap.size, 2, none⟩ = some (.int .i64 r) ∧ w2.cell? ⟨w.heap.size, 3, none⟩ = some (.int .i64 f) ∧ w2.cell? ⟨w.heap.size, 4, none⟩ = some (.int .i64 s) ∧ w2.cell? ⟨w.heap.size + 1, 0, none⟩ = some (.int .i64 px) ∧ w2.cell? ⟨w.heap.size + 1, 1, none⟩ = some (.int .i64 py) := by
          refine ⟨?_, ?_, ?_, ?_, ?_, ?_, ?_⟩ <;> (refine cell_below hb2 ?_; repeat (first | (with_reducible assumption) | (with_reducible refine cell_drew ?_) | (with_reducible refine cell_drewN ?_ _) | (with_reducible refine cell_below (by assumption) ?_) | ((with_reducible refine cell_new ?_ ?_); (· (simp; done)); (· rfl)) | (with_reducible refine cell_alloc ?_ _) | ((with_reducible refine cell_set ?_ ?_ _); (· first | (simp; done) | (simp; omega) | omega))))
        have zf8 : w.heap.size < w2.heap.size := World.block_lt_of_cell? _ _ f8
        have zf13 : w.heap.size + 1 < w2.heap.size := World.block_lt_of_cell? _ _ f13
        clear f1 zf1 f2 f3 f4 f5 f6 zf6 f7
        go_wp2_with fail
        go_region_held3 (fun w' => w'.cell? ⟨w.heap.size, 0, none⟩ = some (.int .i64 cx) ∧ w'.cell? ⟨w.heap.size, 1, none⟩ = some (.int .i64 cy) ∧ w'.cell? ⟨w.heap.size, 2, none⟩ = some (.int .i64 r) ∧ w'.cell? ⟨w.heap.size, 3, none⟩ = some (.int .i64 f) ∧ w'.cell? ⟨w.heap.size, 4, none⟩ = some (.int .i64 s) ∧ w'.cell? ⟨w.heap.size + 1, 0, none⟩ = some (.int .i64 px) ∧ w'.cell? ⟨w.heap.size + 1, 1, none⟩ = some (.int .i64 py)) ((go_split_ands; refine ⟨?_, ?_, ?_, ?_, ?_, ?_, ?_⟩ <;> (repeat (first | (with_reducible assumption) | (with_reducible refine cell_drew ?_) | (with_reducible refine cell_drewN ?_ _) | (with_reducible refine cell_below (by assumption) ?_) | ((with_reducible refine cell_new ?_ ?_); (· (simp; done)); (· rfl)) | (with_reducible refine cell_alloc ?_ _) | ((with_reducible refine cell_set ?_ ?_ _); (· first | (simp; done) | (simp; omega) | omega))))))
          (first
            | (go_at_call 41; (with_reducible refine (DS _).mono ?_); rintro e w' ⟨rfl, hb'⟩)
            | (go_at_call 52; (with_reducible refine (SD _).mono ?_); rintro e w' ⟨rfl, hb'⟩))
        rename_i hH
        obtain ⟨f15, f16, f17, f18, f19, f20, f21⟩ := hH
        have zf15 : w.heap.size < w'.heap.size := World.block_lt_of_cell? _ _ f15
        have zf20 : w.heap.size + 1 < w'.heap.size := World.block_lt_of_cell? _ _ f20
        clear f8 zf8 f9 f10 f11 f12 f13 zf13 f14
        go_wp2_with fail
        refine (CS _).mono ?_
        rintro e w3 ⟨rfl, hb3⟩
        obtain ⟨f22, f23, f24, f25, f26, f27, f28⟩ : w3.cell? ⟨w.heap.size, 0, none⟩ = some (.int .i64 cx) ∧ w3.cell? ⟨w.heap.size, 1, none⟩ = some (.int .i64 cy) ∧ w3.cell? ⟨w.heap.size, 2, none⟩ = some (.int .i64 r) ∧ w3.cell? ⟨w.heap.size, 3, none⟩ = some (.int .i64 f) ∧ w3.cell? ⟨w.heap.size, 4, none⟩ = some (.int .i64 s) ∧ w3.cell? ⟨w.heap.size + 1, 0, none⟩ = some (.int .i64 px) ∧ w3.cell? ⟨w.heap.size + 1, 1, none⟩ = some (.int .i64 py) := by
          refine ⟨?_, ?_, ?_, ?_, ?_, ?_, ?_⟩ <;> (refine cell_below hb3 ?_; repeat (first | (with_reducible assumption) | (with_reducible refine cell_drew ?_) | (with_reducible refine cell_drewN ?_ _) | (with_reducible refine cell_below (by assumption) ?_) | ((with_reducible refine cell_new ?_ ?_); (· (simp; done)); (· rfl)) | (with_reducible refine cell_alloc ?_ _) | ((with_reducible refine cell_set ?_ ?_ _); (· first | (simp; done) | (simp; omega) | omega))))
        have zf22 : w.heap.size < w3.heap.size := World.block_lt_of_cell? _ _ f22
        have zf27 : w.heap.size + 1 < w3.heap.size := World.block_lt_of_cell? _ _ f27
        clear f15 zf15 f16 f17 f18 f19 f20 zf20 f21
        go_wp2_with fail
        go_region_held3 (fun w' => w'.cell? ⟨w.heap.size, 0, none⟩ = some (.int .i64 cx) ∧ w'.cell? ⟨w.heap.size, 1, none⟩ = some (.int .i64 cy) ∧ w'.cell? ⟨w.heap.size, 2, none⟩ = some (.int .i64 r) ∧ w'.cell? ⟨w.heap.size, 3, none⟩ = some (.int .i64 f) ∧ w'.cell? ⟨w.heap.size, 4, none⟩ = some (.int .i64 s) ∧ w'.cell? ⟨w.heap.size + 1, 0, none⟩ = some (.int .i64 px) ∧ w'.cell? ⟨w.heap.size + 1, 1, none⟩ = some (.int .i64 py)) ((go_split_ands; refine ⟨?_, ?_, ?_, ?_, ?_, ?_, ?_⟩ <;> (repeat (first | (with_reducible assumption) | (with_reducible refine cell_drew ?_) | (with_reducible refine cell_drewN ?_ _) | (with_reducible refine cell_below (by assumption) ?_) | ((with_reducible refine cell_new ?_ ?_); (· (simp; done)); (· rfl)) | (with_reducible refine cell_alloc ?_ _) | ((with_reducible refine cell_set ?_ ?_ _); (· first | (simp; done) | (simp; omega) | omega))))))
          (first
            | (go_at_call 67; (with_reducible refine (SW _).mono ?_); rintro e w' ⟨rfl, rfl⟩)
            | (go_at_call 50; (with_reducible refine (AB _).mono ?_); rintro e w' ⟨rfl, rfl⟩)
            | (go_at_call 43; (with_reducible refine (TL _).mono ?_); rintro e w' ⟨rfl, hb'⟩))
        all_goals
          go_wp2_with (go_at_call 23; refine (MD _).mono ?_; rintro e w' ⟨rfl, n1, rfl⟩)
          go_ret3
          exact ⟨rfl, by (repeat (with_reducible (first | assumption | exact Below.refl _ _ | refine Below.drew ?_ | refine below_drewN ?_ _ | refine below_set ?_ (by simp; try omega) _ | refine below_alloc ?_ (Nat.le_refl _) _ | refine below_sub (by assumption) ?_)))⟩
    all_goals
      clear MM MD
      rcases T with ⟨t1, t2⟩ | t1
      all_goals
        go_enter Tryz.func30, Tryz.ntmps30
        go_wp2_with fail
        refine (TV _).mono ?_
        rintro e w1 ⟨rfl, hb1⟩
        obtain ⟨f1, f2, f3, f4, f5, f6, f7⟩ : w1.cell? ⟨w.heap.size, 0, none⟩ = some (.int .i64 cx) ∧ w1.cell? ⟨w.heap.size, 1, none⟩ = some (.int .i64 cy) ∧ w1.cell? ⟨w.heap.size, 2, none⟩ = some (.int .i64 r) ∧ w1.cell? ⟨w.heap.size, 3, none⟩ = some (.int .i64 f) ∧ w1.cell? ⟨w.heap.size, 4, none⟩ = some (.int .i64 s) ∧ w1.cell? ⟨w.heap.size + 1, 0, none⟩ = some (.int .i64 px) ∧ w1.cell? ⟨w.heap.size + 1, 1, none⟩ = some (.int .i64 py) := by
          refine ⟨?_, ?_, ?_, ?_, ?_, ?_, ?_⟩ <;> (refine cell_below hb1 ?_; repeat (first | (with_reducible assumption) | (with_reducible refine cell_drew ?_) | (with_reducible refine cell_drewN ?_ _) | (with_reducible refine cell_below (by assumption) ?_) | ((with_reducible refine cell_new ?_ ?_); (· (simp; done)); (· rfl)) | (with_reducible refine cell_alloc ?_ _) | ((with_reducible refine cell_set ?_ ?_ _); (· first | (simp; done) | (simp; omega) | omega))))
        have zf1 : w.heap.size < w1.heap.size := World.block_lt_of_cell? _ _ f1
        have zf6 : w.heap.size + 1 < w1.heap.size := World.block_lt_of_cell? _ _ f6
        go_wp2_with fail
        refine (PV _).mono ?_
        rintro e w2 ⟨rfl, hb2⟩
        obtain ⟨f8, f9, f10, f11, f12, f13, f14⟩ : w2.cell? ⟨w.heap.size, 0, none⟩ = some (.int .i64 cx) ∧ w2.cell? ⟨w.heap.size, 1, none⟩ = some (.int .i64 cy) ∧ w2.cell? ⟨w.heap.size, 2, none⟩ = some (.int .i64 r) ∧ w2.cell? ⟨w.heap.size, 3, none⟩ = some (.int .i64 f) ∧ w2.cell? ⟨w.heap.size, 4, none⟩ = some (.int .i64 s) ∧ w2.cell? ⟨w.heap.size + 1, 0, none⟩ = some (.int .i64 px) ∧ w2.cell? ⟨w.heap.size + 1, 1, none⟩ = some (.int .i64 py) := by
          refine ⟨?_, ?_, ?_, ?_, ?_, ?_, ?_⟩ <;> (refine cell_below hb2 ?_; repeat (first | (with_reducible assumption) | (with_reducible refine cell_drew ?_) | (with_reducible refine cell_drewN ?_ _) | (with_reducible refine cell_below (by assumption) ?_) | ((with_reducible refine cell_new ?_ ?_); (· (simp; done)); (· rfl)) | (with_reducible refine cell_alloc ?_ _) | ((with_reducible refine cell_set ?_ ?_ _); (· first | (simp; done) | (simp; omega) | omega))))
        have zf8 : w.heap.size < w2.heap.size := World.block_lt_of_cell? _ _ f8
        have zf13 : w.heap.size + 1 < w2.heap.size := World.block_lt_of_cell? _ _ f13
        clear f1 zf1 f2 f3 f4 f5 f6 zf6 f7
        go_wp2_with fail
        go_region_held3 (fun w' => w'.cell? ⟨w.heap.size, 0, none⟩ = some (.int .i64 cx) ∧ w'.cell? ⟨w.heap.size, 1, none⟩ = some (.int .i64 cy) ∧ w'.cell? ⟨w.heap.size, 2, none⟩ = some (.int .i64 r) ∧ w'.cell? ⟨w.heap.size, 3, none⟩ = some (.int .i64 f) ∧ w'.cell? ⟨w.heap.size, 4, none⟩ = some (.int .i64 s) ∧ w'.cell? ⟨w.heap.size + 1, 0, none⟩ = some (.int .i64 px) ∧ w'.cell? ⟨w.heap.size + 1, 1, none⟩ = some (.int .i64 py)) ((go_split_ands; refine ⟨?_, ?_, ?_, ?_, ?_, ?_, ?_⟩ <;> (repeat (first | (with_reducible assumption) | (with_reducible refine cell_drew ?_) | (with_reducible refine cell_drewN ?_ _) | (with_reducible refine cell_below (by assumption) ?_) | ((with_reducible refine cell_new ?_ ?_); (· (simp; done)); (· rfl)) | (with_reducible refine cell_alloc ?_ _) | ((with_reducible refine cell_set ?_ ?_ _); (· first | (simp; done) | (simp; omega) | omega))))))
          (first
            | (go_at_call 41; (with_reducible refine (DS _).mono ?_); rintro e w' ⟨rfl, hb'⟩)
            | (go_at_call 52; (with_reducible refine (SD _).mono ?_); rintro e w' ⟨rfl, hb'⟩))
        rename_i hH
        obtain ⟨f15, f16, f17, f18, f19, f20, f21⟩ := hH
        have zf15 : w.heap.size < w'.heap.size := World.block_lt_of_cell? _ _ f15
        have zf20 : w.heap.size + 1 < w'.heap.size := World.block_lt_of_cell? _ _ f20
        clear f8 zf8 f9 f10 f11 f12 f13 zf13 f14
        go_wp2_with fail
        refine (CS _).mono ?_
        rintro e w3 ⟨rfl, hb3⟩
        obtain ⟨f22, f23, f24, f25, f26, f27, f28⟩ : w3.cell? ⟨w.heap.size, 0, none⟩ = some (.int .i64 cx) ∧ w3.cell? ⟨w.heap.size, 1, none⟩ = some (.int .i64 cy) ∧ w3.cell? ⟨w.heap.size, 2, none⟩ = some (.int .i64 r) ∧ w3.cell? ⟨w.heap.size, 3, none⟩ = some (.int .i64 f) ∧ w3.cell? ⟨w.heap.size, 4, none⟩ = some (.int .i64 s) ∧ w3.cell? ⟨w.heap.size + 1, 0, none⟩ = some (.int .i64 px) ∧ w3.cell? ⟨w.heap.size + 1, 1, none⟩ = some (.int .i64 py) := by
          refine ⟨?_, ?_, ?_, ?_, ?_, ?_, ?_⟩ <;> (refine cell_below hb3 ?_; repeat (first | (with_reducible assumption) | (with_reducible refine cell_drew ?_) | (with_reducible refine cell_drewN ?_ _) | (with_reducible refine cell_below (by assumption) ?_) | ((with_reducible refine cell_new ?_ ?_); (· (simp; done)); (· rfl)) | (with_reducible refine cell_alloc ?_ _) | ((with_reducible refine cell_set ?_ ?_ _); (· first | (simp; done) | (simp; omega) | omega))))
        have zf22 : w.heap.size < w3.heap.size := World.block_lt_of_cell? _ _ f22
        have zf27 : w.heap.size + 1 < w3.heap.size := World.block_lt_of_cell? _ _ f27
        clear f15 zf15 f16 f17 f18 f19 f20 zf20 f21
        go_wp2_with fail
        go_region_held3 (fun w' => w'.cell? ⟨w.heap.size, 0, none⟩ = some (.int .i64 cx) ∧ w'.cell? ⟨w.heap.size, 1, none⟩ = some (.int .i64 cy) ∧ w'.cell? ⟨w.heap.size, 2, none⟩ = some (.int .i64 r) ∧ w'.cell? ⟨w.heap.size, 3, none⟩ = some (.int .i64 f) ∧ w'.cell? ⟨w.heap.size, 4, none⟩ = some (.int .i64 s) ∧ w'.cell? ⟨w.heap.size + 1, 0, none⟩ = some (.int .i64 px) ∧ w'.cell? ⟨w.heap.size + 1, 1, none⟩ = some (.int .i64 py)) ((go_split_ands; refine ⟨?_, ?_, ?_, ?_, ?_, ?_, ?_⟩ <;> (repeat (first | (with_reducible assumption) | (with_reducible refine cell_drew ?_) | (with_reducible refine cell_drewN ?_ _) | (with_reducible refine cell_below (by assumption) ?_) | ((with_reducible refine cell_new ?_ ?_); (· (simp; done)); (· rfl)) | (with_reducible refine cell_alloc ?_ _) | ((with_reducible refine cell_set ?_ ?_ _); (· first | (simp; done) | (simp; omega) | omega))))))
          (first
            | (go_at_call 67; (with_reducible refine (SW _).mono ?_); rintro e w' ⟨rfl, rfl⟩)
            | (go_at_call 50; (with_reducible refine (AB _).mono ?_); rintro e w' ⟨rfl, rfl⟩)
            | (go_at_call 43; (with_reducible refine (TL _).mono ?_); rintro e w' ⟨rfl, hb'⟩))
        all_goals
          go_wp2_with fail
          go_ret3
          exact ⟨rfl, by (repeat (with_reducible (first | assumption | exact Below.refl _ _ | refine Below.drew ?_ | refine below_drewN ?_ _ | refine below_set ?_ (by simp; try omega) _ | refine below_alloc ?_ (Nat.le_refl _) _ | refine below_sub (by assumption) ?_)))⟩
set_option maxRecDepth 100000 in
set_option maxHeartbeats 4000000 in
theorem raoff_any (cx cy r f s px py : Int) (w : World) (R : Int × Int × Int) (hR : R = arcOff cx cy r f s px py) :
    Calls Tryz.prog 32 #[.agg #[.int .i64 cx, .int .i64 cy, .int .i64 r, .int .i64 f, .int .i64 s], .agg #[.int .i64 px, .int .i64 py]] w fun e w' => e = .returned (.tuple #[.int .i64 R.1, .int .i64 R.2.1, .int .i64 R.2.2]) ∧ Below w.heap.size w w' := by
  have TV := fun W => rtvalid_any cx cy r f s W
  have TL := fun W => rtlen_any cx cy r f s W
  rcases hB : arcB cx cy r f s with _ | _
  · rw [arcOff_no (by rw [hB]; rfl)] at hR
    rw [hB] at TV
    subst hR
    clear hB TL
    go_enter Tryz.func32, Tryz.ntmps32
    go_wp2_with fail
    refine (TV _).mono ?_
    rintro e w1 ⟨rfl, hb1⟩
    obtain ⟨f1, f2, f3, f4, f5, f6, f7⟩ : w1.cell? ⟨w.heap.size, 0, none⟩ = some (.int .i64 cx) ∧ w1.cell? ⟨w.heap.size, 1, none⟩ = some (.int .i64 cy) ∧ w1.cell? ⟨w.heap.size, 2, none⟩ = some (.int .i64 r) ∧ w1.cell? ⟨w.heap.size, 3, none⟩ = some (.int .i64 f) ∧ w1.cell? ⟨w.heap.size, 4, none⟩ = some (.int .i64 s) ∧ w1.cell? ⟨w.heap.size + 1, 0, none⟩ = some (.int .i64 px) ∧ w1.cell? ⟨w.heap.size + 1, 1, none⟩ = some (.int .i64 py) := by
      refine ⟨?_, ?_, ?_, ?_, ?_, ?_, ?_⟩ <;> (refine cell_below hb1 ?_; repeat (first | (with_reducible assumption) | (with_reducible refine cell_drew ?_) | (with_reducible refine cell_drewN ?_ _) | (with_reducible refine cell_below (by assumption) ?_) | ((with_reducible refine cell_new ?_ ?_); (· (simp; done)); (· rfl)) | (with_reducible refine cell_alloc ?_ _) | ((with_reducible refine cell_set ?_ ?_ _); (· first | (simp; done) | (simp; omega) | omega))))
    have zf1 : w.heap.size < w1.heap.size := World.block_lt_of_cell? _ _ f1
    have zf6 : w.heap.size + 1 < w1.heap.size := World.block_lt_of_cell? _ _ f6
    go_wp2_with fail
    go_ret3
    exact ⟨rfl, by (repeat (with_reducible (first | assumption | exact Below.refl _ _ | refine Below.drew ?_ | refine below_drewN ?_ _ | refine below_set ?_ (by simp; try omega) _ | refine below_alloc ?_ (Nat.le_refl _) _ | refine below_sub (by assumption) ?_)))⟩
  rw [hB] at TV
  rcases hp : vldB px py with _ | _
  · rw [arcOff_no (by rw [hB, hp]; rfl)] at hR
    have PV := fun W => rpvalid_d px py false hp W
    subst hR
    clear hB hp TL
    go_enter Tryz.func32, Tryz.ntmps32
    go_wp2_with fail
    refine (TV _).mono ?_
    rintro e w1 ⟨rfl, hb1⟩
    obtain ⟨f1, f2, f3, f4, f5, f6, f7⟩ : w1.cell? ⟨w.heap.size, 0, none⟩ = some (.int .i64 cx) ∧ w1.cell? ⟨w.heap.size, 1, none⟩ = some (.int .i64 cy) ∧ w1.cell? ⟨w.heap.size, 2, none⟩ = some (.int .i64 r) ∧ w1.cell? ⟨w.heap.size, 3, none⟩ = some (.int .i64 f) ∧ w1.cell? ⟨w.heap.size, 4, none⟩ = some (.int .i64 s) ∧ w1.cell? ⟨w.heap.size + 1, 0, none⟩ = some (.int .i64 px) ∧ w1.cell? ⟨w.heap.size + 1, 1, none⟩ = some (.int .i64 py) := by
      refine ⟨?_, ?_, ?_, ?_, ?_, ?_, ?_⟩ <;> (refine cell_below hb1 ?_; repeat (first | (with_reducible assumption) | (with_reducible refine cell_drew ?_) | (with_reducible refine cell_drewN ?_ _) | (with_reducible refine cell_below (by assumption) ?_) | ((with_reducible refine cell_new ?_ ?_); (· (simp; done)); (· rfl)) | (with_reducible refine cell_alloc ?_ _) | ((with_reducible refine cell_set ?_ ?_ _); (· first | (simp; done) | (simp; omega) | omega))))
    have zf1 : w.heap.size < w1.heap.size := World.block_lt_of_cell? _ _ f1
    have zf6 : w.heap.size + 1 < w1.heap.size := World.block_lt_of_cell? _ _ f6
    go_wp2_with fail
    refine (PV _).mono ?_
    rintro e w2 ⟨rfl, hb2⟩
    obtain ⟨f8, f9, f10, f11, f12, f13, f14⟩ : w2.cell? ⟨w.heap.size, 0, none⟩ = some (.int .i64 cx) ∧ w2.cell? ⟨w.heap.size, 1, none⟩ = some (.int .i64 cy) ∧ w2.cell? ⟨w.heap.size, 2, none⟩ = some (.int .i64 r) ∧ w2.cell? ⟨w.heap.size, 3, none⟩ = some (.int .i64 f) ∧ w2.cell? ⟨w.heap.size, 4, none⟩ = some (.int .i64 s) ∧ w2.cell? ⟨w.heap.size + 1, 0, none⟩ = some (.int .i64 px) ∧ w2.cell? ⟨w.heap.size + 1, 1, none⟩ = some (.int .i64 py) := by
      refine ⟨?_, ?_, ?_, ?_, ?_, ?_, ?_⟩ <;> (refine cell_below hb2 ?_; repeat (first | (with_reducible assumption) | (with_reducible refine cell_drew ?_) | (with_reducible refine cell_drewN ?_ _) | (with_reducible refine cell_below (by assumption) ?_) | ((with_reducible refine cell_new ?_ ?_); (· (simp; done)); (· rfl)) | (with_reducible refine cell_alloc ?_ _) | ((with_reducible refine cell_set ?_ ?_ _); (· first | (simp; done) | (simp; omega) | omega))))
    have zf8 : w.heap.size < w2.heap.size := World.block_lt_of_cell? _ _ f8
    have zf13 : w.heap.size + 1 < w2.heap.size := World.block_lt_of_cell? _ _ f13
    clear f1 zf1 f2 f3 f4 f5 f6 zf6 f7
    go_wp2_with fail
    go_ret3
    exact ⟨rfl, by (repeat (with_reducible (first | assumption | exact Below.refl _ _ | refine Below.drew ?_ | refine below_drewN ?_ _ | refine below_set ?_ (by simp; try omega) _ | refine below_alloc ?_ (Nat.le_refl _) _ | refine below_sub (by assumption) ?_)))⟩
  have PV := fun W => rpvalid_d px py true hp W
  by_cases he : px = cx ∧ py = cy
  · rw [arcOff_at (by rw [hB, hp]; rfl) he] at hR
    subst hR
    obtain ⟨rfl, rfl⟩ := he
    clear hB hp TL
    go_enter Tryz.func32, Tryz.ntmps32
    go_wp2_with fail
    refine (TV _).mono ?_
    rintro e w1 ⟨rfl, hb1⟩
    obtain ⟨f1, f2, f3, f4, f5, f6, f7⟩ : w1.cell? ⟨w.heap.size, 0, none⟩ = some (.int .i64 px) ∧ w1.cell? ⟨w.heap.size, 1, none⟩ = some (.int .i64 py) ∧ w1.cell? ⟨w.heap.size, 2, none⟩ = some (.int .i64 r) ∧ w1.cell? ⟨w.heap.size, 3, none⟩ = some (.int .i64 f) ∧ w1.cell? ⟨w.heap.size, 4, none⟩ = some (.int .i64 s) ∧ w1.cell? ⟨w.heap.size + 1, 0, none⟩ = some (.int .i64 px) ∧ w1.cell? ⟨w.heap.size + 1, 1, none⟩ = some (.int .i64 py) := by
      refine ⟨?_, ?_, ?_, ?_, ?_, ?_, ?_⟩ <;> (refine cell_below hb1 ?_; repeat (first | (with_reducible assumption) | (with_reducible refine cell_drew ?_) | (with_reducible refine cell_drewN ?_ _) | (with_reducible refine cell_below (by assumption) ?_) | ((with_reducible refine cell_new ?_ ?_); (· (simp; done)); (· rfl)) | (with_reducible refine cell_alloc ?_ _) | ((with_reducible refine cell_set ?_ ?_ _); (· first | (simp; done) | (simp; omega) | omega))))
    have zf1 : w.heap.size < w1.heap.size := World.block_lt_of_cell? _ _ f1
    have zf6 : w.heap.size + 1 < w1.heap.size := World.block_lt_of_cell? _ _ f6
    go_wp2_with fail
    refine (PV _).mono ?_
    rintro e w2 ⟨rfl, hb2⟩
    obtain ⟨f8, f9, f10, f11, f12, f13, f14⟩ : w2.cell? ⟨w.heap.size, 0, none⟩ = some (.int .i64 px) ∧ w2.cell? ⟨w.heap.size, 1, none⟩ = some (.int .i64 py) ∧ w2.cell? ⟨w.heap.size, 2, none⟩ = some (.int .i64 r) ∧ w2.cell? ⟨w.heap.size, 3, none⟩ = some (.int .i64 f) ∧ w2.cell? ⟨w.heap.size, 4, none⟩ = some (.int .i64 s) ∧ w2.cell? ⟨w.heap.size + 1, 0, none⟩ = some (.int .i64 px) ∧ w2.cell? ⟨w.heap.size + 1, 1, none⟩ = some (.int .i64 py) := by
      refine ⟨?_, ?_, ?_, ?_, ?_, ?_, ?_⟩ <;> (refine cell_below hb2 ?_; repeat (first | (with_reducible assumption) | (with_reducible refine cell_drew ?_) | (with_reducible refine cell_drewN ?_ _) | (with_reducible refine cell_below (by assumption) ?_) | ((with_reducible refine cell_new ?_ ?_); (· (simp; done)); (· rfl)) | (with_reducible refine cell_alloc ?_ _) | ((with_reducible refine cell_set ?_ ?_ _); (· first | (simp; done) | (simp; omega) | omega))))
    have zf8 : w.heap.size < w2.heap.size := World.block_lt_of_cell? _ _ f8
    have zf13 : w.heap.size + 1 < w2.heap.size := World.block_lt_of_cell? _ _ f13
    clear f1 zf1 f2 f3 f4 f5 f6 zf6 f7
    go_wp2_with fail
    go_ret3
    exact ⟨rfl, by (repeat (with_reducible (first | assumption | exact Below.refl _ _ | refine Below.drew ?_ | refine below_drewN ?_ _ | refine below_set ?_ (by simp; try omega) _ | refine below_alloc ?_ (Nat.le_refl _) _ | refine below_sub (by assumption) ?_)))⟩
  rw [arcOff_in (by rw [hB, hp]; rfl) he] at hR
  have T : ((px == cx) = true ∧ (py == cy) = false) ∨ (px == cx) = false := by
    by_cases hx0 : px = cx
    · left; simp [hx0]; intro hy0; exact he ⟨hx0, hy0⟩
    · right; simp [hx0]
  have nb := arcLen_bd cx cy r f s
  obtain ⟨hv, ⟨b1, b2⟩, ⟨b3, b4⟩, b5, b6⟩ := arc_cases hB
  have DS := fun W => rdist_any cx cy px py W
  have db := distF_bd cx cy px py
  have CS := fun W => rcourse_any cx cy px py W
  rw [course_ne hv hp he] at CS
  have cb := courseF_bd cx cy px py
  clear hB hp he hv
  generalize distF cx cy px py = D at *
  generalize (courseF cx cy px py).1 = c at *
  generalize arcLen cx cy r f s = n at *
  have AB := fun W => rsz_any s (by omega) (by omega) W
  have wn := wi' (x := r - D) (by omega) (by omega)
  by_cases hs : 0 ≤ s
  ·
    have t0 : decide (0 ≤ s) = true := decide_eq_true hs
    rw [t0] at hR
    have SW := fun W => rsweep_right f c (by unfold I64; omega) (by unfold I64; omega) W
    rw [show norm (norm c - norm f) = sweepF true f c from rfl] at SW
    have sw : 0 ≤ sweepF true f c ∧ sweepF true f c < 129600000 := norm_bd _
    generalize sweepF true f c = u at *
    have ab : 0 ≤ (s.natAbs : Int) ∧ (s.natAbs : Int) ≤ 129600000 := by omega
    generalize (s.natAbs : Int) = a at *
    have MD := fun W => rmuldivround_any u n a (by unfold I64; omega) (by unfold I64; omega) (by unfold I64; omega) W
    have LC := along_cases u a n sw.1 ab.1
    have MM := fun h => al_in (w := u) (a := a) (n := n) sw.1 (by omega) h nb.1 nb.2
    rw [show sideOf s (r - D) = r - D from by unfold sideOf; rw [if_neg (by omega)]] at hR
    clear t0
    generalize arcAlong u a n = AL at *
    subst hR
    rcases LC with ⟨k1, k2, rfl⟩ | ⟨rfl, rfl, rfl⟩ | ⟨k1, k2, rfl⟩ | ⟨k1, k2, rfl⟩
    · rw [MM k2 k1] at MD
      have k3 : (a != 0) = true := by rw [bne_iff_ne]; omega
      clear MM
      generalize rnd 2 (u * n) a = q at *
      rcases T with ⟨t1, t2⟩ | t1
      all_goals
        go_enter Tryz.func32, Tryz.ntmps32
        go_wp2_with fail
        refine (TV _).mono ?_
        rintro e w1 ⟨rfl, hb1⟩
        obtain ⟨f1, f2, f3, f4, f5, f6, f7⟩ : w1.cell? ⟨w.heap.size, 0, none⟩ = some (.int .i64 cx) ∧ w1.cell? ⟨w.heap.size, 1, none⟩ = some (.int .i64 cy) ∧ w1.cell? ⟨w.heap.size, 2, none⟩ = some (.int .i64 r) ∧ w1.cell? ⟨w.heap.size, 3, none⟩ = some (.int .i64 f) ∧ w1.cell? ⟨w.heap.size, 4, none⟩ = some (.int .i64 s) ∧ w1.cell? ⟨w.heap.size + 1, 0, none⟩ = some (.int .i64 px) ∧ w1.cell? ⟨w.heap.size + 1, 1, none⟩ = some (.int .i64 py) := by
          refine ⟨?_, ?_, ?_, ?_, ?_, ?_, ?_⟩ <;> (refine cell_below hb1 ?_; repeat (first | (with_reducible assumption) | (with_reducible refine cell_drew ?_) | (with_reducible refine cell_drewN ?_ _) | (with_reducible refine cell_below (by assumption) ?_) | ((with_reducible refine cell_new ?_ ?_); (· (simp; done)); (· rfl)) | (with_reducible refine cell_alloc ?_ _) | ((with_reducible refine cell_set ?_ ?_ _); (· first | (simp; done) | (simp; omega) | omega))))
        have zf1 : w.heap.size < w1.heap.size := World.block_lt_of_cell? _ _ f1
        have zf6 : w.heap.size + 1 < w1.heap.size := World.block_lt_of_cell? _ _ f6
        go_wp2_with fail
        refine (PV _).mono ?_
        rintro e w2 ⟨rfl, hb2⟩
        obtain ⟨f8, f9, f10, f11, f12, f13, f14⟩ : w2.cell? ⟨w.heap.size, 0, none⟩ = some (.int .i64 cx) ∧ w2.cell? ⟨w.heap.size, 1, none⟩ = some (.int .i64 cy) ∧ w2.cell? ⟨w.heap.size, 2, none⟩ = some (.int .i64 r) ∧ w2.cell? ⟨w.heap.size, 3, none⟩ = some (.int .i64 f) ∧ w2.cell? ⟨w.heap.size, 4, none⟩ = some (.int .i64 s) ∧ w2.cell? ⟨w.heap.size + 1, 0, none⟩ = some (.int .i64 px) ∧ w2.cell? ⟨w.heap.size + 1, 1, none⟩ = some (.int .i64 py) := by
          refine ⟨?_, ?_, ?_, ?_, ?_, ?_, ?_⟩ <;> (refine cell_below hb2 ?_; repeat (first | (with_reducible assumption) | (with_reducible refine cell_drew ?_) | (with_reducible refine cell_drewN ?_ _) | (with_reducible refine cell_below (by assumption) ?_) | ((with_reducible refine cell_new ?_ ?_); (· (simp; done)); (· rfl)) | (with_reducible refine cell_alloc ?_ _) | ((with_reducible refine cell_set ?_ ?_ _); (· first | (simp; done) | (simp; omega) | omega))))
        have zf8 : w.heap.size < w2.heap.size := World.block_lt_of_cell? _ _ f8
        have zf13 : w.heap.size + 1 < w2.heap.size := World.block_lt_of_cell? _ _ f13
        clear f1 zf1 f2 f3 f4 f5 f6 zf6 f7
        go_wp2_with fail
        go_region_held3 (fun w' => w'.cell? ⟨w.heap.size, 0, none⟩ = some (.int .i64 cx) ∧ w'.cell? ⟨w.heap.size, 1, none⟩ = some (.int .i64 cy) ∧ w'.cell? ⟨w.heap.size, 2, none⟩ = some (.int .i64 r) ∧ w'.cell? ⟨w.heap.size, 3, none⟩ = some (.int .i64 f) ∧ w'.cell? ⟨w.heap.size, 4, none⟩ = some (.int .i64 s) ∧ w'.cell? ⟨w.heap.size + 1, 0, none⟩ = some (.int .i64 px) ∧ w'.cell? ⟨w.heap.size + 1, 1, none⟩ = some (.int .i64 py)) ((go_split_ands; refine ⟨?_, ?_, ?_, ?_, ?_, ?_, ?_⟩ <;> (repeat (first | (with_reducible assumption) | (with_reducible refine cell_drew ?_) | (with_reducible refine cell_drewN ?_ _) | (with_reducible refine cell_below (by assumption) ?_) | ((with_reducible refine cell_new ?_ ?_); (· (simp; done)); (· rfl)) | (with_reducible refine cell_alloc ?_ _) | ((with_reducible refine cell_set ?_ ?_ _); (· first | (simp; done) | (simp; omega) | omega))))))
          (first
            | (go_at_call 46; (with_reducible refine (DS _).mono ?_); rintro e w' ⟨rfl, hb'⟩))
        rename_i hH
        obtain ⟨f15, f16, f17, f18, f19, f20, f21⟩ := hH
        have zf15 : w.heap.size < w'.heap.size := World.block_lt_of_cell? _ _ f15
        have zf20 : w.heap.size + 1 < w'.heap.size := World.block_lt_of_cell? _ _ f20
        clear f8 zf8 f9 f10 f11 f12 f13 zf13 f14
        go_wp2_with fail
        refine (CS _).mono ?_
        rintro e w3 ⟨rfl, hb3⟩
        obtain ⟨f22, f23, f24, f25, f26, f27, f28⟩ : w3.cell? ⟨w.heap.size, 0, none⟩ = some (.int .i64 cx) ∧ w3.cell? ⟨w.heap.size, 1, none⟩ = some (.int .i64 cy) ∧ w3.cell? ⟨w.heap.size, 2, none⟩ = some (.int .i64 r) ∧ w3.cell? ⟨w.heap.size, 3, none⟩ = some (.int .i64 f) ∧ w3.cell? ⟨w.heap.size, 4, none⟩ = some (.int .i64 s) ∧ w3.cell? ⟨w.heap.size + 1, 0, none⟩ = some (.int .i64 px) ∧ w3.cell? ⟨w.heap.size + 1, 1, none⟩ = some (.int .i64 py) := by
          refine ⟨?_, ?_, ?_, ?_, ?_, ?_, ?_⟩ <;> (refine cell_below hb3 ?_; repeat (first | (with_reducible assumption) | (with_reducible refine cell_drew ?_) | (with_reducible refine cell_drewN ?_ _) | (with_reducible refine cell_below (by assumption) ?_) | ((with_reducible refine cell_new ?_ ?_); (· (simp; done)); (· rfl)) | (with_reducible refine cell_alloc ?_ _) | ((with_reducible refine cell_set ?_ ?_ _); (· first | (simp; done) | (simp; omega) | omega))))
        have zf22 : w.heap.size < w3.heap.size := World.block_lt_of_cell? _ _ f22
        have zf27 : w.heap.size + 1 < w3.heap.size := World.block_lt_of_cell? _ _ f27
        clear f15 zf15 f16 f17 f18 f19 f20 zf20 f21
        go_wp2_with fail
        go_region_held3 (fun w' => w'.cell? ⟨w.heap.size, 0, none⟩ = some (.int .i64 cx) ∧ w'.cell? ⟨w.heap.size, 1, none⟩ = some (.int .i64 cy) ∧ w'.cell? ⟨w.heap.size, 2, none⟩ = some (.int .i64 r) ∧ w'.cell? ⟨w.heap.size, 3, none⟩ = some (.int .i64 f) ∧ w'.cell? ⟨w.heap.size, 4, none⟩ = some (.int .i64 s) ∧ w'.cell? ⟨w.heap.size + 1, 0, none⟩ = some (.int .i64 px) ∧ w'.cell? ⟨w.heap.size + 1, 1, none⟩ = some (.int .i64 py)) ((go_split_ands; refine ⟨?_, ?_, ?_, ?_, ?_, ?_, ?_⟩ <;> (repeat (first | (with_reducible assumption) | (with_reducible refine cell_drew ?_) | (with_reducible refine cell_drewN ?_ _) | (with_reducible refine cell_below (by assumption) ?_) | ((with_reducible refine cell_new ?_ ?_); (· (simp; done)); (· rfl)) | (with_reducible refine cell_alloc ?_ _) | ((with_reducible refine cell_set ?_ ?_ _); (· first | (simp; done) | (simp; omega) | omega))))))
          (first
            | (go_at_call 71; (with_reducible refine (SW _).mono ?_); rintro e w' ⟨rfl, rfl⟩)
            | (go_at_call 55; (with_reducible refine (AB _).mono ?_); rintro e w' ⟨rfl, rfl⟩))
        all_goals
          go_wp2_with (first
            | (go_at_call 48; refine (TL _).mono ?_; rintro e w' ⟨rfl, hb'⟩)
            | (go_at_call 25; refine (MD _).mono ?_; rintro e w' ⟨rfl, n1, rfl⟩))
          go_ret3
          exact ⟨rfl, by (repeat (with_reducible (first | assumption | exact Below.refl _ _ | refine Below.drew ?_ | refine below_drewN ?_ _ | refine below_set ?_ (by simp; try omega) _ | refine below_alloc ?_ (Nat.le_refl _) _ | refine below_sub (by assumption) ?_)))⟩
    all_goals
      clear MM MD
      rcases T with ⟨t1, t2⟩ | t1
      all_goals
        go_enter Tryz.func32, Tryz.ntmps32
        go_wp2_with fail
        refine (TV _).mono ?_
        rintro e w1 ⟨rfl, hb1⟩
        obtain ⟨f1, f2, f3, f4, f5, f6, f7⟩ : w1.cell? ⟨w.heap.size, 0, none⟩ = some (.int .i64 cx) ∧ w1.cell? ⟨w.heap.size, 1, none⟩ = some (.int .i64 cy) ∧ w1.cell? ⟨w.heap.size, 2, none⟩ = some (.int .i64 r) ∧ w1.cell? ⟨w.heap.size, 3, none⟩ = some (.int .i64 f) ∧ w1.cell? ⟨w.heap.size, 4, none⟩ = some (.int .i64 s) ∧ w1.cell? ⟨w.heap.size + 1, 0, none⟩ = some (.int .i64 px) ∧ w1.cell? ⟨w.heap.size + 1, 1, none⟩ = some (.int .i64 py) := by
          refine ⟨?_, ?_, ?_, ?_, ?_, ?_, ?_⟩ <;> (refine cell_below hb1 ?_; repeat (first | (with_reducible assumption) | (with_reducible refine cell_drew ?_) | (with_reducible refine cell_drewN ?_ _) | (with_reducible refine cell_below (by assumption) ?_) | ((with_reducible refine cell_new ?_ ?_); (· (simp; done)); (· rfl)) | (with_reducible refine cell_alloc ?_ _) | ((with_reducible refine cell_set ?_ ?_ _); (· first | (simp; done) | (simp; omega) | omega))))
        have zf1 : w.heap.size < w1.heap.size := World.block_lt_of_cell? _ _ f1
        have zf6 : w.heap.size + 1 < w1.heap.size := World.block_lt_of_cell? _ _ f6
        go_wp2_with fail
        refine (PV _).mono ?_
        rintro e w2 ⟨rfl, hb2⟩
        obtain ⟨f8, f9, f10, f11, f12, f13, f14⟩ : w2.cell? ⟨w.heap.size, 0, none⟩ = some (.int .i64 cx) ∧ w2.cell? ⟨w.heap.size, 1, none⟩ = some (.int .i64 cy) ∧ w2.cell? ⟨w.heap.size, 2, none⟩ = some (.int .i64 r) ∧ w2.cell? ⟨w.heap.size, 3, none⟩ = some (.int .i64 f) ∧ w2.cell? ⟨w.heap.size, 4, none⟩ = some (.int .i64 s) ∧ w2.cell? ⟨w.heap.size + 1, 0, none⟩ = some (.int .i64 px) ∧ w2.cell? ⟨w.heap.size + 1, 1, none⟩ = some (.int .i64 py) := by
          refine ⟨?_, ?_, ?_, ?_, ?_, ?_, ?_⟩ <;> (refine cell_below hb2 ?_; repeat (first | (with_reducible assumption) | (with_reducible refine cell_drew ?_) | (with_reducible refine cell_drewN ?_ _) | (with_reducible refine cell_below (by assumption) ?_) | ((with_reducible refine cell_new ?_ ?_); (· (simp; done)); (· rfl)) | (with_reducible refine cell_alloc ?_ _) | ((with_reducible refine cell_set ?_ ?_ _); (· first | (simp; done) | (simp; omega) | omega))))
        have zf8 : w.heap.size < w2.heap.size := World.block_lt_of_cell? _ _ f8
        have zf13 : w.heap.size + 1 < w2.heap.size := World.block_lt_of_cell? _ _ f13
        clear f1 zf1 f2 f3 f4 f5 f6 zf6 f7
        go_wp2_with fail
        go_region_held3 (fun w' => w'.cell? ⟨w.heap.size, 0, none⟩ = some (.int .i64 cx) ∧ w'.cell? ⟨w.heap.size, 1, none⟩ = some (.int .i64 cy) ∧ w'.cell? ⟨w.heap.size, 2, none⟩ = some (.int .i64 r) ∧ w'.cell? ⟨w.heap.size, 3, none⟩ = some (.int .i64 f) ∧ w'.cell? ⟨w.heap.size, 4, none⟩ = some (.int .i64 s) ∧ w'.cell? ⟨w.heap.size + 1, 0, none⟩ = some (.int .i64 px) ∧ w'.cell? ⟨w.heap.size + 1, 1, none⟩ = some (.int .i64 py)) ((go_split_ands; refine ⟨?_, ?_, ?_, ?_, ?_, ?_, ?_⟩ <;> (repeat (first | (with_reducible assumption) | (with_reducible refine cell_drew ?_) | (with_reducible refine cell_drewN ?_ _) | (with_reducible refine cell_below (by assumption) ?_) | ((with_reducible refine cell_new ?_ ?_); (· (simp; done)); (· rfl)) | (with_reducible refine cell_alloc ?_ _) | ((with_reducible refine cell_set ?_ ?_ _); (· first | (simp; done) | (simp; omega) | omega))))))
          (first
            | (go_at_call 46; (with_reducible refine (DS _).mono ?_); rintro e w' ⟨rfl, hb'⟩))
        rename_i hH
        obtain ⟨f15, f16, f17, f18, f19, f20, f21⟩ := hH
        have zf15 : w.heap.size < w'.heap.size := World.block_lt_of_cell? _ _ f15
        have zf20 : w.heap.size + 1 < w'.heap.size := World.block_lt_of_cell? _ _ f20
        clear f8 zf8 f9 f10 f11 f12 f13 zf13 f14
        go_wp2_with fail
        refine (CS _).mono ?_
        rintro e w3 ⟨rfl, hb3⟩
        obtain ⟨f22, f23, f24, f25, f26, f27, f28⟩ : w3.cell? ⟨w.heap.size, 0, none⟩ = some (.int .i64 cx) ∧ w3.cell? ⟨w.heap.size, 1, none⟩ = some (.int .i64 cy) ∧ w3.cell? ⟨w.heap.size, 2, none⟩ = some (.int .i64 r) ∧ w3.cell? ⟨w.heap.size, 3, none⟩ = some (.int .i64 f) ∧ w3.cell? ⟨w.heap.size, 4, none⟩ = some (.int .i64 s) ∧ w3.cell? ⟨w.heap.size + 1, 0, none⟩ = some (.int .i64 px) ∧ w3.cell? ⟨w.heap.size + 1, 1, none⟩ = some (.int .i64 py) := by
          refine ⟨?_, ?_, ?_, ?_, ?_, ?_, ?_⟩ <;> (refine cell_below hb3 ?_; repeat (first | (with_reducible assumption) | (with_reducible refine cell_drew ?_) | (with_reducible refine cell_drewN ?_ _) | (with_reducible refine cell_below (by assumption) ?_) | ((with_reducible refine cell_new ?_ ?_); (· (simp; done)); (· rfl)) | (with_reducible refine cell_alloc ?_ _) | ((with_reducible refine cell_set ?_ ?_ _); (· first | (simp; done) | (simp; omega) | omega))))
        have zf22 : w.heap.size < w3.heap.size := World.block_lt_of_cell? _ _ f22
        have zf27 : w.heap.size + 1 < w3.heap.size := World.block_lt_of_cell? _ _ f27
        clear f15 zf15 f16 f17 f18 f19 f20 zf20 f21
        go_wp2_with fail
        go_region_held3 (fun w' => w'.cell? ⟨w.heap.size, 0, none⟩ = some (.int .i64 cx) ∧ w'.cell? ⟨w.heap.size, 1, none⟩ = some (.int .i64 cy) ∧ w'.cell? ⟨w.heap.size, 2, none⟩ = some (.int .i64 r) ∧ w'.cell? ⟨w.heap.size, 3, none⟩ = some (.int .i64 f) ∧ w'.cell? ⟨w.heap.size, 4, none⟩ = some (.int .i64 s) ∧ w'.cell? ⟨w.heap.size + 1, 0, none⟩ = some (.int .i64 px) ∧ w'.cell? ⟨w.heap.size + 1, 1, none⟩ = some (.int .i64 py)) ((go_split_ands; refine ⟨?_, ?_, ?_, ?_, ?_, ?_, ?_⟩ <;> (repeat (first | (with_reducible assumption) | (with_reducible refine cell_drew ?_) | (with_reducible refine cell_drewN ?_ _) | (with_reducible refine cell_below (by assumption) ?_) | ((with_reducible refine cell_new ?_ ?_); (· (simp; done)); (· rfl)) | (with_reducible refine cell_alloc ?_ _) | ((with_reducible refine cell_set ?_ ?_ _); (· first | (simp; done) | (simp; omega) | omega))))))
          (first
            | (go_at_call 71; (with_reducible refine (SW _).mono ?_); rintro e w' ⟨rfl, rfl⟩)
            | (go_at_call 55; (with_reducible refine (AB _).mono ?_); rintro e w' ⟨rfl, rfl⟩))
        all_goals
          go_wp2_with (first
            | (go_at_call 48; refine (TL _).mono ?_; rintro e w' ⟨rfl, hb'⟩))
          go_ret3
          exact ⟨rfl, by (repeat (with_reducible (first | assumption | exact Below.refl _ _ | refine Below.drew ?_ | refine below_drewN ?_ _ | refine below_set ?_ (by simp; try omega) _ | refine below_alloc ?_ (Nat.le_refl _) _ | refine below_sub (by assumption) ?_)))⟩
  ·
    have t0 : decide (0 ≤ s) = false := decide_eq_false hs
    rw [t0] at hR
    have SW := fun W => rsweep_left f c (by unfold I64; omega) (by unfold I64; omega) W
    rw [show norm (norm f - norm c) = sweepF false f c from rfl] at SW
    have sw : 0 ≤ sweepF false f c ∧ sweepF false f c < 129600000 := norm_bd _
    generalize sweepF false f c = u at *
    have ab : 0 ≤ (s.natAbs : Int) ∧ (s.natAbs : Int) ≤ 129600000 := by omega
    generalize (s.natAbs : Int) = a at *
    have MD := fun W => rmuldivround_any u n a (by unfold I64; omega) (by unfold I64; omega) (by unfold I64; omega) W
    have LC := along_cases u a n sw.1 ab.1
    have MM := fun h => al_in (w := u) (a := a) (n := n) sw.1 (by omega) h nb.1 nb.2
    rw [show sideOf s (r - D) = -(r - D) from by unfold sideOf; rw [if_pos (by omega)]] at hR
    clear t0
    generalize arcAlong u a n = AL at *
    subst hR
    rcases LC with ⟨k1, k2, rfl⟩ | ⟨rfl, rfl, rfl⟩ | ⟨k1, k2, rfl⟩ | ⟨k1, k2, rfl⟩
    · rw [MM k2 k1] at MD
      have k3 : (a != 0) = true := by rw [bne_iff_ne]; omega
      clear MM
      generalize rnd 2 (u * n) a = q at *
      rcases T with ⟨t1, t2⟩ | t1
      all_goals
        go_enter Tryz.func32, Tryz.ntmps32
        go_wp2_with fail
        refine (TV _).mono ?_
        rintro e w1 ⟨rfl, hb1⟩
        obtain ⟨f1, f2, f3, f4, f5, f6, f7⟩ : w1.cell? ⟨w.heap.size, 0, none⟩ = some (.int .i64 cx) ∧ w1.cell? ⟨w.heap.size, 1, none⟩ = some (.int .i64 cy) ∧ w1.cell? ⟨w.heap.size, 2, none⟩ = some (.int .i64 r) ∧ w1.cell? ⟨w.heap.size, 3, none⟩ = some (.int .i64 f) ∧ w1.cell? ⟨w.heap.size, 4, none⟩ = some (.int .i64 s) ∧ w1.cell? ⟨w.heap.size + 1, 0, none⟩ = some (.int .i64 px) ∧ w1.cell? ⟨w.heap.size + 1, 1, none⟩ = some (.int .i64 py) := by
          refine ⟨?_, ?_, ?_, ?_, ?_, ?_, ?_⟩ <;> (refine cell_below hb1 ?_; repeat (first | (with_reducible assumption) | (with_reducible refine cell_drew ?_) | (with_reducible refine cell_drewN ?_ _) | (with_reducible refine cell_below (by assumption) ?_) | ((with_reducible refine cell_new ?_ ?_); (· (simp; done)); (· rfl)) | (with_reducible refine cell_alloc ?_ _) | ((with_reducible refine cell_set ?_ ?_ _); (· first | (simp; done) | (simp; omega) | omega))))
        have zf1 : w.heap.size < w1.heap.size := World.block_lt_of_cell? _ _ f1
        have zf6 : w.heap.size + 1 < w1.heap.size := World.block_lt_of_cell? _ _ f6
        go_wp2_with fail
        refine (PV _).mono ?_
        rintro e w2 ⟨rfl, hb2⟩
        obtain ⟨f8, f9, f10, f11, f12, f13, f14⟩ : w2.cell? ⟨w.heap.size, 0, none⟩ = some (.int .i64 cx) ∧ w2.cell? ⟨w.heap.size, 1, none⟩ = some (.int .i64 cy) ∧ w2.cell? ⟨w.heap.size, 2, none⟩ = some (.int .i64 r) ∧ w2.cell? ⟨w.heap.size, 3, none⟩ = some (.int .i64 f) ∧ w2.cell? ⟨w.heap.size, 4, none⟩ = some (.int .i64 s) ∧ w2.cell? ⟨w.heap.size + 1, 0, none⟩ = some (.int .i64 px) ∧ w2.cell? ⟨w.heap.size + 1, 1, none⟩ = some (.int .i64 py) := by
          refine ⟨?_, ?_, ?_, ?_, ?_, ?_, ?_⟩ <;> (refine cell_below hb2 ?_; repeat (first | (with_reducible assumption) | (with_reducible refine cell_drew ?_) | (with_reducible refine cell_drewN ?_ _) | (with_reducible refine cell_below (by assumption) ?_) | ((with_reducible refine cell_new ?_ ?_); (· (simp; done)); (· rfl)) | (with_reducible refine cell_alloc ?_ _) | ((with_reducible refine cell_set ?_ ?_ _); (· first | (simp; done) | (simp; omega) | omega))))
        have zf8 : w.heap.size < w2.heap.size := World.block_lt_of_cell? _ _ f8
        have zf13 : w.heap.size + 1 < w2.heap.size := World.block_lt_of_cell? _ _ f13
        clear f1 zf1 f2 f3 f4 f5 f6 zf6 f7
        go_wp2_with fail
        go_region_held3 (fun w' => w'.cell? ⟨w.heap.size, 0, none⟩ = some (.int .i64 cx) ∧ w'.cell? ⟨w.heap.size, 1, none⟩ = some (.int .i64 cy) ∧ w'.cell? ⟨w.heap.size, 2, none⟩ = some (.int .i64 r) ∧ w'.cell? ⟨w.heap.size, 3, none⟩ = some (.int .i64 f) ∧ w'.cell? ⟨w.heap.size, 4, none⟩ = some (.int .i64 s) ∧ w'.cell? ⟨w.heap.size + 1, 0, none⟩ = some (.int .i64 px) ∧ w'.cell? ⟨w.heap.size + 1, 1, none⟩ = some (.int .i64 py)) ((go_split_ands; refine ⟨?_, ?_, ?_, ?_, ?_, ?_, ?_⟩ <;> (repeat (first | (with_reducible assumption) | (with_reducible refine cell_drew ?_) | (with_reducible refine cell_drewN ?_ _) | (with_reducible refine cell_below (by assumption) ?_) | ((with_reducible refine cell_new ?_ ?_); (· (simp; done)); (· rfl)) | (with_reducible refine cell_alloc ?_ _) | ((with_reducible refine cell_set ?_ ?_ _); (· first | (simp; done) | (simp; omega) | omega))))))
          (first
            | (go_at_call 46; (with_reducible refine (DS _).mono ?_); rintro e w' ⟨rfl, hb'⟩))
        rename_i hH
        obtain ⟨f15, f16, f17, f18, f19, f20, f21⟩ := hH
        have zf15 : w.heap.size < w'.heap.size := World.block_lt_of_cell? _ _ f15
        have zf20 : w.heap.size + 1 < w'.heap.size := World.block_lt_of_cell? _ _ f20
        clear f8 zf8 f9 f10 f11 f12 f13 zf13 f14
        go_wp2_with fail
        refine (CS _).mono ?_
        rintro e w3 ⟨rfl, hb3⟩
        obtain ⟨f22, f23, f24, f25, f26, f27, f28⟩ : w3.cell? ⟨w.heap.size, 0, none⟩ = some (.int .i64 cx) ∧ w3.cell? ⟨w.heap.size, 1, none⟩ = some (.int .i64 cy) ∧ w3.cell? ⟨w.heap.size, 2, none⟩ = some (.int .i64 r) ∧ w3.cell? ⟨w.heap.size, 3, none⟩ = some (.int .i64 f) ∧ w3.cell? ⟨w.heap.size, 4, none⟩ = some (.int .i64 s) ∧ w3.cell? ⟨w.heap.size + 1, 0, none⟩ = some (.int .i64 px) ∧ w3.cell? ⟨w.heap.size + 1, 1, none⟩ = some (.int .i64 py) := by
          refine ⟨?_, ?_, ?_, ?_, ?_, ?_, ?_⟩ <;> (refine cell_below hb3 ?_; repeat (first | (with_reducible assumption) | (with_reducible refine cell_drew ?_) | (with_reducible refine cell_drewN ?_ _) | (with_reducible refine cell_below (by assumption) ?_) | ((with_reducible refine cell_new ?_ ?_); (· (simp; done)); (· rfl)) | (with_reducible refine cell_alloc ?_ _) | ((with_reducible refine cell_set ?_ ?_ _); (· first | (simp; done) | (simp; omega) | omega))))
        have zf22 : w.heap.size < w3.heap.size := World.block_lt_of_cell? _ _ f22
        have zf27 : w.heap.size + 1 < w3.heap.size := World.block_lt_of_cell? _ _ f27
        clear f15 zf15 f16 f17 f18 f19 f20 zf20 f21
        go_wp2_with fail
        go_region_held3 (fun w' => w'.cell? ⟨w.heap.size, 0, none⟩ = some (.int .i64 cx) ∧ w'.cell? ⟨w.heap.size, 1, none⟩ = some (.int .i64 cy) ∧ w'.cell? ⟨w.heap.size, 2, none⟩ = some (.int .i64 r) ∧ w'.cell? ⟨w.heap.size, 3, none⟩ = some (.int .i64 f) ∧ w'.cell? ⟨w.heap.size, 4, none⟩ = some (.int .i64 s) ∧ w'.cell? ⟨w.heap.size + 1, 0, none⟩ = some (.int .i64 px) ∧ w'.cell? ⟨w.heap.size + 1, 1, none⟩ = some (.int .i64 py)) ((go_split_ands; refine ⟨?_, ?_, ?_, ?_, ?_, ?_, ?_⟩ <;> (repeat (first | (with_reducible assumption) | (with_reducible refine cell_drew ?_) | (with_reducible refine cell_drewN ?_ _) | (with_reducible refine cell_below (by assumption) ?_) | ((with_reducible refine cell_new ?_ ?_); (· (simp; done)); (· rfl)) | (with_reducible refine cell_alloc ?_ _) | ((with_reducible refine cell_set ?_ ?_ _); (· first | (simp; done) | (simp; omega) | omega))))))
          (first
            | (go_at_call 71; (with_reducible refine (SW _).mono ?_); rintro e w' ⟨rfl, rfl⟩)
            | (go_at_call 55; (with_reducible refine (AB _).mono ?_); rintro e w' ⟨rfl, rfl⟩))
        all_goals
          go_wp2_with (first
            | (go_at_call 48; refine (TL _).mono ?_; rintro e w' ⟨rfl, hb'⟩)
            | (go_at_call 25; refine (MD _).mono ?_; rintro e w' ⟨rfl, n1, rfl⟩))
          go_ret3
          exact ⟨rfl, by (repeat (with_reducible (first | assumption | exact Below.refl _ _ | refine Below.drew ?_ | refine below_drewN ?_ _ | refine below_set ?_ (by simp; try omega) _ | refine below_alloc ?_ (Nat.le_refl _) _ | refine below_sub (by assumption) ?_)))⟩
    all_goals
      clear MM MD
      rcases T with ⟨t1, t2⟩ | t1
      all_goals
        go_enter Tryz.func32, Tryz.ntmps32
        go_wp2_with fail
        refine (TV _).mono ?_
        rintro e w1 ⟨rfl, hb1⟩
        obtain ⟨f1, f2, f3, f4, f5, f6, f7⟩ : w1.cell? ⟨w.heap.size, 0, none⟩ = some (.int .i64 cx) ∧ w1.cell? ⟨w.heap.size, 1, none⟩ = some (.int .i64 cy) ∧ w1.cell? ⟨w.heap.size, 2, none⟩ = some (.int .i64 r) ∧ w1.cell? ⟨w.heap.size, 3, none⟩ = some (.int .i64 f) ∧ w1.cell? ⟨w.heap.size, 4, none⟩ = some (.int .i64 s) ∧ w1.cell? ⟨w.heap.size + 1, 0, none⟩ = some (.int .i64 px) ∧ w1.cell? ⟨w.heap.size + 1, 1, none⟩ = some (.int .i64 py) := by
          refine ⟨?_, ?_, ?_, ?_, ?_, ?_, ?_⟩ <;> (refine cell_below hb1 ?_; repeat (first | (with_reducible assumption) | (with_reducible refine cell_drew ?_) | (with_reducible refine cell_drewN ?_ _) | (with_reducible refine cell_below (by assumption) ?_) | ((with_reducible refine cell_new ?_ ?_); (· (simp; done)); (· rfl)) | (with_reducible refine cell_alloc ?_ _) | ((with_reducible refine cell_set ?_ ?_ _); (· first | (simp; done) | (simp; omega) | omega))))
        have zf1 : w.heap.size < w1.heap.size := World.block_lt_of_cell? _ _ f1
        have zf6 : w.heap.size + 1 < w1.heap.size := World.block_lt_of_cell? _ _ f6
        go_wp2_with fail
        refine (PV _).mono ?_
        rintro e w2 ⟨rfl, hb2⟩
        obtain ⟨f8, f9, f10, f11, f12, f13, f14⟩ : w2.cell? ⟨w.heap.size, 0, none⟩ = some (.int .i64 cx) ∧ w2.cell? ⟨w.heap.size, 1, none⟩ = some (.int .i64 cy) ∧ w2.cell? ⟨w.heap.size, 2, none⟩ = some (.int .i64 r) ∧ w2.cell? ⟨w.heap.size, 3, none⟩ = some (.int .i64 f) ∧ w2.cell? ⟨w.heap.size, 4, none⟩ = some (.int .i64 s) ∧ w2.cell? ⟨w.heap.size + 1, 0, none⟩ = some (.int .i64 px) ∧ w2.cell? ⟨w.heap.size + 1, 1, none⟩ = some (.int .i64 py) := by
          refine ⟨?_, ?_, ?_, ?_, ?_, ?_, ?_⟩ <;> (refine cell_below hb2 ?_; repeat (first | (with_reducible assumption) | (with_reducible refine cell_drew ?_) | (with_reducible refine cell_drewN ?_ _) | (with_reducible refine cell_below (by assumption) ?_) | ((with_reducible refine cell_new ?_ ?_); (· (simp; done)); (· rfl)) | (with_reducible refine cell_alloc ?_ _) | ((with_reducible refine cell_set ?_ ?_ _); (· first | (simp; done) | (simp; omega) | omega))))
        have zf8 : w.heap.size < w2.heap.size := World.block_lt_of_cell? _ _ f8
        have zf13 : w.heap.size + 1 < w2.heap.size := World.block_lt_of_cell? _ _ f13
        clear f1 zf1 f2 f3 f4 f5 f6 zf6 f7
        go_wp2_with fail
        go_region_held3 (fun w' => w'.cell? ⟨w.heap.size, 0, none⟩ = some (.int .i64 cx) ∧ w'.cell? ⟨w.heap.size, 1, none⟩ = some (.int .i64 cy) ∧ w'.cell? ⟨w.heap.size, 2, none⟩ = some (.int .i64 r) ∧ w'.cell? ⟨w.heap.size, 3, none⟩ = some (.int .i64 f) ∧ w'.cell? ⟨w.heap.size, 4, none⟩ = some (.int .i64 s) ∧ w'.cell? ⟨w.heap.size + 1, 0, none⟩ = some (.int .i64 px) ∧ w'.cell? ⟨w.heap.size + 1, 1, none⟩ = some (.int .i64 py)) ((go_split_ands; refine ⟨?_, ?_, ?_, ?_, ?_, ?_, ?_⟩ <;> (repeat (first | (with_reducible assumption) | (with_reducible refine cell_drew ?_) | (with_reducible refine cell_drewN ?_ _) | (with_reducible refine cell_below (by assumption) ?_) | ((with_reducible refine cell_new ?_ ?_); (· (simp; done)); (· rfl)) | (with_reducible refine cell_alloc ?_ _) | ((with_reducible refine cell_set ?_ ?_ _); (· first | (simp; done) | (simp; omega) | omega))))))
          (first
            | (go_at_call 46; (with_reducible refine (DS _).mono ?_); rintro e w' ⟨rfl, hb'⟩))
        rename_i hH
        obtain ⟨f15, f16, f17, f18, f19, f20, f21⟩ := hH
        have zf15 : w.heap.size < w'.heap.size := World.block_lt_of_cell? _ _ f15
        have zf20 : w.heap.size + 1 < w'.heap.size := World.block_lt_of_cell? _ _ f20
        clear f8 zf8 f9 f10 f11 f12 f13 zf13 f14
        go_wp2_with fail
        refine (CS _).mono ?_
        rintro e w3 ⟨rfl, hb3⟩
        obtain ⟨f22, f23, f24, f25, f26, f27, f28⟩ : w3.cell? ⟨w.heap.size, 0, none⟩ = some (.int .i64 cx) ∧ w3.cell? ⟨w.heap.size, 1, none⟩ = some (.int .i64 cy) ∧ w3.cell? ⟨w.heap.size, 2, none⟩ = some (.int .i64 r) ∧ w3.cell? ⟨w.heap.size, 3, none⟩ = some (.int .i64 f) ∧ w3.cell? ⟨w.heap.size, 4, none⟩ = some (.int .i64 s) ∧ w3.cell? ⟨w.heap.size + 1, 0, none⟩ = some (.int .i64 px) ∧ w3.cell? ⟨w.heap.size + 1, 1, none⟩ = some (.int .i64 py) := by
          refine ⟨?_, ?_, ?_, ?_, ?_, ?_, ?_⟩ <;> (refine cell_below hb3 ?_; repeat (first | (with_reducible assumption) | (with_reducible refine cell_drew ?_) | (with_reducible refine cell_drewN ?_ _) | (with_reducible refine cell_below (by assumption) ?_) | ((with_reducible refine cell_new ?_ ?_); (· (simp; done)); (· rfl)) | (with_reducible refine cell_alloc ?_ _) | ((with_reducible refine cell_set ?_ ?_ _); (· first | (simp; done) | (simp; omega) | omega))))
        have zf22 : w.heap.size < w3.heap.size := World.block_lt_of_cell? _ _ f22
        have zf27 : w.heap.size + 1 < w3.heap.size := World.block_lt_of_cell? _ _ f27
        clear f15 zf15 f16 f17 f18 f19 f20 zf20 f21
        go_wp2_with fail
        go_region_held3 (fun w' => w'.cell? ⟨w.heap.size, 0, none⟩ = some (.int .i64 cx) ∧ w'.cell? ⟨w.heap.size, 1, none⟩ = some (.int .i64 cy) ∧ w'.cell? ⟨w.heap.size, 2, none⟩ = some (.int .i64 r) ∧ w'.cell? ⟨w.heap.size, 3, none⟩ = some (.int .i64 f) ∧ w'.cell? ⟨w.heap.size, 4, none⟩ = some (.int .i64 s) ∧ w'.cell? ⟨w.heap.size + 1, 0, none⟩ = some (.int .i64 px) ∧ w'.cell? ⟨w.heap.size + 1, 1, none⟩ = some (.int .i64 py)) ((go_split_ands; refine ⟨?_, ?_, ?_, ?_, ?_, ?_, ?_⟩ <;> (repeat (first | (with_reducible assumption) | (with_reducible refine cell_drew ?_) | (with_reducible refine cell_drewN ?_ _) | (with_reducible refine cell_below (by assumption) ?_) | ((with_reducible refine cell_new ?_ ?_); (· (simp; done)); (· rfl)) | (with_reducible refine cell_alloc ?_ _) | ((with_reducible refine cell_set ?_ ?_ _); (· first | (simp; done) | (simp; omega) | omega))))))
          (first
            | (go_at_call 71; (with_reducible refine (SW _).mono ?_); rintro e w' ⟨rfl, rfl⟩)
            | (go_at_call 55; (with_reducible refine (AB _).mono ?_); rintro e w' ⟨rfl, rfl⟩))
        all_goals
          go_wp2_with (first
            | (go_at_call 48; refine (TL _).mono ?_; rintro e w' ⟨rfl, hb'⟩))
          go_ret3
          exact ⟨rfl, by (repeat (with_reducible (first | assumption | exact Below.refl _ _ | refine Below.drew ?_ | refine below_drewN ?_ _ | refine below_set ?_ (by simp; try omega) _ | refine below_alloc ?_ (Nat.le_refl _) _ | refine below_sub (by assumption) ?_)))⟩
end Go.Proofs.YtapgmnjpfcohhaaGreatDoor
