/-
  What the deviation of an element is, as plain functions; no program.
-/
import Derived.Test.YtgcnfjheneieeaaGreatMPlain
import Derived.Test.YtgcnfjheneieeaaGreatMTurnC
import Derived.Test.YtgcnfjheneieeaaGreatMLineE
namespace Go.Proofs.YtgcnfjheneieeaaGreat
set_option linter.unusedVariables false

/-- the deviation from an element and the distance along it -/
def locF (c : Bool) (ax ay bx b_y cx cy r f s px py : Int) : Int × Int × Int := if c then arcOff cx cy r f s px py else offF ax ay bx b_y px py
/-- the bank of an arc: out of the answer of Bank, to the side of the sweep -/
def bankV (R : Int × Int) : Int := if R.2 = 0 then R.1 else 3000
def bankN (s : Int) (R : Int × Int) : Int := if s < 0 then -(bankV R) else bankV R
def alongV (al L n : Int) : Int := max (min (min (max al 0) L) n) 0
def errF (c : Bool) (ax ay bx b_y cx cy r f s L px py track speed : Int) (R : Int × Int) : Int × Int × Int × Int :=
  if track < 0 ∨ track ≥ 129600000 ∨ speed < 1 ∨ speed > 1000 then (0, 0, 0, 2) else
  if ¬ (locF c ax ay bx b_y cx cy r f s px py).2.2 = 0 then (0, 0, 0, (locF c ax ay bx b_y cx cy r f s px py).2.2) else
  if c then
    (if ¬ (arcAt cx cy r f s (alongV (locF c ax ay bx b_y cx cy r f s px py).2.1 L (arcLen cx cy r f s))).2.2.2 = 0 then (0, 0, 0, (arcAt cx cy r f s (alongV (locF c ax ay bx b_y cx cy r f s px py).2.1 L (arcLen cx cy r f s))).2.2.2)
    else ((locF c ax ay bx b_y cx cy r f s px py).1, diffF (arcAt cx cy r f s (alongV (locF c ax ay bx b_y cx cy r f s px py).2.1 L (arcLen cx cy r f s))).2.2.1 track, bankN s R, 0))
  else (if ¬ (courseF ax ay bx b_y).2 = 0 then (0, 0, 0, (courseF ax ay bx b_y).2) else ((locF c ax ay bx b_y cx cy r f s px py).1, diffF (courseF ax ay bx b_y).1 track, 0, 0))
section
variable {c : Bool} {ax ay bx b_y cx cy r f s L px py track speed o al e X Y C E : Int} {R : Int × Int}
theorem err_out (h : track < 0 ∨ track ≥ 129600000 ∨ speed < 1 ∨ speed > 1000) : errF c ax ay bx b_y cx cy r f s L px py track speed R = (0, 0, 0, 2) := by unfold errF; rw [if_pos h]
theorem err_loc (h : ¬ (track < 0 ∨ track ≥ 129600000 ∨ speed < 1 ∨ speed > 1000)) (hl : (o, al, e) = locF c ax ay bx b_y cx cy r f s px py) (he : ¬ e = 0) :
    errF c ax ay bx b_y cx cy r f s L px py track speed R = (0, 0, 0, e) := by unfold errF; rw [if_neg h, ← hl, if_pos he]
theorem err_line (h : ¬ (track < 0 ∨ track ≥ 129600000 ∨ speed < 1 ∨ speed > 1000)) (hl : (o, al, (0 : Int)) = locF false ax ay bx b_y cx cy r f s px py) (hc : (C, E) = courseF ax ay bx b_y) :
    errF false ax ay bx b_y cx cy r f s L px py track speed R = if E = 0 then (o, diffF C track, 0, 0) else (0, 0, 0, E) := by
  unfold errF; rw [if_neg h, ← hl, if_neg (by simp), if_neg (by decide), ← hc]
  by_cases hE : E = 0
  · rw [if_pos hE, if_neg (by simp [hE])]
  · rw [if_neg hE, if_pos hE]
theorem err_arc (h : ¬ (track < 0 ∨ track ≥ 129600000 ∨ speed < 1 ∨ speed > 1000)) (hl : (o, al, (0 : Int)) = locF true ax ay bx b_y cx cy r f s px py)
    (hc : (X, Y, C, E) = arcAt cx cy r f s (alongV al L (arcLen cx cy r f s))) :
    errF true ax ay bx b_y cx cy r f s L px py track speed R = if E = 0 then (o, diffF C track, bankN s R, 0) else (0, 0, 0, E) := by
  unfold errF; rw [if_neg h, ← hl, if_neg (by simp), if_pos rfl, ← hc]
  by_cases hE : E = 0
  · rw [if_pos hE, if_neg (by simp [hE])]
  · rw [if_neg hE, if_pos hE]
end
theorem alongV_cases (al L n : Int) (hn : 0 ≤ n) :
    (al < 0 ∧ L < 0 ∧ alongV al L n = 0) ∨ (al < 0 ∧ 0 ≤ L ∧ alongV al L n = 0) ∨ (0 ≤ al ∧ L < al ∧ L < 0 ∧ alongV al L n = 0) ∨ (0 ≤ al ∧ L < al ∧ 0 ≤ L ∧ n < L ∧ alongV al L n = n) ∨
    (0 ≤ al ∧ L < al ∧ 0 ≤ L ∧ L ≤ n ∧ alongV al L n = L) ∨ (0 ≤ al ∧ al ≤ L ∧ n < al ∧ alongV al L n = n) ∨ (0 ≤ al ∧ al ≤ L ∧ al ≤ n ∧ alongV al L n = al) := by
  unfold alongV
  omega
end Go.Proofs.YtgcnfjheneieeaaGreat

/-
  The walks of Locate: the deviation of a point from an element.
-/
namespace Go.Proofs.YtgcnfjheneieeaaGreat
open Go.RowKit
set_option linter.unusedVariables false
set_option linter.unusedSimpArgs false
set_option maxRecDepth 100000 in
set_option maxHeartbeats 2000000 in
theorem loc_any (c g : Bool) (ax ay bx b_y cx cy r f s L n px py : Int) (w : World) (R : Int × Int × Int) (hR : R = locF c ax ay bx b_y cx cy r f s px py) :
    Calls Tryz.prog 20 #[.agg #[.bool c, .int .i64 ax, .int .i64 ay, .int .i64 bx, .int .i64 b_y, .int .i64 cx, .int .i64 cy, .int .i64 r, .int .i64 f, .int .i64 s, .int .i64 L, .int .i64 n, .bool g], .agg #[.int .i64 px, .int .i64 py]] w fun e w' => e = .returned (.tuple #[.int .i64 R.1, .int .i64 R.2.1, .int .i64 R.2.2]) ∧ Below w.heap.size w w' := by
  rcases c with _ | _
  · have HR : Hid (R = offF ax ay bx b_y px py) := hide (hR.trans (by unfold locF; rfl))
    clear hR
    go_enter Tryz.func20, Tryz.ntmps20
    go_wp2_with fail
    refine (off_any ax ay bx b_y px py _ R HR.out).mono ?_
    rintro e w1 ⟨rfl, hb1⟩
    obtain ⟨f1, f2, f3, f4, f5, f6, f7, f8, f9, f10, f11, f12, f13, f14, f15⟩ : w1.cell? ⟨w.heap.size, 0, none⟩ = some (.bool false) ∧ w1.cell? ⟨w.heap.size, 1, none⟩ = some (.int .i64 ax) ∧ w1.cell? ⟨w.heap.size, 2, none⟩ = some (.int .i64 ay) ∧ w1.cell? ⟨w.heap.size, 3, none⟩ = some (.int .i64 bx) ∧ w1.cell? ⟨w.heap.size, 4, none⟩ = some (.int .i64 b_y) ∧ w1.cell? ⟨w.heap.size, 5, none⟩ = some (.int .i64 cx) ∧ w1.cell? ⟨w.heap.size, 6, none⟩ = some (.int .i64 cy) ∧ w1.cell? ⟨w.heap.size, 7, none⟩ = some (.int .i64 r) ∧ w1.cell? ⟨w.heap.size, 8, none⟩ = some (.int .i64 f) ∧ w1.cell? ⟨w.heap.size, 9, none⟩ = some (.int .i64 s) ∧ w1.cell? ⟨w.heap.size, 10, none⟩ = some (.int .i64 L) ∧ w1.cell? ⟨w.heap.size, 11, none⟩ = some (.int .i64 n) ∧ w1.cell? ⟨w.heap.size, 12, none⟩ = some (.bool g) ∧ w1.cell? ⟨w.heap.size + 1, 0, none⟩ = some (.int .i64 px) ∧ w1.cell? ⟨w.heap.size + 1, 1, none⟩ = some (.int .i64 py) := by
      refine ⟨?_, ?_, ?_, ?_, ?_, ?_, ?_, ?_, ?_, ?_, ?_, ?_, ?_, ?_, ?_⟩ <;> (refine cell_below hb1 ?_; repeat (first | (with_reducible assumption) | ((with_reducible refine cell_set ?_ ?_ _); (· first | (simp; done) | (simp; omega) | omega)) | ((with_reducible refine cell_new ?_ ?_); (· (simp; done)); (· rfl)) | (with_reducible refine cell_alloc ?_ _) | (with_reducible refine cell_drew ?_) | (with_reducible refine cell_drewN ?_ _) | (with_reducible refine cell_below (by assumption) ?_)))
    have zf1 : w.heap.size < w1.heap.size := World.block_lt_of_cell? _ _ f1
    have zf14 : w.heap.size + 1 < w1.heap.size := World.block_lt_of_cell? _ _ f14
    go_wp2_with fail
    exact bodyPost_ret (v := .tuple #[.int .i64 R.1, .int .i64 R.2.1, .int .i64 R.2.2]) (by simp [results, Tryz.results20, go_sem, *]) rfl ⟨rfl, by (repeat (with_reducible (first | assumption | exact Below.refl _ _ | refine Below.drew ?_ | refine below_drewN ?_ _ | refine below_set ?_ (by simp; try omega) _ | refine below_alloc ?_ (Nat.le_refl _) _ | refine below_sub (by assumption) ?_)))⟩
  · have HR : Hid (R = arcOff cx cy r f s px py) := hide (hR.trans (by unfold locF; rfl))
    clear hR
    go_enter Tryz.func20, Tryz.ntmps20
    go_wp2_with fail
    refine (aoff_any cx cy r f s px py _ R HR.out).mono ?_
    rintro e w1 ⟨rfl, hb1⟩
    obtain ⟨f1, f2, f3, f4, f5, f6, f7, f8, f9, f10, f11, f12, f13, f14, f15⟩ : w1.cell? ⟨w.heap.size, 0, none⟩ = some (.bool true) ∧ w1.cell? ⟨w.heap.size, 1, none⟩ = some (.int .i64 ax) ∧ w1.cell? ⟨w.heap.size, 2, none⟩ = some (.int .i64 ay) ∧ w1.cell? ⟨w.heap.size, 3, none⟩ = some (.int .i64 bx) ∧ w1.cell? ⟨w.heap.size, 4, none⟩ = some (.int .i64 b_y) ∧ w1.cell? ⟨w.heap.size, 5, none⟩ = some (.int .i64 cx) ∧ w1.cell? ⟨w.heap.size, 6, none⟩ = some (.int .i64 cy) ∧ w1.cell? ⟨w.heap.size, 7, none⟩ = some (.int .i64 r) ∧ w1.cell? ⟨w.heap.size, 8, none⟩ = some (.int .i64 f) ∧ w1.cell? ⟨w.heap.size, 9, none⟩ = some (.int .i64 s) ∧ w1.cell? ⟨w.heap.size, 10, none⟩ = some (.int .i64 L) ∧ w1.cell? ⟨w.heap.size, 11, none⟩ = some (.int .i64 n) ∧ w1.cell? ⟨w.heap.size, 12, none⟩ = some (.bool g) ∧ w1.cell? ⟨w.heap.size + 1, 0, none⟩ = some (.int .i64 px) ∧ w1.cell? ⟨w.heap.size + 1, 1, none⟩ = some (.int .i64 py) := by
      refine ⟨?_, ?_, ?_, ?_, ?_, ?_, ?_, ?_, ?_, ?_, ?_, ?_, ?_, ?_, ?_⟩ <;> (refine cell_below hb1 ?_; repeat (first | (with_reducible assumption) | ((with_reducible refine cell_set ?_ ?_ _); (· first | (simp; done) | (simp; omega) | omega)) | ((with_reducible refine cell_new ?_ ?_); (· (simp; done)); (· rfl)) | (with_reducible refine cell_alloc ?_ _) | (with_reducible refine cell_drew ?_) | (with_reducible refine cell_drewN ?_ _) | (with_reducible refine cell_below (by assumption) ?_)))
    have zf1 : w.heap.size < w1.heap.size := World.block_lt_of_cell? _ _ f1
    have zf14 : w.heap.size + 1 < w1.heap.size := World.block_lt_of_cell? _ _ f14
    go_wp2_with fail
    exact bodyPost_ret (v := .tuple #[.int .i64 R.1, .int .i64 R.2.1, .int .i64 R.2.2]) (by simp [results, Tryz.results20, go_sem, *]) rfl ⟨rfl, by (repeat (with_reducible (first | assumption | exact Below.refl _ _ | refine Below.drew ?_ | refine below_drewN ?_ _ | refine below_set ?_ (by simp; try omega) _ | refine below_alloc ?_ (Nat.le_refl _) _ | refine below_sub (by assumption) ?_)))⟩
set_option maxRecDepth 100000 in
set_option maxHeartbeats 2000000 in
theorem rloc_any (c g : Bool) (ax ay bx b_y cx cy r f s L n px py : Int) (w : World) (R : Int × Int × Int) (hR : R = locF c ax ay bx b_y cx cy r f s px py) :
    Calls Tryz.prog 26 #[.agg #[.bool c, .int .i64 ax, .int .i64 ay, .int .i64 bx, .int .i64 b_y, .int .i64 cx, .int .i64 cy, .int .i64 r, .int .i64 f, .int .i64 s, .int .i64 L, .int .i64 n, .bool g], .agg #[.int .i64 px, .int .i64 py]] w fun e w' => e = .returned (.tuple #[.int .i64 R.1, .int .i64 R.2.1, .int .i64 R.2.2]) ∧ Below w.heap.size w w' := by
  rcases c with _ | _
  · have HR : Hid (R = offF ax ay bx b_y px py) := hide (hR.trans (by unfold locF; rfl))
    clear hR
    go_enter Tryz.func26, Tryz.ntmps26
    go_wp2_with fail
    refine (roff_any ax ay bx b_y px py _ R HR.out).mono ?_
    rintro e w1 ⟨rfl, hb1⟩
    obtain ⟨f1, f2, f3, f4, f5, f6, f7, f8, f9, f10, f11, f12, f13, f14, f15⟩ : w1.cell? ⟨w.heap.size, 0, none⟩ = some (.bool false) ∧ w1.cell? ⟨w.heap.size, 1, none⟩ = some (.int .i64 ax) ∧ w1.cell? ⟨w.heap.size, 2, none⟩ = some (.int .i64 ay) ∧ w1.cell? ⟨w.heap.size, 3, none⟩ = some (.int .i64 bx) ∧ w1.cell? ⟨w.heap.size, 4, none⟩ = some (.int .i64 b_y) ∧ w1.cell? ⟨w.heap.size, 5, none⟩ = some (.int .i64 cx) ∧ w1.cell? ⟨w.heap.size, 6, none⟩ = some (.int .i64 cy) ∧ w1.cell? ⟨w.heap.size, 7, none⟩ = some (.int .i64 r) ∧ w1.cell? ⟨w.heap.size, 8, none⟩ = some (.int .i64 f) ∧ w1.cell? ⟨w.heap.size, 9, none⟩ = some (.int .i64 s) ∧ w1.cell? ⟨w.heap.size, 10, none⟩ = some (.int .i64 L) ∧ w1.cell? ⟨w.heap.size, 11, none⟩ = some (.int .i64 n) ∧ w1.cell? ⟨w.heap.size, 12, none⟩ = some (.bool g) ∧ w1.cell? ⟨w.heap.size + 1, 0, none⟩ = some (.int .i64 px) ∧ w1.cell? ⟨w.heap.size + 1, 1, none⟩ = some (.int .i64 py) := by
      refine ⟨?_, ?_, ?_, ?_, ?_, ?_, ?_, ?_, ?_, ?_, ?_, ?_, ?_, ?_, ?_⟩ <;> (refine cell_below hb1 ?_; repeat (first | (with_reducible assumption) | ((with_reducible refine cell_set ?_ ?_ _); (· first | (simp; done) | (simp; omega) | omega)) | ((with_reducible refine cell_new ?_ ?_); (· (simp; done)); (· rfl)) | (with_reducible refine cell_alloc ?_ _) | (with_reducible refine cell_drew ?_) | (with_reducible refine cell_drewN ?_ _) | (with_reducible refine cell_below (by assumption) ?_)))
    have zf1 : w.heap.size < w1.heap.size := World.block_lt_of_cell? _ _ f1
    have zf14 : w.heap.size + 1 < w1.heap.size := World.block_lt_of_cell? _ _ f14
    go_wp2_with fail
    exact bodyPost_ret (v := .tuple #[.int .i64 R.1, .int .i64 R.2.1, .int .i64 R.2.2]) (by simp [results, Tryz.results26, go_sem, *]) rfl ⟨rfl, by (repeat (with_reducible (first | assumption | exact Below.refl _ _ | refine Below.drew ?_ | refine below_drewN ?_ _ | refine below_set ?_ (by simp; try omega) _ | refine below_alloc ?_ (Nat.le_refl _) _ | refine below_sub (by assumption) ?_)))⟩
  · have HR : Hid (R = arcOff cx cy r f s px py) := hide (hR.trans (by unfold locF; rfl))
    clear hR
    go_enter Tryz.func26, Tryz.ntmps26
    go_wp2_with fail
    refine (raoff_any cx cy r f s px py _ R HR.out).mono ?_
    rintro e w1 ⟨rfl, hb1⟩
    obtain ⟨f1, f2, f3, f4, f5, f6, f7, f8, f9, f10, f11, f12, f13, f14, f15⟩ : w1.cell? ⟨w.heap.size, 0, none⟩ = some (.bool true) ∧ w1.cell? ⟨w.heap.size, 1, none⟩ = some (.int .i64 ax) ∧ w1.cell? ⟨w.heap.size, 2, none⟩ = some (.int .i64 ay) ∧ w1.cell? ⟨w.heap.size, 3, none⟩ = some (.int .i64 bx) ∧ w1.cell? ⟨w.heap.size, 4, none⟩ = some (.int .i64 b_y) ∧ w1.cell? ⟨w.heap.size, 5, none⟩ = some (.int .i64 cx) ∧ w1.cell? ⟨w.heap.size, 6, none⟩ = some (.int .i64 cy) ∧ w1.cell? ⟨w.heap.size, 7, none⟩ = some (.int .i64 r) ∧ w1.cell? ⟨w.heap.size, 8, none⟩ = some (.int .i64 f) ∧ w1.cell? ⟨w.heap.size, 9, none⟩ = some (.int .i64 s) ∧ w1.cell? ⟨w.heap.size, 10, none⟩ = some (.int .i64 L) ∧ w1.cell? ⟨w.heap.size, 11, none⟩ = some (.int .i64 n) ∧ w1.cell? ⟨w.heap.size, 12, none⟩ = some (.bool g) ∧ w1.cell? ⟨w.heap.size + 1, 0, none⟩ = some (.int .i64 px) ∧ w1.cell? ⟨w.heap.size + 1, 1, none⟩ = some (.int .i64 py) := by
      refine ⟨?_, ?_, ?_, ?_, ?_, ?_, ?_, ?_, ?_, ?_, ?_, ?_, ?_, ?_, ?_⟩ <;> (refine cell_below hb1 ?_; repeat (first | (with_reducible assumption) | ((with_reducible refine cell_set ?_ ?_ _); (· first | (simp; done) | (simp; omega) | omega)) | ((with_reducible refine cell_new ?_ ?_); (· (simp; done)); (· rfl)) | (with_reducible refine cell_alloc ?_ _) | (with_reducible refine cell_drew ?_) | (with_reducible refine cell_drewN ?_ _) | (with_reducible refine cell_below (by assumption) ?_)))
    have zf1 : w.heap.size < w1.heap.size := World.block_lt_of_cell? _ _ f1
    have zf14 : w.heap.size + 1 < w1.heap.size := World.block_lt_of_cell? _ _ f14
    go_wp2_with fail
    exact bodyPost_ret (v := .tuple #[.int .i64 R.1, .int .i64 R.2.1, .int .i64 R.2.2]) (by simp [results, Tryz.results26, go_sem, *]) rfl ⟨rfl, by (repeat (with_reducible (first | assumption | exact Below.refl _ _ | refine Below.drew ?_ | refine below_drewN ?_ _ | refine below_set ?_ (by simp; try omega) _ | refine below_alloc ?_ (Nat.le_refl _) _ | refine below_sub (by assumption) ?_)))⟩
end Go.Proofs.YtgcnfjheneieeaaGreat

