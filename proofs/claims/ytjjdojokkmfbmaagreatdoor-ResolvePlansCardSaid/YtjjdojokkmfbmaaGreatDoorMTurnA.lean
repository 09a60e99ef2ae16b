/-
  The walks of arcs: validity, length, sides.
-/
import Derived.Test.YtjjdojokkmfbmaaGreatDoorMLaws
import Derived.Test.YtjjdojokkmfbmaaGreatDoorMLineA
import Derived.Test.YtjjdojokkmfbmaaGreatDoorMWi
set_option maxRecDepth 100000
set_option maxHeartbeats 16000000
namespace Go.Proofs.YtjjdojokkmfbmaaGreatDoor
open Go.RowKit
set_option linter.unusedVariables false
set_option linter.unusedSimpArgs false
theorem arc_cases {cx cy r f s : Int} (h : arcB cx cy r f s = true) : vldB cx cy = true ∧ (1 ≤ r ∧ r ≤ 8000000) ∧ (0 ≤ f ∧ f < 129600000) ∧ -129600000 ≤ s ∧ s ≤ 129600000 := by
  have := (arcB_iff _ _ _ _ _).1 h
  exact ⟨this.1, ⟨this.2.1, this.2.2.1⟩, ⟨this.2.2.2.1, this.2.2.2.2.1⟩, this.2.2.2.2.2⟩
theorem len_in {r a : Int} (h1 : 1 ≤ r) (h2 : r ≤ 8000000) (h3 : 0 ≤ a) (h4 : a ≤ 129600000) : (0 ≤ r * a ∧ r * a ≤ 1036800000000000) ∧ muldiv 2 (r * a) 1 20626481 = (rnd 2 (r * a) 20626481, 0) ∧ (0 ≤ rnd 2 (r * a) 20626481 ∧ rnd 2 (r * a) 20626481 ≤ 60000000) := by
  have e1 : 0 ≤ r * a := Int.mul_nonneg (by omega) h3
  have e2 : r * a ≤ 8000000 * 129600000 := Int.mul_le_mul h2 h4 h3 (by omega)
  have b : 0 ≤ rnd 2 (r * a) 20626481 ∧ rnd 2 (r * a) 20626481 ≤ 60000000 := by rw [rndLen]; omega
  refine ⟨by omega, ?_, b⟩
  unfold muldiv
  rw [if_neg (by omega), Int.mul_one, if_pos]
  unfold in64
  generalize rnd 2 (r * a) 20626481 = q at *
  exact decide_eq_true (by omega)
theorem tvalid_any (cx cy r f s : Int) (w : World) :
    Calls Tryz.prog 115 #[.agg #[.int .i64 cx, .int .i64 cy, .int .i64 r, .int .i64 f, .int .i64 s]] w fun e w' => e = .returned (.bool (arcB cx cy r f s)) ∧ Below w.heap.size w w' := by
  rcases hv : vldB cx cy with _ | _
  all_goals
    have HV := hide hv
    clear hv
    go_enter Tryz.func115, Tryz.ntmps115
    go_wp2_with (go_at_call 24; refine (pvalid_c _ _ _ HV.out _).mono ?_; rintro e w' ⟨rfl, rfl⟩)
  · go_ret
    exact ⟨ret_bool (by unfold arcB; rw [HV.out]; rfl), by (repeat (with_reducible (first | assumption | exact Below.refl _ _ | refine Below.drew ?_ | refine below_drewN ?_ _ | refine below_set ?_ (by simp; try omega) _ | refine below_alloc ?_ (Nat.le_refl _) _ | refine below_sub (by assumption) ?_)))⟩
  all_goals
    go_ret
    exact ⟨ret_bool (by unfold arcB; rw [HV.out, Bool.eq_iff_iff]; simp; try omega), by (repeat (with_reducible (first | assumption | exact Below.refl _ _ | refine Below.drew ?_ | refine below_drewN ?_ _ | refine below_set ?_ (by simp; try omega) _ | refine below_alloc ?_ (Nat.le_refl _) _ | refine below_sub (by assumption) ?_)))⟩
theorem rtvalid_any (cx cy r f s : Int) (w : World) :
    Calls Tryz.prog 133 #[.agg #[.int .i64 cx, .int .i64 cy, .int .i64 r, .int .i64 f, .int .i64 s]] w fun e w' => e = .returned (.bool (arcB cx cy r f s)) ∧ Below w.heap.size w w' := by
  rcases hv : vldB cx cy with _ | _
  all_goals
    have HV := hide hv
    clear hv
    go_enter Tryz.func133, Tryz.ntmps133
    go_wp2_with (go_at_call 36; refine (rpvalid_c _ _ _ HV.out _).mono ?_; rintro e w' ⟨rfl, rfl⟩)
  · go_ret
    exact ⟨ret_bool (by unfold arcB; rw [HV.out]; rfl), by (repeat (with_reducible (first | assumption | exact Below.refl _ _ | refine Below.drew ?_ | refine below_drewN ?_ _ | refine below_set ?_ (by simp; try omega) _ | refine below_alloc ?_ (Nat.le_refl _) _ | refine below_sub (by assumption) ?_)))⟩
  all_goals
    go_ret
    exact ⟨ret_bool (by unfold arcB; rw [HV.out, Bool.eq_iff_iff]; simp; try omega), by (repeat (with_reducible (first | assumption | exact Below.refl _ _ | refine Below.drew ?_ | refine below_drewN ?_ _ | refine below_set ?_ (by simp; try omega) _ | refine below_alloc ?_ (Nat.le_refl _) _ | refine below_sub (by assumption) ?_)))⟩
theorem rsz_any (a : Int) (h : -9223372036854775807 ≤ a) (h2 : a ≤ 9223372036854775807) (w : World) :
    Calls Tryz.prog 131 #[.int .i64 a] w fun e w' => e = .returned (.int .i64 a.natAbs) ∧ w = w' := by
  go_enter Tryz.func131, Tryz.ntmps131
  go_wp2
  all_goals
    go_ret
    exact ⟨ret_int (by omega), rfl⟩
theorem tside_any (cx cy r f s x : Int) (h : -9000000000000000000 ≤ x) (h2 : x ≤ 9000000000000000000) (w : World) :
    Calls Tryz.prog 118 #[.agg #[.int .i64 cx, .int .i64 cy, .int .i64 r, .int .i64 f, .int .i64 s], .int .i64 x] w fun e w' => e = .returned (.int .i64 (sideOf s x)) ∧ Below w.heap.size w w' := by
  go_enter Tryz.func118, Tryz.ntmps118
  go_wp2
  all_goals
    go_ret
    exact ⟨ret_int (by unfold sideOf; split <;> omega), by (repeat (with_reducible (first | assumption | exact Below.refl _ _ | refine Below.drew ?_ | refine below_drewN ?_ _ | refine below_set ?_ (by simp; try omega) _ | refine below_alloc ?_ (Nat.le_refl _) _ | refine below_sub (by assumption) ?_)))⟩
theorem rtside_any (d x s : Int) (hd : I64 d) (h : -9000000000000000000 ≤ x) (h2 : x ≤ 9000000000000000000) (w : World) :
    Calls Tryz.prog 135 #[.int .i64 d, .int .i64 x, .int .i64 s] w fun e w' => e = .returned (.int .i64 (turnF d (sideOf s x))) ∧ w = w' := by
  have T1 := fun W => rturn_any d x hd (by unfold I64; omega) W
  have T2 := fun W => rturn_any d (-x) hd (by unfold I64; omega) W
  by_cases hs : s < 0
  · rw [show sideOf s x = -x from by unfold sideOf; rw [if_pos hs]]
    generalize turnF d (-x) = R at *
    go_enter Tryz.func135, Tryz.ntmps135
    go_wp2_with (go_at_call 137; refine (T2 _).mono ?_; rintro e w' ⟨rfl, rfl⟩)
    go_ret
    exact ⟨rfl, rfl⟩
  · rw [show sideOf s x = x from by unfold sideOf; rw [if_neg hs]]
    generalize turnF d x = R at *
    go_enter Tryz.func135, Tryz.ntmps135
    go_wp2_with (go_at_call 137; refine (T1 _).mono ?_; rintro e w' ⟨rfl, rfl⟩)
    go_ret
    exact ⟨rfl, rfl⟩
theorem tlen_any (cx cy r f s : Int) (w : World) :
    Calls Tryz.prog 66 #[.agg #[.int .i64 cx, .int .i64 cy, .int .i64 r, .int .i64 f, .int .i64 s]] w fun e w' => e = .returned (.int .i64 (arcLen cx cy r f s)) ∧ Below w.heap.size w w' := by
  rcases hB : arcB cx cy r f s with _ | _
  · have HR : Hid (arcLen cx cy r f s = 0) := hide (by unfold arcLen; rw [hB]; rfl)
    have HB := hide hB
    clear hB
    generalize arcLen cx cy r f s = R at *
    obtain rfl : R = 0 := HR.out
    go_enter Tryz.func66, Tryz.ntmps66
    go_wp2_with fail
    refine (tvalid_any cx cy r f s _).mono ?_
    rintro e w1 ⟨rfl, hb1⟩
    rw [HB.out]
    have f1 := cell_below hb1 (b := w.heap.size) (o := 0) (v := .int .i64 cx) (by repeat (first | (with_reducible assumption) | (with_reducible refine cell_drew ?_) | (with_reducible refine cell_drewN ?_ _) | (with_reducible refine cell_below (by assumption) ?_) | ((with_reducible refine cell_new ?_ ?_); (· (simp; done)); (· rfl)) | (with_reducible refine cell_alloc ?_ _) | ((with_reducible refine cell_set ?_ ?_ _); (· first | (simp; done) | (simp; omega) | omega))))
    have zf1 : w.heap.size < w1.heap.size := World.block_lt_of_cell? _ _ f1
    have f2 := cell_below hb1 (b := w.heap.size) (o := 1) (v := .int .i64 cy) (by repeat (first | (with_reducible assumption) | (with_reducible refine cell_drew ?_) | (with_reducible refine cell_drewN ?_ _) | (with_reducible refine cell_below (by assumption) ?_) | ((with_reducible refine cell_new ?_ ?_); (· (simp; done)); (· rfl)) | (with_reducible refine cell_alloc ?_ _) | ((with_reducible refine cell_set ?_ ?_ _); (· first | (simp; done) | (simp; omega) | omega))))
    have f3 := cell_below hb1 (b := w.heap.size) (o := 2) (v := .int .i64 r) (by repeat (first | (with_reducible assumption) | (with_reducible refine cell_drew ?_) | (with_reducible refine cell_drewN ?_ _) | (with_reducible refine cell_below (by assumption) ?_) | ((with_reducible refine cell_new ?_ ?_); (· (simp; done)); (· rfl)) | (with_reducible refine cell_alloc ?_ _) | ((with_reducible refine cell_set ?_ ?_ _); (· first | (simp; done) | (simp; omega) | omega))))
    have f4 := cell_below hb1 (b := w.heap.size) (o := 3) (v := .int .i64 f) (by repeat (first | (with_reducible assumption) | (with_reducible refine cell_drew ?_) | (with_reducible refine cell_drewN ?_ _) | (with_reducible refine cell_below (by assumption) ?_) | ((with_reducible refine cell_new ?_ ?_); (· (simp; done)); (· rfl)) | (with_reducible refine cell_alloc ?_ _) | ((with_reducible refine cell_set ?_ ?_ _); (· first | (simp; done) | (simp; omega) | omega))))
    have f5 := cell_below hb1 (b := w.heap.size) (o := 4) (v := .int .i64 s) (by repeat (first | (with_reducible assumption) | (with_reducible refine cell_drew ?_) | (with_reducible refine cell_drewN ?_ _) | (with_reducible refine cell_below (by assumption) ?_) | ((with_reducible refine cell_new ?_ ?_); (· (simp; done)); (· rfl)) | (with_reducible refine cell_alloc ?_ _) | ((with_reducible refine cell_set ?_ ?_ _); (· first | (simp; done) | (simp; omega) | omega))))
    go_wp2_with fail
    go_ret
    exact ⟨rfl, by (repeat (with_reducible (first | assumption | exact Below.refl _ _ | refine Below.drew ?_ | refine below_drewN ?_ _ | refine below_set ?_ (by simp; try omega) _ | refine below_alloc ?_ (Nat.le_refl _) _ | refine below_sub (by assumption) ?_)))⟩
  · have HR := hide (arcLen_eq hB)
    have HB := hide hB
    obtain ⟨_, ⟨b1, b2⟩, _, b3, b4⟩ := arc_cases hB
    have L := len_in (a := (s.natAbs : Int)) b1 b2 (by omega) (by omega)
    have AB := fun W => abs_any s (by unfold I64; omega) (by omega) W
    have RD := fun W => round_any (r * s.natAbs) 20626481 (by unfold I64; omega) (by unfold I64; omega) W
    rw [L.2.1] at RD
    have wn := wi' (x := r * s.natAbs) (by omega) (by omega)
    clear hB
    generalize arcLen cx cy r f s = R at *
    generalize (s.natAbs : Int) = a at *
    obtain ⟨⟨l1, l2⟩, _, l3, l4⟩ := L
    generalize rnd 2 (r * a) 20626481 = q at *
    obtain rfl : R = q := HR.out
    go_enter Tryz.func66, Tryz.ntmps66
    go_wp2_with fail
    refine (tvalid_any cx cy r f s _).mono ?_
    rintro e w1 ⟨rfl, hb1⟩
    rw [HB.out]
    have f1 := cell_below hb1 (b := w.heap.size) (o := 0) (v := .int .i64 cx) (by repeat (first | (with_reducible assumption) | (with_reducible refine cell_drew ?_) | (with_reducible refine cell_drewN ?_ _) | (with_reducible refine cell_below (by assumption) ?_) | ((with_reducible refine cell_new ?_ ?_); (· (simp; done)); (· rfl)) | (with_reducible refine cell_alloc ?_ _) | ((with_reducible refine cell_set ?_ ?_ _); (· first | (simp; done) | (simp; omega) | omega))))
    have zf1 : w.heap.size < w1.heap.size := World.block_lt_of_cell? _ _ f1
    have f2 := cell_below hb1 (b := w.heap.size) (o := 1) (v := .int .i64 cy) (by repeat (first | (with_reducible assumption) | (with_reducible refine cell_drew ?_) | (with_reducible refine cell_drewN ?_ _) | (with_reducible refine cell_below (by assumption) ?_) | ((with_reducible refine cell_new ?_ ?_); (· (simp; done)); (· rfl)) | (with_reducible refine cell_alloc ?_ _) | ((with_reducible refine cell_set ?_ ?_ _); (· first | (simp; done) | (simp; omega) | omega))))
    have f3 := cell_below hb1 (b := w.heap.size) (o := 2) (v := .int .i64 r) (by repeat (first | (with_reducible assumption) | (with_reducible refine cell_drew ?_) | (with_reducible refine cell_drewN ?_ _) | (with_reducible refine cell_below (by assumption) ?_) | ((with_reducible refine cell_new ?_ ?_); (· (simp; done)); (· rfl)) | (with_reducible refine cell_alloc ?_ _) | ((with_reducible refine cell_set ?_ ?_ _); (· first | (simp; done) | (simp; omega) | omega))))
    have f4 := cell_below hb1 (b := w.heap.size) (o := 3) (v := .int .i64 f) (by repeat (first | (with_reducible assumption) | (with_reducible refine cell_drew ?_) | (with_reducible refine cell_drewN ?_ _) | (with_reducible refine cell_below (by assumption) ?_) | ((with_reducible refine cell_new ?_ ?_); (· (simp; done)); (· rfl)) | (with_reducible refine cell_alloc ?_ _) | ((with_reducible refine cell_set ?_ ?_ _); (· first | (simp; done) | (simp; omega) | omega))))
    have f5 := cell_below hb1 (b := w.heap.size) (o := 4) (v := .int .i64 s) (by repeat (first | (with_reducible assumption) | (with_reducible refine cell_drew ?_) | (with_reducible refine cell_drewN ?_ _) | (with_reducible refine cell_below (by assumption) ?_) | ((with_reducible refine cell_new ?_ ?_); (· (simp; done)); (· rfl)) | (with_reducible refine cell_alloc ?_ _) | ((with_reducible refine cell_set ?_ ?_ _); (· first | (simp; done) | (simp; omega) | omega))))
    go_wp2_with fail
    go_region_held3 (fun w' => w'.cell? ⟨w.heap.size, 0, none⟩ = some (.int .i64 cx) ∧ w'.cell? ⟨w.heap.size, 1, none⟩ = some (.int .i64 cy) ∧ w'.cell? ⟨w.heap.size, 2, none⟩ = some (.int .i64 r) ∧ w'.cell? ⟨w.heap.size, 3, none⟩ = some (.int .i64 f) ∧ w'.cell? ⟨w.heap.size, 4, none⟩ = some (.int .i64 s)) ((go_split_ands; refine ⟨?_, ?_, ?_, ?_, ?_⟩ <;> (repeat (first | (with_reducible assumption) | (with_reducible refine cell_drew ?_) | (with_reducible refine cell_drewN ?_ _) | (with_reducible refine cell_below (by assumption) ?_) | ((with_reducible refine cell_new ?_ ?_); (· (simp; done)); (· rfl)) | (with_reducible refine cell_alloc ?_ _) | ((with_reducible refine cell_set ?_ ?_ _); (· first | (simp; done) | (simp; omega) | omega))))))
      (first | (go_at_call 65; (with_reducible refine (AB _).mono ?_); rintro e w' ⟨rfl, rfl⟩) | (go_at_call 109; (with_reducible refine (RD _).mono ?_); rintro e w' ⟨rfl, n, rfl⟩))
    all_goals
      go_wp2_with fail
      go_ret
      exact ⟨rfl, by (repeat (with_reducible (first | assumption | exact Below.refl _ _ | refine Below.drew ?_ | refine below_drewN ?_ _ | refine below_set ?_ (by simp; try omega) _ | refine below_alloc ?_ (Nat.le_refl _) _ | refine below_sub (by assumption) ?_)))⟩
theorem rtlen_any (cx cy r f s : Int) (w : World) :
    Calls Tryz.prog 84 #[.agg #[.int .i64 cx, .int .i64 cy, .int .i64 r, .int .i64 f, .int .i64 s]] w fun e w' => e = .returned (.int .i64 (arcLen cx cy r f s)) ∧ Below w.heap.size w w' := by
  rcases hB : arcB cx cy r f s with _ | _
  · have HR : Hid (arcLen cx cy r f s = 0) := hide (by unfold arcLen; rw [hB]; rfl)
    have HB := hide hB
    clear hB
    generalize arcLen cx cy r f s = R at *
    obtain rfl : R = 0 := HR.out
    go_enter Tryz.func84, Tryz.ntmps84
    go_wp2_with fail
    refine (rtvalid_any cx cy r f s _).mono ?_
    rintro e w1 ⟨rfl, hb1⟩
    rw [HB.out]
    have f1 := cell_below hb1 (b := w.heap.size) (o := 0) (v := .int .i64 cx) (by repeat (first | (with_reducible assumption) | (with_reducible refine cell_drew ?_) | (with_reducible refine cell_drewN ?_ _) | (with_reducible refine cell_below (by assumption) ?_) | ((with_reducible refine cell_new ?_ ?_); (· (simp; done)); (· rfl)) | (with_reducible refine cell_alloc ?_ _) | ((with_reducible refine cell_set ?_ ?_ _); (· first | (simp; done) | (simp; omega) | omega))))
    have zf1 : w.heap.size < w1.heap.size := World.block_lt_of_cell? _ _ f1
    have f2 := cell_below hb1 (b := w.heap.size) (o := 1) (v := .int .i64 cy) (by repeat (first | (with_reducible assumption) | (with_reducible refine cell_drew ?_) | (with_reducible refine cell_drewN ?_ _) | (with_reducible refine cell_below (by assumption) ?_) | ((with_reducible refine cell_new ?_ ?_); (· (simp; done)); (· rfl)) | (with_reducible refine cell_alloc ?_ _) | ((with_reducible refine cell_set ?_ ?_ _); (· first | (simp; done) | (simp; omega) | omega))))
    have f3 := cell_below hb1 (b := w.heap.size) (o := 2) (v := .int .i64 r) (by repeat (first | (with_reducible assumption) | (with_reducible refine cell_drew ?_) | (with_reducible refine cell_drewN ?_ _) | (with_reducible refine cell_below (by assumption) ?_) | ((with_reducible refine cell_new ?_ ?_); (· (simp; done)); (· rfl)) | (with_reducible refine cell_alloc ?_ _) | ((with_reducible refine cell_set ?_ ?_ _); (· first | (simp; done) | (simp; omega) | omega))))
    have f4 := cell_below hb1 (b := w.heap.size) (o := 3) (v := .int .i64 f) (by repeat (first | (with_reducible assumption) | (with_reducible refine cell_drew ?_) | (with_reducible refine cell_drewN ?_ _) | (with_reducible refine cell_below (by assumption) ?_) | ((with_reducible refine cell_new ?_ ?_); (· (simp; done)); (· rfl)) | (with_reducible refine cell_alloc ?_ _) | ((with_reducible refine cell_set ?_ ?_ _); (· first | (simp; done) | (simp; omega) | omega))))
    have f5 := cell_below hb1 (b := w.heap.size) (o := 4) (v := .int .i64 s) (by repeat (first | (with_reducible assumption) | (with_reducible refine cell_drew ?_) | (with_reducible refine cell_drewN ?_ _) | (with_reducible refine cell_below (by assumption) ?_) | ((with_reducible refine cell_new ?_ ?_); (· (simp; done)); (· rfl)) | (with_reducible refine cell_alloc ?_ _) | ((with_reducible refine cell_set ?_ ?_ _); (· first | (simp; done) | (simp; omega) | omega))))
    go_wp2_with fail
    go_ret
    exact ⟨rfl, by (repeat (with_reducible (first | assumption | exact Below.refl _ _ | refine Below.drew ?_ | refine below_drewN ?_ _ | refine below_set ?_ (by simp; try omega) _ | refine below_alloc ?_ (Nat.le_refl _) _ | refine below_sub (by assumption) ?_)))⟩
  · have HR := hide (arcLen_eq hB)
    have HB := hide hB
    obtain ⟨_, ⟨b1, b2⟩, _, b3, b4⟩ := arc_cases hB
    have L := len_in (a := (s.natAbs : Int)) b1 b2 (by omega) (by omega)
    have AB := fun W => rsz_any s (by omega) (by omega) W
    have RD := fun W => rround_any (r * s.natAbs) 20626481 (by unfold I64; omega) (by unfold I64; omega) W
    rw [L.2.1] at RD
    have wn := wi' (x := r * s.natAbs) (by omega) (by omega)
    clear hB
    generalize arcLen cx cy r f s = R at *
    generalize (s.natAbs : Int) = a at *
    obtain ⟨⟨l1, l2⟩, _, l3, l4⟩ := L
    generalize rnd 2 (r * a) 20626481 = q at *
    obtain rfl : R = q := HR.out
    go_enter Tryz.func84, Tryz.ntmps84
    go_wp2_with fail
    refine (rtvalid_any cx cy r f s _).mono ?_
    rintro e w1 ⟨rfl, hb1⟩
    rw [HB.out]
    have f1 := cell_below hb1 (b := w.heap.size) (o := 0) (v := .int .i64 cx) (by repeat (first | (with_reducible assumption) | (with_reducible refine cell_drew ?_) | (with_reducible refine cell_drewN ?_ _) | (with_reducible refine cell_below (by assumption) ?_) | ((with_reducible refine cell_new ?_ ?_); (· (simp; done)); (· rfl)) | (with_reducible refine cell_alloc ?_ _) | ((with_reducible refine cell_set ?_ ?_ _); (· first | (simp; done) | (simp; omega) | omega))))
    have zf1 : w.heap.size < w1.heap.size := World.block_lt_of_cell? _ _ f1
    have f2 := cell_below hb1 (b := w.heap.size) (o := 1) (v := .int .i64 cy) (by repeat (first | (with_reducible assumption) | (with_reducible refine cell_drew ?_) | (with_reducible refine cell_drewN ?_ _) | (with_reducible refine cell_below (by assumption) ?_) | ((with_reducible refine cell_new ?_ ?_); (· (simp; done)); (· rfl)) | (with_reducible refine cell_alloc ?_ _) | ((with_reducible refine cell_set ?_ ?_ _); (· first | (simp; done) | (simp; omega) | omega))))
    have f3 := cell_below hb1 (b := w.heap.size) (o := 2) (v := .int .i64 r) (by repeat (first | (with_reducible assumption) | (with_reducible refine cell_drew ?_) | (with_reducible refine cell_drewN ?_ _) | (with_reducible refine cell_below (by assumption) ?_) | ((with_reducible refine cell_new ?_ ?_); (· (simp; done)); (· rfl)) | (with_reducible refine cell_alloc ?_ _) | ((with_reducible refine cell_set ?_ ?_ _); (· first | (simp; done) | (simp; omega) | omega))))
    have f4 := cell_below hb1 (b := w.heap.size) (o := 3) (v := .int .i64 f) (by repeat (first | (with_reducible assumption) | (with_reducible refine cell_drew ?_) | (with_reducible refine cell_drewN ?_ _) | (with_reducible refine cell_below (by assumption) ?_) | ((with_reducible refine cell_new ?_ ?_); (· (simp; done)); (· rfl)) | (with_reducible refine cell_alloc ?_ _) | ((with_reducible refine cell_set ?_ ?_ _); (· first | (simp; done) | (simp; omega) | omega))))
    have f5 := cell_below hb1 (b := w.heap.size) (o := 4) (v := .int .i64 s) (by repeat (first | (with_reducible assumption) | (with_reducible refine cell_drew ?_) | (with_reducible refine cell_drewN ?_ _) | (with_reducible refine cell_below (by assumption) ?_) | ((with_reducible refine cell_new ?_ ?_); (· (simp; done)); (· rfl)) | (with_reducible refine cell_alloc ?_ _) | ((with_reducible refine cell_set ?_ ?_ _); (· first | (simp; done) | (simp; omega) | omega))))
    go_wp2_with fail
    go_region_held3 (fun w' => w'.cell? ⟨w.heap.size, 0, none⟩ = some (.int .i64 cx) ∧ w'.cell? ⟨w.heap.size, 1, none⟩ = some (.int .i64 cy) ∧ w'.cell? ⟨w.heap.size, 2, none⟩ = some (.int .i64 r) ∧ w'.cell? ⟨w.heap.size, 3, none⟩ = some (.int .i64 f) ∧ w'.cell? ⟨w.heap.size, 4, none⟩ = some (.int .i64 s)) ((go_split_ands; refine ⟨?_, ?_, ?_, ?_, ?_⟩ <;> (repeat (first | (with_reducible assumption) | (with_reducible refine cell_drew ?_) | (with_reducible refine cell_drewN ?_ _) | (with_reducible refine cell_below (by assumption) ?_) | ((with_reducible refine cell_new ?_ ?_); (· (simp; done)); (· rfl)) | (with_reducible refine cell_alloc ?_ _) | ((with_reducible refine cell_set ?_ ?_ _); (· first | (simp; done) | (simp; omega) | omega))))))
      (first | (go_at_call 131; (with_reducible refine (AB _).mono ?_); rintro e w' ⟨rfl, rfl⟩) | (go_at_call 124; (with_reducible refine (RD _).mono ?_); rintro e w' ⟨rfl, n, rfl⟩))
    all_goals
      go_wp2_with fail
      go_ret
      exact ⟨rfl, by (repeat (with_reducible (first | assumption | exact Below.refl _ _ | refine Below.drew ?_ | refine below_drewN ?_ _ | refine below_set ?_ (by simp; try omega) _ | refine below_alloc ?_ (Nat.le_refl _) _ | refine below_sub (by assumption) ?_)))⟩
end Go.Proofs.YtjjdojokkmfbmaaGreatDoor
/-
  The walks of radii and rates of turn.
-/
namespace Go.Proofs.YtjjdojokkmfbmaaGreatDoor
open Go.RowKit
set_option linter.unusedVariables false
set_option linter.unusedSimpArgs false
end Go.Proofs.YtjjdojokkmfbmaaGreatDoor
