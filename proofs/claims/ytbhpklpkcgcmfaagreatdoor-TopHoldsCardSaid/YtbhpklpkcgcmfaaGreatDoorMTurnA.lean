/-
  The walks of arcs: validity, length, sides.
-/
import Derived.Test.YtbhpklpkcgcmfaaGreatDoorMLaws
import Derived.Test.YtbhpklpkcgcmfaaGreatDoorMWi
import Derived.Test.YtbhpklpkcgcmfaaGreatDoorMLineD
set_option maxRecDepth 100000
set_option maxHeartbeats 16000000
namespace Go.Proofs.YtbhpklpkcgcmfaaGreatDoor
open Go.RowKit
set_option linter.unusedVariables false
set_option linter.unusedSimpArgs false
theorem arc_cases {cx cy r f s : Int} (h : arcB cx cy r f s = true) : vldB cx cy = true ∧ (1 ≤ r ∧ r ≤ 8000000) ∧ (0 ≤ f ∧ f < 129600000) ∧ -129600000 ≤ s ∧ s ≤ 129600000 := by
 have := (arcB_iff _ _ _ _ _).1 h
 exact ⟨this.1, ⟨this.2.1, this.2.2.1⟩, ⟨this.2.2.2.1, this.2.2.2.2.1⟩, this.2.2.2.2.2⟩
theorem len_in {r a : Int} (h1 : 1 ≤ r) (h2 : r ≤ 8000000) (h3 : 0 ≤ a) (h4 : a ≤ 129600000) : (0 ≤ r * a ∧ r * a ≤ 1036800000000000) ∧ muldiv 2 (r * a) 1 20626481 = (rnd 2 (r * a) 20626481, 0) ∧ (0 ≤ rnd 2 (r * a) 20626481 ∧ rnd 2 (r * a) 20626481 ≤ 60000000) := by
 have e1 : 0 ≤ r * a := Int.mul_nonneg (by omega) h3
 have e2 : r * a ≤ 8000000 * 129600000 := Int.mul_le_mul h2 h4 h3 (by omega)
 have b : 0 ≤ rnd 2 (r * a) 20626481 ∧ rnd 2 (r * a) 20626481 ≤ 60000000 := by rw [rndLen]; omega
 refine ⟨by omega, ?_, b⟩
 unfold muldiv
 rw [if_neg (by omega), Int.mul_one, if_pos]
 unfold in64
 generalize rnd 2 (r * a) 20626481 = q at *
 exact decide_eq_true (by omega)
theorem tvalid_any (cx cy r f s : Int) (w : World) :
 Calls Tryz.prog 67 #[.agg #[.int .i64 cx, .int .i64 cy, .int .i64 r, .int .i64 f, .int .i64 s]] w fun e w' => e = .returned (.bool (arcB cx cy r f s)) ∧ Below w.heap.size w w' := by
 rcases hv : vldB cx cy with _ | _
 all_goals
  have HV := hide hv
  clear hv
  go_enter Tryz.func67, Tryz.ntmps67
  go_wp2_with (go_at_call 46; refine (pvalid_c _ _ _ HV.out _).mono ?_; rintro e w' ⟨rfl, rfl⟩)
 · go_ret
   exact ⟨ret_bool (by unfold arcB; rw [HV.out]; rfl), by (repeat (with_reducible (first | assumption | exact Below.refl _ _ | refine Below.drew ?_ | refine below_drewN ?_ _ | refine below_set ?_ (by simp; try omega) _ | refine below_alloc ?_ (Nat.le_refl _) _ | refine below_sub (by assumption) ?_)))⟩
 all_goals
  go_ret
  exact ⟨ret_bool (by unfold arcB; rw [HV.out, Bool.eq_iff_iff]; simp; try omega), by (repeat (with_reducible (first | assumption | exact Below.refl _ _ | refine Below.drew ?_ | refine below_drewN ?_ _ | refine below_set ?_ (by simp; try omega) _ | refine below_alloc ?_ (Nat.le_refl _) _ | refine below_sub (by assumption) ?_)))⟩
theorem tside_any (cx cy r f s x : Int) (h : -9000000000000000000 ≤ x) (h2 : x ≤ 9000000000000000000) (w : World) :
 Calls Tryz.prog 70 #[.agg #[.int .i64 cx, .int .i64 cy, .int .i64 r, .int .i64 f, .int .i64 s], .int .i64 x] w fun e w' => e = .returned (.int .i64 (sideOf s x)) ∧ Below w.heap.size w w' := by
 go_enter Tryz.func70, Tryz.ntmps70
 go_wp2
 all_goals
  go_ret
  exact ⟨ret_int (by unfold sideOf; split <;> omega), by (repeat (with_reducible (first | assumption | exact Below.refl _ _ | refine Below.drew ?_ | refine below_drewN ?_ _ | refine below_set ?_ (by simp; try omega) _ | refine below_alloc ?_ (Nat.le_refl _) _ | refine below_sub (by assumption) ?_)))⟩
theorem tlen_any (cx cy r f s : Int) (w : World) :
 Calls Tryz.prog 59 #[.agg #[.int .i64 cx, .int .i64 cy, .int .i64 r, .int .i64 f, .int .i64 s]] w fun e w' => e = .returned (.int .i64 (arcLen cx cy r f s)) ∧ Below w.heap.size w w' := by
 rcases hB : arcB cx cy r f s with _ | _
 · have HR : Hid (arcLen cx cy r f s = 0) := hide (by unfold arcLen; rw [hB]; rfl)
   have HB := hide hB
   clear hB
   generalize arcLen cx cy r f s = R at *
   obtain rfl : R = 0 := HR.out
   go_enter Tryz.func59, Tryz.ntmps59
   go_wp2_with fail
   refine (tvalid_any cx cy r f s _).mono ?_
   rintro e w1 ⟨rfl, hb1⟩
   rw [HB.out]
   have f1 := cell_below hb1 (b := w.heap.size) (o := 0) (v := .int .i64 cx) (by repeat (first | (with_reducible assumption) | (with_reducible refine cell_drew ?_) | (with_reducible refine cell_drewN ?_ _) | (with_reducible refine cell_below (by assumption) ?_) | ((with_reducible refine cell_new ?_ ?_); (· (simp; done)); (· rfl)) | (with_reducible refine cell_alloc ?_ _) | ((with_reducible refine cell_set ?_ ?_ _); (· first | (simp; done) | (simp; omega) | omega))))
   have zf1 : w.heap.size < w1.heap.size := World.block_lt_of_cell? _ _ f1
   have f2 := cell_below hb1 (b := w.heap.size) (o := 1) (v := .int .i64 cy) (by repeat (first | (with_reducible assumption) | (with_reducible refine cell_drew ?_) | (with_reducible refine cell_drewN ?_ _) | (with_reducible refine cell_below (by assumption) ?_) | ((with_reducible refine cell_new ?_ ?_); (· (simp; done)); (· rfl)) | (with_reducible refine cell_alloc ?_ _) | ((with_reducible refine cell_set ?_ ?_ _); (· first | (simp; done) | (simp; omega) | omega))))
   have f3 := cell_below hb1 (b := w.heap.size) (o := 2) (v := .int .i64 r) (by repeat (first | (with_reducible assumption) | (with_reducible refine cell_drew ?_) | (with_reducible refine cell_drewN ?_ _) | (with_reducible refine cell_below (by assumption) ?_) | ((with_reducible refine cell_new ?_ ?_); (· (simp; done)); (· rfl)) | (with_reducible refine cell_alloc ?_ _) | ((with_reducible refine cell_set ?_ ?_ _); (· first | (simp; done) | (simp; omega) | omega))))
   have f4 := cell_below hb1 (b := w.heap.size) (o := 3) (v := .int .i64 f) (by repeat (first | (with_reducible assumption) | (with_reducible refine cell_drew ?_) | (with_reducible refine cell_drewN ?_ _) | (with_reducible refine cell_below (by assumption) ?_) | ((with_reducible refine cell_new ?_ ?_); (· (simp; done)); (· rfl)) | (with_reducible refine cell_alloc ?_ _) | ((with_reducible refine cell_set ?_ ?_ _); (· first | (simp; done) | (simp; omega) | omega))))
   have f5 := cell_below hb1 (b := w.heap.size) (o := 4) (v := .int .i64 s) (by repeat (first | (with_reducible assumption) | (with_reducible refine cell_drew ?_) | (with_reducible refine cell_drewN ?_ _) | (with_reducible refine cell_below (by assumption) ?_) | ((with_reducible refine cell_new ?_ ?_); (· (simp; done)); (· rfl)) | (with_reducible refine cell_alloc ?_ _) | ((with_reducible refine cell_set ?_ ?_ _); (· first | (simp; done) | (simp; omega) | omega))))
   go_wp2_with fail
   go_ret
   exact ⟨rfl, by (repeat (with_reducible (first | assumption | exact Below.refl _ _ | refine Below.drew ?_ | refine below_drewN ?_ _ | refine below_set ?_ (by simp; try omega) _ | refine below_alloc ?_ (Nat.le_refl _) _ | refine below_sub (by assumption) ?_)))⟩
 · have HR := hide (arcLen_eq hB)
   have HB := hide hB
   obtain ⟨_, ⟨b1, b2⟩, _, b3, b4⟩ := arc_cases hB
   have L := len_in (a := (s.natAbs : Int)) b1 b2 (by omega) (by omega)
   have AB := fun W => abs_any s (by unfold I64; omega) (by omega) W
   have RD := fun W => round_any (r * s.natAbs) 20626481 (by unfold I64; omega) (by unfold I64; omega) W
   rw [L.2.1] at RD
   have wn := wi' (x := r * s.natAbs) (by omega) (by omega)
   clear hB
   generalize arcLen cx cy r f s = R at *
   generalize (s.natAbs : Int) = a at *
   obtain ⟨⟨l1, l2⟩, _, l3, l4⟩ := L
   generalize rnd 2 (r * a) 20626481 = q at *
   obtain rfl : R = q := HR.out
   go_enter Tryz.func59, Tryz.ntmps59
   go_wp2_with fail
   refine (tvalid_any cx cy r f s _).mono ?_
   rintro e w1 ⟨rfl, hb1⟩
   rw [HB.out]
   have f1 := cell_below hb1 (b := w.heap.size) (o := 0) (v := .int .i64 cx) (by repeat (first | (with_reducible assumption) | (with_reducible refine cell_drew ?_) | (with_reducible refine cell_drewN ?_ _) | (with_reducible refine cell_below (by assumption) ?_) | ((with_reducible refine cell_new ?_ ?_); (· (simp; done)); (· rfl)) | (with_reducible refine cell_alloc ?_ _) | ((with_reducible refine cell_set ?_ ?_ _); (· first | (simp; done) | (simp; omega) | omega))))
   have zf1 : w.heap.size < w1.heap.size := World.block_lt_of_cell? _ _ f1
   have f2 := cell_below hb1 (b := w.heap.size) (o := 1) (v := .int .i64 cy) (by repeat (first | (with_reducible assumption) | (with_reducible refine cell_drew ?_) | (with_reducible refine cell_drewN ?_ _) | (with_reducible refine cell_below (by assumption) ?_) | ((with_reducible refine cell_new ?_ ?_); (· (simp; done)); (· rfl)) | (with_reducible refine cell_alloc ?_ _) | ((with_reducible refine cell_set ?_ ?_ _); (· first | (simp; done) | (simp; omega) | omega))))
   have f3 := cell_below hb1 (b := w.heap.size) (o := 2) (v := .int .i64 r) (by repeat (first | (with_reducible assumption) | (with_reducible refine cell_drew ?_) | (with_reducible refine cell_drewN ?_ _) | (with_reducible refine cell_below (by assumption) ?_) | ((with_reducible refine cell_new ?_ ?_); (· (simp; done)); (· rfl)) | (with_reducible refine cell_alloc ?_ _) | ((with_reducible refine cell_set ?_ ?_ _); (· first | (simp; done) | (simp; omega) | omega))))
   have f4 := cell_below hb1 (b := w.heap.size) (o := 3) (v := .int .i64 f) (by repeat (first | (with_reducible assumption) | (with_reducible refine cell_drew ?_) | (with_reducible refine cell_drewN ?_ _) | (with_reducible refine cell_below (by assumption) ?_) | ((with_reducible refine cell_new ?_ ?_); (· (simp; done)); (· rfl)) | (with_reducible refine cell_alloc ?_ _) | ((with_reducible refine cell_set ?_ ?_ _); (· first | (simp; done) | (simp; omega) | omega))))
   have f5 := cell_below hb1 (b := w.heap.size) (o := 4) (v := .int .i64 s) (by repeat (first | (with_reducible assumption) | (with_reducible refine cell_drew ?_) | (with_reducible refine cell_drewN ?_ _) | (with_reducible refine cell_below (by assumption) ?_) | ((with_reducible refine cell_new ?_ ?_); (· (simp; done)); (· rfl)) | (with_reducible refine cell_alloc ?_ _) | ((with_reducible refine cell_set ?_ ?_ _); (· first | (simp; done) | (simp; omega) | omega))))
   go_wp2_with fail
   go_region_held3 (fun w' => w'.cell? ⟨w.heap.size, 0, none⟩ = some (.int .i64 cx) ∧ w'.cell? ⟨w.heap.size, 1, none⟩ = some (.int .i64 cy) ∧ w'.cell? ⟨w.heap.size, 2, none⟩ = some (.int .i64 r) ∧ w'.cell? ⟨w.heap.size, 3, none⟩ = some (.int .i64 f) ∧ w'.cell? ⟨w.heap.size, 4, none⟩ = some (.int .i64 s)) ((go_split_ands; refine ⟨?_, ?_, ?_, ?_, ?_⟩ <;> (repeat (first | (with_reducible assumption) | (with_reducible refine cell_drew ?_) | (with_reducible refine cell_drewN ?_ _) | (with_reducible refine cell_below (by assumption) ?_) | ((with_reducible refine cell_new ?_ ?_); (· (simp; done)); (· rfl)) | (with_reducible refine cell_alloc ?_ _) | ((with_reducible refine cell_set ?_ ?_ _); (· first | (simp; done) | (simp; omega) | omega))))))
    (first | (go_at_call 68; (with_reducible refine (AB _).mono ?_); rintro e w' ⟨rfl, rfl⟩) | (go_at_call 115; (with_reducible refine (RD _).mono ?_); rintro e w' ⟨rfl, n, rfl⟩))
   all_goals
    go_wp2_with fail
    go_ret
    exact ⟨rfl, by (repeat (with_reducible (first | assumption | exact Below.refl _ _ | refine Below.drew ?_ | refine below_drewN ?_ _ | refine below_set ?_ (by simp; try omega) _ | refine below_alloc ?_ (Nat.le_refl _) _ | refine below_sub (by assumption) ?_)))⟩
end Go.Proofs.YtbhpklpkcgcmfaaGreatDoor
/-
  The walks of radii and rates of turn.
-/
namespace Go.Proofs.YtbhpklpkcgcmfaaGreatDoor
open Go.RowKit
set_option linter.unusedVariables false
set_option linter.unusedSimpArgs false
theorem rad_no {v b : Int} (h : ¬ (1 ≤ v ∧ v ≤ 1000 ∧ 1 ≤ b ∧ b ≤ 3000)) : radF v b = (0, 2) ∧ rateF v b = (0, 2) := by unfold radF rateF; rw [if_neg h, if_neg h]; exact ⟨rfl, rfl⟩
theorem rad_yes {v b X E : Int} (h : 1 ≤ v ∧ v ≤ 1000 ∧ 1 ≤ b ∧ b ≤ 3000) (hm : muldiv 1 (v * v * 87431) (Cos (b * 3600)) (1000000 * Sin (b * 3600)) = (X, E)) : radF v b = if E = 0 ∧ X ≤ 8000000 then (X, 0) else (0, 2) := by unfold radF; rw [if_pos h, hm]
theorem sq_in {v : Int} (h1 : 1 ≤ v) (h2 : v ≤ 1000) : 1 ≤ v * v ∧ v * v ≤ 1000000 := by
 have a : 1 * 1 ≤ v * v := Int.mul_le_mul h1 h1 (by omega) (by omega)
 have b : v * v ≤ 1000 * 1000 := Int.mul_le_mul h2 h2 (by omega) (by omega)
 omega
theorem rate_in {v c : Int} (h1 : 1 ≤ v) (h2 : v ≤ 1000) (h3 : -1073741824 ≤ c) (h4 : c ≤ 1073741824) : -93878321611341824 ≤ 87431 * v * c ∧ 87431 * v * c ≤ 93878321611341824 := by
 have := mul_abs_le (x := 87431 * v) (X := 87431000) (v := c) (V := 1073741824) (by omega) ⟨h3, h4⟩
 omega
theorem flies_any (v b : Int) (w : World) :
 Calls Tryz.prog 54 #[.int .i64 v, .int .i64 b] w fun e w' => e = .returned (.bool (decide (1 ≤ v ∧ v ≤ 1000 ∧ 1 ≤ b ∧ b ≤ 3000))) ∧ w = w' := by
 go_enter Tryz.func54, Tryz.ntmps54
 go_wp2
 all_goals
  go_ret
  exact ⟨ret_bool (by rw [Bool.eq_iff_iff]; simp; try omega), rfl⟩
theorem rad_any (v b : Int) (w : World) :
 Calls Tryz.prog 23 #[.int .i64 v, .int .i64 b] w fun e w' => e = .returned (.tuple #[.int .i64 (radF v b).1, .int .i64 (radF v b).2]) ∧ Below w.heap.size w w' := by
 by_cases hin : 1 ≤ v ∧ v ≤ 1000 ∧ 1 ≤ b ∧ b ≤ 3000
 · have FL := fun W => flies_any v b W
   rw [decide_eq_true hin] at FL
   have sb := Sin_bd (b * 3600)
   have cb := Cos_bd (b * 3600)
   have vv := sq_in hin.1 hin.2.1
   have rb := rate_in hin.1 hin.2.1 cb.1 cb.2
   have SC := fun W => Sin_any (b * 3600) (by unfold I64; omega) W
   have CC := fun W => Cos_any (b * 3600) (by unfold I64; omega) W
   have MU := fun W => muldivup_any (v * v * 87431) (Cos (b * 3600)) (1000000 * Sin (b * 3600)) (by unfold I64; omega) (by unfold I64; omega) (by unfold I64; omega) W
   obtain ⟨m, hm⟩ : ∃ m, m = muldiv 1 (v * v * 87431) (Cos (b * 3600)) (1000000 * Sin (b * 3600)) := ⟨_, rfl⟩
   rw [← hm] at MU
   obtain ⟨X, E⟩ := m
   have HR := rad_yes hin hm.symm
   obtain ⟨i1, i2, i3, i4⟩ := hin
   clear hm rb
   generalize radF v b = R at *
   generalize Sin (b * 3600) = s at *
   generalize Cos (b * 3600) = c at *
   by_cases h1 : E = 0
   · by_cases h2 : X ≤ 8000000
     · rw [if_pos ⟨h1, h2⟩] at HR
       subst h1 HR
       go_enter Tryz.func23, Tryz.ntmps23
       go_wp2_with (first | (go_at_call 54; refine (FL _).mono ?_; rintro e w' ⟨rfl, rfl⟩) | (go_at_call 55; refine (SC _).mono ?_; rintro e w' ⟨rfl, rfl⟩) | (go_at_call 56; refine (CC _).mono ?_; rintro e w' ⟨rfl, rfl⟩) | (go_at_call 57; refine (MU _).mono ?_; rintro e w' ⟨rfl, n, rfl⟩))
       go_ret2
       exact ⟨rfl, by (repeat (with_reducible (first | assumption | exact Below.refl _ _ | refine Below.drew ?_ | refine below_drewN ?_ _ | refine below_set ?_ (by simp; try omega) _ | refine below_alloc ?_ (Nat.le_refl _) _ | refine below_sub (by assumption) ?_)))⟩
     · rw [if_neg (fun h => h2 h.2)] at HR
       subst h1 HR
       go_enter Tryz.func23, Tryz.ntmps23
       go_wp2_with (first | (go_at_call 54; refine (FL _).mono ?_; rintro e w' ⟨rfl, rfl⟩) | (go_at_call 55; refine (SC _).mono ?_; rintro e w' ⟨rfl, rfl⟩) | (go_at_call 56; refine (CC _).mono ?_; rintro e w' ⟨rfl, rfl⟩) | (go_at_call 57; refine (MU _).mono ?_; rintro e w' ⟨rfl, n, rfl⟩))
       go_ret2
       exact ⟨rfl, by (repeat (with_reducible (first | assumption | exact Below.refl _ _ | refine Below.drew ?_ | refine below_drewN ?_ _ | refine below_set ?_ (by simp; try omega) _ | refine below_alloc ?_ (Nat.le_refl _) _ | refine below_sub (by assumption) ?_)))⟩
   · rw [if_neg (fun h => h1 h.1)] at HR
     subst HR
     have T : (E != 0) = true := by rw [bne_iff_ne]; exact h1
     clear h1
     go_enter Tryz.func23, Tryz.ntmps23
     go_wp2_with (first | (go_at_call 54; refine (FL _).mono ?_; rintro e w' ⟨rfl, rfl⟩) | (go_at_call 55; refine (SC _).mono ?_; rintro e w' ⟨rfl, rfl⟩) | (go_at_call 56; refine (CC _).mono ?_; rintro e w' ⟨rfl, rfl⟩) | (go_at_call 57; refine (MU _).mono ?_; rintro e w' ⟨rfl, n, rfl⟩))
     go_ret2
     exact ⟨rfl, by (repeat (with_reducible (first | assumption | exact Below.refl _ _ | refine Below.drew ?_ | refine below_drewN ?_ _ | refine below_set ?_ (by simp; try omega) _ | refine below_alloc ?_ (Nat.le_refl _) _ | refine below_sub (by assumption) ?_)))⟩
 · have FL := fun W => flies_any v b W
   rw [decide_eq_false hin] at FL
   rw [(rad_no hin).1]
   clear hin
   go_enter Tryz.func23, Tryz.ntmps23
   go_wp2_with (go_at_call 54; refine (FL _).mono ?_; rintro e w' ⟨rfl, rfl⟩)
   go_ret2
   exact ⟨rfl, Below.refl _ _⟩
end Go.Proofs.YtbhpklpkcgcmfaaGreatDoor
/-
  The walks of At: the point at a length along an arc.
-/
set_option maxRecDepth 100000
set_option maxHeartbeats 16000000
namespace Go.Proofs.YtbhpklpkcgcmfaaGreatDoor
open Go.RowKit
set_option linter.unusedVariables false
set_option linter.unusedSimpArgs false
theorem arcAt_no {cx cy r f s al : Int} (h : arcB cx cy r f s = false) : arcAt cx cy r f s al = (0, 0, 0, 1) := by unfold arcAt; rw [h]; rfl
theorem arcAt_out {cx cy r f s al : Int} (h : arcB cx cy r f s = true) (h2 : al < 0 ∨ al > arcLen cx cy r f s) : arcAt cx cy r f s al = (0, 0, 0, 2) := by unfold arcAt; rw [h, if_neg (by simp), if_pos h2]
theorem arcAt_in {cx cy r f s al X Y E : Int} (h : arcB cx cy r f s = true) (h2 : ¬ (al < 0 ∨ al > arcLen cx cy r f s)) (hr : rayF cx cy (arcDir f s (arcLen cx cy r f s) al) r = (X, Y, E)) :
 arcAt cx cy r f s al = if E = 0 then (X, Y, turnF (arcDir f s (arcLen cx cy r f s) al) (sideOf s 32400000), 0) else (0, 0, 0, 2) := by unfold arcAt; rw [h, if_neg (by simp), if_neg h2, hr]
theorem arcW_in {n s al : Int} (h0 : 0 < n) (h1 : 0 ≤ al) (h2 : al ≤ n) (h3 : n ≤ 60000000) (h4 : (s.natAbs : Int) ≤ 129600000) :
 muldiv 2 al s.natAbs n = (arcW n s al, 0) ∧ 0 ≤ arcW n s al ∧ arcW n s al ≤ 129600000 := by
 have e : arcW n s al = rnd 2 (al * s.natAbs) n := by unfold arcW; rw [if_pos h0]
 have p0 : 0 ≤ al * (s.natAbs : Int) := Int.mul_nonneg h1 (by omega)
 have p1 : al * (s.natAbs : Int) ≤ n * s.natAbs := Int.mul_le_mul_of_nonneg_right h2 (by omega)
 have b : 0 ≤ rnd 2 (al * s.natAbs) n ∧ rnd 2 (al * s.natAbs) n ≤ 129600000 := by
  unfold rnd
  simp only [show (2 : Nat) ≠ 0 from by decide, show (2 : Nat) ≠ 1 from by decide, if_false]
  have f := floor_bd (2 * (al * s.natAbs) + n) (2 * n) (by omega)
  generalize (2 * (al * (s.natAbs : Int)) + n).fdiv (2 * n) = q at *
  constructor
  · apply Classical.byContradiction
    intro hq
    have : (q + 1) * (2 * n) ≤ 0 * (2 * n) := Int.mul_le_mul_of_nonneg_right (by omega) (by omega)
    have e2 : (q + 1) * (2 * n) = q * (2 * n) + 2 * n := by grind
    omega
  · apply Classical.byContradiction
    intro hq
    have h5 : ((s.natAbs : Int) + 1) * (2 * n) ≤ q * (2 * n) := Int.mul_le_mul_of_nonneg_right (by omega) (by omega)
    have e2 : ((s.natAbs : Int) + 1) * (2 * n) = 2 * (n * s.natAbs) + 2 * n := by grind
    omega
 rw [e]
 refine ⟨?_, b⟩
 unfold muldiv
 rw [if_neg (by omega), if_pos]
 unfold in64
 generalize rnd 2 (al * s.natAbs) n = q at *
 exact decide_eq_true (by omega)
theorem arcat_any (cx cy r f s al : Int) (w : World) (R : Int × Int × Int × Int) (hR : R = arcAt cx cy r f s al) :
 Calls Tryz.prog 29 #[.agg #[.int .i64 cx, .int .i64 cy, .int .i64 r, .int .i64 f, .int .i64 s], .int .i64 al] w fun e w' => e = .returned (.tuple #[.agg #[.int .i64 R.1, .int .i64 R.2.1], .int .i64 R.2.2.1, .int .i64 R.2.2.2]) ∧ Below w.heap.size w w' := by
 have TV := fun W => tvalid_any cx cy r f s W
 have TL := fun W => tlen_any cx cy r f s W
 rcases hB : arcB cx cy r f s with _ | _
 · rw [arcAt_no hB] at hR
   rw [hB] at TV
   subst hR
   clear hB
   generalize arcLen cx cy r f s = n at *
   go_enter Tryz.func29, Tryz.ntmps29
   go_wp2_with fail
   refine (TV _).mono ?_
   rintro e w1 ⟨rfl, hb1⟩
   obtain ⟨f1, f2, f3, f4, f5⟩ : w1.cell? ⟨w.heap.size, 0, none⟩ = some (.int .i64 cx) ∧ w1.cell? ⟨w.heap.size, 1, none⟩ = some (.int .i64 cy) ∧ w1.cell? ⟨w.heap.size, 2, none⟩ = some (.int .i64 r) ∧ w1.cell? ⟨w.heap.size, 3, none⟩ = some (.int .i64 f) ∧ w1.cell? ⟨w.heap.size, 4, none⟩ = some (.int .i64 s) := by
    refine ⟨?_, ?_, ?_, ?_, ?_⟩ <;> (refine cell_below hb1 ?_; repeat (first | (with_reducible assumption) | (with_reducible refine cell_drew ?_) | (with_reducible refine cell_drewN ?_ _) | (with_reducible refine cell_below (by assumption) ?_) | ((with_reducible refine cell_new ?_ ?_); (· (simp; done)); (· rfl)) | (with_reducible refine cell_alloc ?_ _) | ((with_reducible refine cell_set ?_ ?_ _); (· first | (simp; done) | (simp; omega) | omega))))
   have zf1 : w.heap.size < w1.heap.size := World.block_lt_of_cell? _ _ f1
   obtain ⟨⟨m6a, m6b⟩, ⟨m7a, m7b⟩⟩ : (w1.cell? ⟨w.heap.size + 1, 0, none⟩ = some (cellV w1 ⟨w.heap.size + 1, 0, none⟩) ∧ w1.frozen? ⟨w.heap.size + 1, 0, none⟩ = false) ∧ (w1.cell? ⟨w.heap.size + 1, 1, none⟩ = some (cellV w1 ⟨w.heap.size + 1, 1, none⟩) ∧ w1.frozen? ⟨w.heap.size + 1, 1, none⟩ = false) := by
    refine ⟨?_, ?_⟩ <;> (refine mine_below hb1 (mine_of (v := .int .i64 0) ?_ ?_) <;> simp [go_sem])
   have zm6 : w.heap.size + 1 < w1.heap.size := World.block_lt_of_cell? _ _ m6a
   go_wp2_with fail
   exact bodyPost_ret (v := .tuple #[.agg #[.int .i64 0, .int .i64 0], .int .i64 0, .int .i64 1]) (by simp [results, Tryz.results29, go_sem, *]) rfl ⟨rfl, by (repeat (with_reducible (first | assumption | exact Below.refl _ _ | refine Below.drew ?_ | refine below_drewN ?_ _ | refine below_set ?_ (by simp; try omega) _ | refine below_alloc ?_ (Nat.le_refl _) _ | refine below_sub (by assumption) ?_)))⟩
 rw [hB] at TV
 have nb := arcLen_bd cx cy r f s
 by_cases ho : al < 0 ∨ al > arcLen cx cy r f s
 · rw [arcAt_out hB ho] at hR
   subst hR
   have T : al < 0 ∨ (¬ al < 0 ∧ al > arcLen cx cy r f s) := by omega
   generalize arcLen cx cy r f s = n at *
   clear ho hB
   rcases T with t1 | ⟨t1, t2⟩
   all_goals
   go_enter Tryz.func29, Tryz.ntmps29
   go_wp2_with fail
   refine (TV _).mono ?_
   rintro e w1 ⟨rfl, hb1⟩
   obtain ⟨f1, f2, f3, f4, f5⟩ : w1.cell? ⟨w.heap.size, 0, none⟩ = some (.int .i64 cx) ∧ w1.cell? ⟨w.heap.size, 1, none⟩ = some (.int .i64 cy) ∧ w1.cell? ⟨w.heap.size, 2, none⟩ = some (.int .i64 r) ∧ w1.cell? ⟨w.heap.size, 3, none⟩ = some (.int .i64 f) ∧ w1.cell? ⟨w.heap.size, 4, none⟩ = some (.int .i64 s) := by
    refine ⟨?_, ?_, ?_, ?_, ?_⟩ <;> (refine cell_below hb1 ?_; repeat (first | (with_reducible assumption) | (with_reducible refine cell_drew ?_) | (with_reducible refine cell_drewN ?_ _) | (with_reducible refine cell_below (by assumption) ?_) | ((with_reducible refine cell_new ?_ ?_); (· (simp; done)); (· rfl)) | (with_reducible refine cell_alloc ?_ _) | ((with_reducible refine cell_set ?_ ?_ _); (· first | (simp; done) | (simp; omega) | omega))))
   have zf1 : w.heap.size < w1.heap.size := World.block_lt_of_cell? _ _ f1
   obtain ⟨⟨m6a, m6b⟩, ⟨m7a, m7b⟩⟩ : (w1.cell? ⟨w.heap.size + 1, 0, none⟩ = some (cellV w1 ⟨w.heap.size + 1, 0, none⟩) ∧ w1.frozen? ⟨w.heap.size + 1, 0, none⟩ = false) ∧ (w1.cell? ⟨w.heap.size + 1, 1, none⟩ = some (cellV w1 ⟨w.heap.size + 1, 1, none⟩) ∧ w1.frozen? ⟨w.heap.size + 1, 1, none⟩ = false) := by
    refine ⟨?_, ?_⟩ <;> (refine mine_below hb1 (mine_of (v := .int .i64 0) ?_ ?_) <;> simp [go_sem])
   have zm6 : w.heap.size + 1 < w1.heap.size := World.block_lt_of_cell? _ _ m6a
   go_wp2_with fail
   refine (TL _).mono ?_
   rintro e w2 ⟨rfl, hb2⟩
   obtain ⟨f8, f9, f10, f11, f12⟩ : w2.cell? ⟨w.heap.size, 0, none⟩ = some (.int .i64 cx) ∧ w2.cell? ⟨w.heap.size, 1, none⟩ = some (.int .i64 cy) ∧ w2.cell? ⟨w.heap.size, 2, none⟩ = some (.int .i64 r) ∧ w2.cell? ⟨w.heap.size, 3, none⟩ = some (.int .i64 f) ∧ w2.cell? ⟨w.heap.size, 4, none⟩ = some (.int .i64 s) := by
    refine ⟨?_, ?_, ?_, ?_, ?_⟩ <;> (refine cell_below hb2 ?_; repeat (first | (with_reducible assumption) | (with_reducible refine cell_drew ?_) | (with_reducible refine cell_drewN ?_ _) | (with_reducible refine cell_below (by assumption) ?_) | ((with_reducible refine cell_new ?_ ?_); (· (simp; done)); (· rfl)) | (with_reducible refine cell_alloc ?_ _) | ((with_reducible refine cell_set ?_ ?_ _); (· first | (simp; done) | (simp; omega) | omega))))
   have zf8 : w.heap.size < w2.heap.size := World.block_lt_of_cell? _ _ f8
   obtain ⟨⟨m13a, m13b⟩, ⟨m14a, m14b⟩⟩ : (w2.cell? ⟨w.heap.size + 1, 0, none⟩ = some (cellV w2 ⟨w.heap.size + 1, 0, none⟩) ∧ w2.frozen? ⟨w.heap.size + 1, 0, none⟩ = false) ∧ (w2.cell? ⟨w.heap.size + 1, 1, none⟩ = some (cellV w2 ⟨w.heap.size + 1, 1, none⟩) ∧ w2.frozen? ⟨w.heap.size + 1, 1, none⟩ = false) := by
    refine ⟨?_, ?_⟩ <;> (refine mine_below hb2 ?_; repeat (first | (with_reducible exact ⟨by assumption, by assumption⟩) | (with_reducible refine mine_drew ?_) | (with_reducible refine mine_drewN ?_ _) | (with_reducible refine mine_below (by assumption) ?_) | ((with_reducible refine mine_new ?_ ?_); (· (simp; done)); (· rfl)) | (with_reducible refine mine_alloc ?_ _) | (with_reducible refine mine_set ?_ _ _)))
   have zm13 : w.heap.size + 1 < w2.heap.size := World.block_lt_of_cell? _ _ m13a
   clear f1 zf1 f2 f3 f4 f5 m6a m6b zm6 m7a m7b
   go_wp2_with fail
   exact bodyPost_ret (v := .tuple #[.agg #[.int .i64 0, .int .i64 0], .int .i64 0, .int .i64 2]) (by simp [results, Tryz.results29, go_sem, *]) rfl ⟨rfl, by (repeat (with_reducible (first | assumption | exact Below.refl _ _ | refine Below.drew ?_ | refine below_drewN ?_ _ | refine below_set ?_ (by simp; try omega) _ | refine below_alloc ?_ (Nat.le_refl _) _ | refine below_sub (by assumption) ?_)))⟩
 obtain ⟨hv, ⟨b1, b2⟩, ⟨b3, b4⟩, b5, b6⟩ := arc_cases hB
 obtain ⟨Y0, hY0⟩ : ∃ Y, Y = rayF cx cy (arcDir f s (arcLen cx cy r f s) al) r := ⟨_, rfl⟩
 obtain ⟨X, Y, E⟩ := Y0
 rw [arcAt_in hB ho hY0.symm] at hR
 have hn : al ≤ arcLen cx cy r f s := by omega
 have h0 : 0 ≤ al := by omega
 clear ho hB
 generalize arcLen cx cy r f s = n at *
 have db : 0 ≤ arcDir f s n al ∧ arcDir f s n al < 129600000 := turnF_bd _ _
 have RY := fun W => ray_any cx cy (arcDir f s n al) r (by unfold I64; omega) (by unfold I64; omega) W _ hY0
 have sq : -32400000 ≤ sideOf s 32400000 ∧ sideOf s 32400000 ≤ 32400000 := by unfold sideOf; split <;> omega
 have wb : 0 ≤ arcW n s al ∧ arcW n s al ≤ 129600000 := by
  by_cases hn0 : 0 < n
  · exact (arcW_in hn0 h0 hn nb.2 (by omega)).2
  · unfold arcW; rw [if_neg hn0]; omega
 have sw : -129600000 ≤ sideOf s (arcW n s al) ∧ sideOf s (arcW n s al) ≤ 129600000 := by unfold sideOf; split <;> omega
 have AB := fun W => abs_any s (by unfold I64; omega) (by omega) W
 have SD := fun W => tside_any cx cy r f s (arcW n s al) (by omega) (by omega) W
 have SQ := fun W => tside_any cx cy r f s 32400000 (by omega) (by omega) W
 have TN := fun W => turn_any f (sideOf s (arcW n s al)) (by unfold I64; omega) (by unfold I64; omega) W
 have TQ := fun W => turn_any (arcDir f s n al) (sideOf s 32400000) (by unfold I64; omega) (by unfold I64; omega) W
 rw [show turnF f (sideOf s (arcW n s al)) = arcDir f s n al from rfl] at TN
 have MM := fun (h : 0 < n) => (arcW_in h h0 hn nb.2 (show (s.natAbs : Int) ≤ 129600000 by omega)).1
 have MD := fun W => muldivround_any al s.natAbs n (by unfold I64; omega) (by unfold I64; omega) (by unfold I64; omega) W
 have W0 : n ≤ 0 → arcW n s al = 0 := fun h => by unfold arcW; rw [if_neg (by omega)]
 clear hY0
 generalize turnF (arcDir f s n al) (sideOf s 32400000) = T at *
 generalize arcDir f s n al = D at *
 generalize (s.natAbs : Int) = a at *
 generalize sideOf s (arcW n s al) = sW at *
 generalize sideOf s 32400000 = sQ at *
 generalize arcW n s al = wW at *
 by_cases hn0 : 0 < n
 · rw [MM hn0] at MD
   clear MM W0
   by_cases hE : E = 0
   · rw [if_pos hE] at hR
     subst hR
     subst hE
     go_enter Tryz.func29, Tryz.ntmps29
     go_wp2_with fail
     refine (TV _).mono ?_
     rintro e w1 ⟨rfl, hb1⟩
     obtain ⟨f1, f2, f3, f4, f5⟩ : w1.cell? ⟨w.heap.size, 0, none⟩ = some (.int .i64 cx) ∧ w1.cell? ⟨w.heap.size, 1, none⟩ = some (.int .i64 cy) ∧ w1.cell? ⟨w.heap.size, 2, none⟩ = some (.int .i64 r) ∧ w1.cell? ⟨w.heap.size, 3, none⟩ = some (.int .i64 f) ∧ w1.cell? ⟨w.heap.size, 4, none⟩ = some (.int .i64 s) := by
      refine ⟨?_, ?_, ?_, ?_, ?_⟩ <;> (refine cell_below hb1 ?_; repeat (first | (with_reducible assumption) | (with_reducible refine cell_drew ?_) | (with_reducible refine cell_drewN ?_ _) | (with_reducible refine cell_below (by assumption) ?_) | ((with_reducible refine cell_new ?_ ?_); (· (simp; done)); (· rfl)) | (with_reducible refine cell_alloc ?_ _) | ((with_reducible refine cell_set ?_ ?_ _); (· first | (simp; done) | (simp; omega) | omega))))
     have zf1 : w.heap.size < w1.heap.size := World.block_lt_of_cell? _ _ f1
     obtain ⟨⟨m6a, m6b⟩, ⟨m7a, m7b⟩⟩ : (w1.cell? ⟨w.heap.size + 1, 0, none⟩ = some (cellV w1 ⟨w.heap.size + 1, 0, none⟩) ∧ w1.frozen? ⟨w.heap.size + 1, 0, none⟩ = false) ∧ (w1.cell? ⟨w.heap.size + 1, 1, none⟩ = some (cellV w1 ⟨w.heap.size + 1, 1, none⟩) ∧ w1.frozen? ⟨w.heap.size + 1, 1, none⟩ = false) := by
      refine ⟨?_, ?_⟩ <;> (refine mine_below hb1 (mine_of (v := .int .i64 0) ?_ ?_) <;> simp [go_sem])
     have zm6 : w.heap.size + 1 < w1.heap.size := World.block_lt_of_cell? _ _ m6a
     go_wp2_with fail
     refine (TL _).mono ?_
     rintro e w2 ⟨rfl, hb2⟩
     obtain ⟨f8, f9, f10, f11, f12⟩ : w2.cell? ⟨w.heap.size, 0, none⟩ = some (.int .i64 cx) ∧ w2.cell? ⟨w.heap.size, 1, none⟩ = some (.int .i64 cy) ∧ w2.cell? ⟨w.heap.size, 2, none⟩ = some (.int .i64 r) ∧ w2.cell? ⟨w.heap.size, 3, none⟩ = some (.int .i64 f) ∧ w2.cell? ⟨w.heap.size, 4, none⟩ = some (.int .i64 s) := by
      refine ⟨?_, ?_, ?_, ?_, ?_⟩ <;> (refine cell_below hb2 ?_; repeat (first | (with_reducible assumption) | (with_reducible refine cell_drew ?_) | (with_reducible refine cell_drewN ?_ _) | (with_reducible refine cell_below (by assumption) ?_) | ((with_reducible refine cell_new ?_ ?_); (· (simp; done)); (· rfl)) | (with_reducible refine cell_alloc ?_ _) | ((with_reducible refine cell_set ?_ ?_ _); (· first | (simp; done) | (simp; omega) | omega))))
     have zf8 : w.heap.size < w2.heap.size := World.block_lt_of_cell? _ _ f8
     obtain ⟨⟨m13a, m13b⟩, ⟨m14a, m14b⟩⟩ : (w2.cell? ⟨w.heap.size + 1, 0, none⟩ = some (cellV w2 ⟨w.heap.size + 1, 0, none⟩) ∧ w2.frozen? ⟨w.heap.size + 1, 0, none⟩ = false) ∧ (w2.cell? ⟨w.heap.size + 1, 1, none⟩ = some (cellV w2 ⟨w.heap.size + 1, 1, none⟩) ∧ w2.frozen? ⟨w.heap.size + 1, 1, none⟩ = false) := by
      refine ⟨?_, ?_⟩ <;> (refine mine_below hb2 ?_; repeat (first | (with_reducible exact ⟨by assumption, by assumption⟩) | (with_reducible refine mine_drew ?_) | (with_reducible refine mine_drewN ?_ _) | (with_reducible refine mine_below (by assumption) ?_) | ((with_reducible refine mine_new ?_ ?_); (· (simp; done)); (· rfl)) | (with_reducible refine mine_alloc ?_ _) | (with_reducible refine mine_set ?_ _ _)))
     have zm13 : w.heap.size + 1 < w2.heap.size := World.block_lt_of_cell? _ _ m13a
     clear f1 zf1 f2 f3 f4 f5 m6a m6b zm6 m7a m7b
     go_wp2_with (first | (go_at_call 68; refine (AB _).mono ?_; rintro e w' ⟨rfl, rfl⟩) | (go_at_call 30; refine (MD _).mono ?_; rintro e w' ⟨rfl, n1, rfl⟩))
     go_region_held3 (fun w' => w'.cell? ⟨w.heap.size, 0, none⟩ = some (.int .i64 cx) ∧ w'.cell? ⟨w.heap.size, 1, none⟩ = some (.int .i64 cy) ∧ w'.cell? ⟨w.heap.size, 2, none⟩ = some (.int .i64 r) ∧ w'.cell? ⟨w.heap.size, 3, none⟩ = some (.int .i64 f) ∧ w'.cell? ⟨w.heap.size, 4, none⟩ = some (.int .i64 s)) ((go_split_ands; refine ⟨?_, ?_, ?_, ?_, ?_⟩ <;> (repeat (first | (with_reducible assumption) | (with_reducible refine cell_drew ?_) | (with_reducible refine cell_drewN ?_ _) | (with_reducible refine cell_below (by assumption) ?_) | ((with_reducible refine cell_new ?_ ?_); (· (simp; done)); (· rfl)) | (with_reducible refine cell_alloc ?_ _) | ((with_reducible refine cell_set ?_ ?_ _); (· first | (simp; done) | (simp; omega) | omega))))))
      (first | (go_at_call 70; (with_reducible refine (SD _).mono ?_); rintro e w' ⟨rfl, hb'⟩) | (go_at_call 69; (with_reducible refine (TN _).mono ?_); rintro e w' ⟨rfl, rfl⟩))
     rename_i hH
     obtain ⟨f15, f16, f17, f18, f19⟩ := hH
     have zf15 : w.heap.size < w'.heap.size := World.block_lt_of_cell? _ _ f15
     clear f8 zf8 f9 f10 f11 f12
     obtain ⟨u0a, u0b⟩ : w'.cell? ⟨w.heap.size + 1, 0, none⟩ = some (cellV w' ⟨w.heap.size + 1, 0, none⟩) ∧ w'.frozen? ⟨w.heap.size + 1, 0, none⟩ = false := by (repeat (first | (with_reducible exact ⟨by assumption, by assumption⟩) | (with_reducible refine mine_drew ?_) | (with_reducible refine mine_drewN ?_ _) | (with_reducible refine mine_below (by assumption) ?_) | ((with_reducible refine mine_new ?_ ?_); (· (simp; done)); (· rfl)) | (with_reducible refine mine_alloc ?_ _) | (with_reducible refine mine_set ?_ _ _)))
     obtain ⟨u1a, u1b⟩ : w'.cell? ⟨w.heap.size + 1, 1, none⟩ = some (cellV w' ⟨w.heap.size + 1, 1, none⟩) ∧ w'.frozen? ⟨w.heap.size + 1, 1, none⟩ = false := by (repeat (first | (with_reducible exact ⟨by assumption, by assumption⟩) | (with_reducible refine mine_drew ?_) | (with_reducible refine mine_drewN ?_ _) | (with_reducible refine mine_below (by assumption) ?_) | ((with_reducible refine mine_new ?_ ?_); (· (simp; done)); (· rfl)) | (with_reducible refine mine_alloc ?_ _) | (with_reducible refine mine_set ?_ _ _)))
     clear m13a m13b zm13
     clear m14a m14b
     have zu : w.heap.size + 1 < w'.heap.size := World.block_lt_of_cell? _ _ u0a
     go_wp2_with fail
     refine (RY _).mono ?_
     rintro e w3 ⟨rfl, hb3⟩
     obtain ⟨f20, f21, f22, f23, f24⟩ : w3.cell? ⟨w.heap.size, 0, none⟩ = some (.int .i64 cx) ∧ w3.cell? ⟨w.heap.size, 1, none⟩ = some (.int .i64 cy) ∧ w3.cell? ⟨w.heap.size, 2, none⟩ = some (.int .i64 r) ∧ w3.cell? ⟨w.heap.size, 3, none⟩ = some (.int .i64 f) ∧ w3.cell? ⟨w.heap.size, 4, none⟩ = some (.int .i64 s) := by
      refine ⟨?_, ?_, ?_, ?_, ?_⟩ <;> (refine cell_below hb3 ?_; repeat (first | (with_reducible assumption) | (with_reducible refine cell_drew ?_) | (with_reducible refine cell_drewN ?_ _) | (with_reducible refine cell_below (by assumption) ?_) | ((with_reducible refine cell_new ?_ ?_); (· (simp; done)); (· rfl)) | (with_reducible refine cell_alloc ?_ _) | ((with_reducible refine cell_set ?_ ?_ _); (· first | (simp; done) | (simp; omega) | omega))))
     have zf20 : w.heap.size < w3.heap.size := World.block_lt_of_cell? _ _ f20
     obtain ⟨⟨m25a, m25b⟩, ⟨m26a, m26b⟩⟩ : (w3.cell? ⟨w.heap.size + 1, 0, none⟩ = some (cellV w3 ⟨w.heap.size + 1, 0, none⟩) ∧ w3.frozen? ⟨w.heap.size + 1, 0, none⟩ = false) ∧ (w3.cell? ⟨w.heap.size + 1, 1, none⟩ = some (cellV w3 ⟨w.heap.size + 1, 1, none⟩) ∧ w3.frozen? ⟨w.heap.size + 1, 1, none⟩ = false) := by
      refine ⟨?_, ?_⟩ <;> (refine mine_below hb3 ?_; repeat (first | (with_reducible exact ⟨by assumption, by assumption⟩) | (with_reducible refine mine_drew ?_) | (with_reducible refine mine_drewN ?_ _) | (with_reducible refine mine_below (by assumption) ?_) | ((with_reducible refine mine_new ?_ ?_); (· (simp; done)); (· rfl)) | (with_reducible refine mine_alloc ?_ _) | (with_reducible refine mine_set ?_ _ _)))
     have zm25 : w.heap.size + 1 < w3.heap.size := World.block_lt_of_cell? _ _ m25a
     clear f15 zf15 f16 f17 f18 f19 u0a u0b zu u1a u1b
     go_wp2_with fail
     go_region_held3 (fun w' => w'.cell? ⟨w.heap.size, 0, none⟩ = some (.int .i64 cx) ∧ w'.cell? ⟨w.heap.size, 1, none⟩ = some (.int .i64 cy) ∧ w'.cell? ⟨w.heap.size, 2, none⟩ = some (.int .i64 r) ∧ w'.cell? ⟨w.heap.size, 3, none⟩ = some (.int .i64 f) ∧ w'.cell? ⟨w.heap.size, 4, none⟩ = some (.int .i64 s) ∧ w'.cell? ⟨w3.heap.size, 0, none⟩ = some (.int .i64 X) ∧ w'.cell? ⟨w3.heap.size, 1, none⟩ = some (.int .i64 Y) ∧ (w'.cell? ⟨w.heap.size + 1, 0, none⟩ = some (cellV w' ⟨w.heap.size + 1, 0, none⟩) ∧ w'.frozen? ⟨w.heap.size + 1, 0, none⟩ = false) ∧ (w'.cell? ⟨w.heap.size + 1, 1, none⟩ = some (cellV w' ⟨w.heap.size + 1, 1, none⟩) ∧ w'.frozen? ⟨w.heap.size + 1, 1, none⟩ = false)) ((go_split_ands; refine ⟨?_, ?_, ?_, ?_, ?_, ?_, ?_, ?_, ?_⟩ <;> (first | ((repeat (first | (with_reducible assumption) | (with_reducible refine cell_drew ?_) | (with_reducible refine cell_drewN ?_ _) | (with_reducible refine cell_below (by assumption) ?_) | ((with_reducible refine cell_new ?_ ?_); (· (simp; done)); (· rfl)) | (with_reducible refine cell_alloc ?_ _) | ((with_reducible refine cell_set ?_ ?_ _); (· first | (simp; done) | (simp; omega) | omega)))); done) | (repeat (first | (with_reducible exact ⟨by assumption, by assumption⟩) | (with_reducible refine mine_drew ?_) | (with_reducible refine mine_drewN ?_ _) | (with_reducible refine mine_below (by assumption) ?_) | ((with_reducible refine mine_new ?_ ?_); (· (simp; done)); (· rfl)) | (with_reducible refine mine_alloc ?_ _) | (with_reducible refine mine_set ?_ _ _))))))
      (first | (go_at_call 70; (with_reducible refine (SQ _).mono ?_); rintro e w' ⟨rfl, hb'⟩) | (go_at_call 69; (with_reducible refine (TQ _).mono ?_); rintro e w' ⟨rfl, rfl⟩))
     rename_i hH
     clear hH
     obtain ⟨q0, q0'⟩ : w'.cell? ⟨w.heap.size + 1, 0, none⟩ = some (cellV w' ⟨w.heap.size + 1, 0, none⟩) ∧ w'.frozen? ⟨w.heap.size + 1, 0, none⟩ = false := by (repeat (first | (with_reducible exact ⟨by assumption, by assumption⟩) | (with_reducible refine mine_drew ?_) | (with_reducible refine mine_drewN ?_ _) | (with_reducible refine mine_below (by assumption) ?_) | ((with_reducible refine mine_new ?_ ?_); (· (simp; done)); (· rfl)) | (with_reducible refine mine_alloc ?_ _) | (with_reducible refine mine_set ?_ _ _)))
     obtain ⟨q1, q1'⟩ : w'.cell? ⟨w.heap.size + 1, 1, none⟩ = some (cellV w' ⟨w.heap.size + 1, 1, none⟩) ∧ w'.frozen? ⟨w.heap.size + 1, 1, none⟩ = false := by (repeat (first | (with_reducible exact ⟨by assumption, by assumption⟩) | (with_reducible refine mine_drew ?_) | (with_reducible refine mine_drewN ?_ _) | (with_reducible refine mine_below (by assumption) ?_) | ((with_reducible refine mine_new ?_ ?_); (· (simp; done)); (· rfl)) | (with_reducible refine mine_alloc ?_ _) | (with_reducible refine mine_set ?_ _ _)))
     go_wp2_with fail
     exact bodyPost_ret (v := .tuple #[.agg #[.int .i64 X, .int .i64 Y], .int .i64 T, .int .i64 0]) (by simp [results, Tryz.results29, go_sem, *]) rfl ⟨rfl, by (repeat (with_reducible (first | assumption | exact Below.refl _ _ | refine Below.drew ?_ | refine below_drewN ?_ _ | refine below_set ?_ (by simp; try omega) _ | refine below_alloc ?_ (Nat.le_refl _) _ | refine below_sub (by assumption) ?_)))⟩
   · rw [if_neg hE] at hR
     subst hR
     have T2 : (E != 0) = true := by rw [bne_iff_ne]; exact hE
     clear hE
     go_enter Tryz.func29, Tryz.ntmps29
     go_wp2_with fail
     refine (TV _).mono ?_
     rintro e w1 ⟨rfl, hb1⟩
     obtain ⟨f1, f2, f3, f4, f5⟩ : w1.cell? ⟨w.heap.size, 0, none⟩ = some (.int .i64 cx) ∧ w1.cell? ⟨w.heap.size, 1, none⟩ = some (.int .i64 cy) ∧ w1.cell? ⟨w.heap.size, 2, none⟩ = some (.int .i64 r) ∧ w1.cell? ⟨w.heap.size, 3, none⟩ = some (.int .i64 f) ∧ w1.cell? ⟨w.heap.size, 4, none⟩ = some (.int .i64 s) := by
      refine ⟨?_, ?_, ?_, ?_, ?_⟩ <;> (refine cell_below hb1 ?_; repeat (first | (with_reducible assumption) | (with_reducible refine cell_drew ?_) | (with_reducible refine cell_drewN ?_ _) | (with_reducible refine cell_below (by assumption) ?_) | ((with_reducible refine cell_new ?_ ?_); (· (simp; done)); (· rfl)) | (with_reducible refine cell_alloc ?_ _) | ((with_reducible refine cell_set ?_ ?_ _); (· first | (simp; done) | (simp; omega) | omega))))
     have zf1 : w.heap.size < w1.heap.size := World.block_lt_of_cell? _ _ f1
     obtain ⟨⟨m6a, m6b⟩, ⟨m7a, m7b⟩⟩ : (w1.cell? ⟨w.heap.size + 1, 0, none⟩ = some (cellV w1 ⟨w.heap.size + 1, 0, none⟩) ∧ w1.frozen? ⟨w.heap.size + 1, 0, none⟩ = false) ∧ (w1.cell? ⟨w.heap.size + 1, 1, none⟩ = some (cellV w1 ⟨w.heap.size + 1, 1, none⟩) ∧ w1.frozen? ⟨w.heap.size + 1, 1, none⟩ = false) := by
      refine ⟨?_, ?_⟩ <;> (refine mine_below hb1 (mine_of (v := .int .i64 0) ?_ ?_) <;> simp [go_sem])
     have zm6 : w.heap.size + 1 < w1.heap.size := World.block_lt_of_cell? _ _ m6a
     go_wp2_with fail
     refine (TL _).mono ?_
     rintro e w2 ⟨rfl, hb2⟩
     obtain ⟨f8, f9, f10, f11, f12⟩ : w2.cell? ⟨w.heap.size, 0, none⟩ = some (.int .i64 cx) ∧ w2.cell? ⟨w.heap.size, 1, none⟩ = some (.int .i64 cy) ∧ w2.cell? ⟨w.heap.size, 2, none⟩ = some (.int .i64 r) ∧ w2.cell? ⟨w.heap.size, 3, none⟩ = some (.int .i64 f) ∧ w2.cell? ⟨w.heap.size, 4, none⟩ = some (.int .i64 s) := by
      refine ⟨?_, ?_, ?_, ?_, ?_⟩ <;> (refine cell_below hb2 ?_; repeat (first | (with_reducible assumption) | (with_reducible refine cell_drew ?_) | (with_reducible refine cell_drewN ?_ _) | (with_reducible refine cell_below (by assumption) ?_) | ((with_reducible refine cell_new ?_ ?_); (· (simp; done)); (· rfl)) | (with_reducible refine cell_alloc ?_ _) | ((with_reducible refine cell_set ?_ ?_ _); (· first | (simp; done) | (simp; omega) | omega))))
     have zf8 : w.heap.size < w2.heap.size := World.block_lt_of_cell? _ _ f8
     obtain ⟨⟨m13a, m13b⟩, ⟨m14a, m14b⟩⟩ : (w2.cell? ⟨w.heap.size + 1, 0, none⟩ = some (cellV w2 ⟨w.heap.size + 1, 0, none⟩) ∧ w2.frozen? ⟨w.heap.size + 1, 0, none⟩ = false) ∧ (w2.cell? ⟨w.heap.size + 1, 1, none⟩ = some (cellV w2 ⟨w.heap.size + 1, 1, none⟩) ∧ w2.frozen? ⟨w.heap.size + 1, 1, none⟩ = false) := by
      refine ⟨?_, ?_⟩ <;> (refine mine_below hb2 ?_; repeat (first | (with_reducible exact ⟨by assumption, by assumption⟩) | (with_reducible refine mine_drew ?_) | (with_reducible refine mine_drewN ?_ _) | (with_reducible refine mine_below (by assumption) ?_) | ((with_reducible refine mine_new ?_ ?_); (· (simp; done)); (· rfl)) | (with_reducible refine mine_alloc ?_ _) | (with_reducible refine mine_set ?_ _ _)))
     have zm13 : w.heap.size + 1 < w2.heap.size := World.block_lt_of_cell? _ _ m13a
     clear f1 zf1 f2 f3 f4 f5 m6a m6b zm6 m7a m7b
     go_wp2_with (first | (go_at_call 68; refine (AB _).mono ?_; rintro e w' ⟨rfl, rfl⟩) | (go_at_call 30; refine (MD _).mono ?_; rintro e w' ⟨rfl, n1, rfl⟩))
     go_region_held3 (fun w' => w'.cell? ⟨w.heap.size, 0, none⟩ = some (.int .i64 cx) ∧ w'.cell? ⟨w.heap.size, 1, none⟩ = some (.int .i64 cy) ∧ w'.cell? ⟨w.heap.size, 2, none⟩ = some (.int .i64 r) ∧ w'.cell? ⟨w.heap.size, 3, none⟩ = some (.int .i64 f) ∧ w'.cell? ⟨w.heap.size, 4, none⟩ = some (.int .i64 s)) ((go_split_ands; refine ⟨?_, ?_, ?_, ?_, ?_⟩ <;> (repeat (first | (with_reducible assumption) | (with_reducible refine cell_drew ?_) | (with_reducible refine cell_drewN ?_ _) | (with_reducible refine cell_below (by assumption) ?_) | ((with_reducible refine cell_new ?_ ?_); (· (simp; done)); (· rfl)) | (with_reducible refine cell_alloc ?_ _) | ((with_reducible refine cell_set ?_ ?_ _); (· first | (simp; done) | (simp; omega) | omega))))))
      (first | (go_at_call 70; (with_reducible refine (SD _).mono ?_); rintro e w' ⟨rfl, hb'⟩) | (go_at_call 69; (with_reducible refine (TN _).mono ?_); rintro e w' ⟨rfl, rfl⟩))
     rename_i hH
     obtain ⟨f15, f16, f17, f18, f19⟩ := hH
     have zf15 : w.heap.size < w'.heap.size := World.block_lt_of_cell? _ _ f15
     clear f8 zf8 f9 f10 f11 f12
     obtain ⟨u0a, u0b⟩ : w'.cell? ⟨w.heap.size + 1, 0, none⟩ = some (cellV w' ⟨w.heap.size + 1, 0, none⟩) ∧ w'.frozen? ⟨w.heap.size + 1, 0, none⟩ = false := by (repeat (first | (with_reducible exact ⟨by assumption, by assumption⟩) | (with_reducible refine mine_drew ?_) | (with_reducible refine mine_drewN ?_ _) | (with_reducible refine mine_below (by assumption) ?_) | ((with_reducible refine mine_new ?_ ?_); (· (simp; done)); (· rfl)) | (with_reducible refine mine_alloc ?_ _) | (with_reducible refine mine_set ?_ _ _)))
     obtain ⟨u1a, u1b⟩ : w'.cell? ⟨w.heap.size + 1, 1, none⟩ = some (cellV w' ⟨w.heap.size + 1, 1, none⟩) ∧ w'.frozen? ⟨w.heap.size + 1, 1, none⟩ = false := by (repeat (first | (with_reducible exact ⟨by assumption, by assumption⟩) | (with_reducible refine mine_drew ?_) | (with_reducible refine mine_drewN ?_ _) | (with_reducible refine mine_below (by assumption) ?_) | ((with_reducible refine mine_new ?_ ?_); (· (simp; done)); (· rfl)) | (with_reducible refine mine_alloc ?_ _) | (with_reducible refine mine_set ?_ _ _)))
     clear m13a m13b zm13
     clear m14a m14b
     have zu : w.heap.size + 1 < w'.heap.size := World.block_lt_of_cell? _ _ u0a
     go_wp2_with fail
     refine (RY _).mono ?_
     rintro e w3 ⟨rfl, hb3⟩
     obtain ⟨f20, f21, f22, f23, f24⟩ : w3.cell? ⟨w.heap.size, 0, none⟩ = some (.int .i64 cx) ∧ w3.cell? ⟨w.heap.size, 1, none⟩ = some (.int .i64 cy) ∧ w3.cell? ⟨w.heap.size, 2, none⟩ = some (.int .i64 r) ∧ w3.cell? ⟨w.heap.size, 3, none⟩ = some (.int .i64 f) ∧ w3.cell? ⟨w.heap.size, 4, none⟩ = some (.int .i64 s) := by
      refine ⟨?_, ?_, ?_, ?_, ?_⟩ <;> (refine cell_below hb3 ?_; repeat (first | (with_reducible assumption) | (with_reducible refine cell_drew ?_) | (with_reducible refine cell_drewN ?_ _) | (with_reducible refine cell_below (by assumption) ?_) | ((with_reducible refine cell_new ?_ ?_); (· (simp; done)); (· rfl)) | (with_reducible refine cell_alloc ?_ _) | ((with_reducible refine cell_set ?_ ?_ _); (· first | (simp; done) | (simp; omega) | omega))))
     have zf20 : w.heap.size < w3.heap.size := World.block_lt_of_cell? _ _ f20
     obtain ⟨⟨m25a, m25b⟩, ⟨m26a, m26b⟩⟩ : (w3.cell? ⟨w.heap.size + 1, 0, none⟩ = some (cellV w3 ⟨w.heap.size + 1, 0, none⟩) ∧ w3.frozen? ⟨w.heap.size + 1, 0, none⟩ = false) ∧ (w3.cell? ⟨w.heap.size + 1, 1, none⟩ = some (cellV w3 ⟨w.heap.size + 1, 1, none⟩) ∧ w3.frozen? ⟨w.heap.size + 1, 1, none⟩ = false) := by
      refine ⟨?_, ?_⟩ <;> (refine mine_below hb3 ?_; repeat (first | (with_reducible exact ⟨by assumption, by assumption⟩) | (with_reducible refine mine_drew ?_) | (with_reducible refine mine_drewN ?_ _) | (with_reducible refine mine_below (by assumption) ?_) | ((with_reducible refine mine_new ?_ ?_); (· (simp; done)); (· rfl)) | (with_reducible refine mine_alloc ?_ _) | (with_reducible refine mine_set ?_ _ _)))
     have zm25 : w.heap.size + 1 < w3.heap.size := World.block_lt_of_cell? _ _ m25a
     clear f15 zf15 f16 f17 f18 f19 u0a u0b zu u1a u1b
     go_wp2_with fail
     exact bodyPost_ret (v := .tuple #[.agg #[.int .i64 0, .int .i64 0], .int .i64 0, .int .i64 2]) (by simp [results, Tryz.results29, go_sem, *]) rfl ⟨rfl, by (repeat (with_reducible (first | assumption | exact Below.refl _ _ | refine Below.drew ?_ | refine below_drewN ?_ _ | refine below_set ?_ (by simp; try omega) _ | refine below_alloc ?_ (Nat.le_refl _) _ | refine below_sub (by assumption) ?_)))⟩
 · obtain rfl : wW = 0 := W0 (by omega)
   clear MM W0 MD
   by_cases hE : E = 0
   · rw [if_pos hE] at hR
     subst hR
     subst hE
     go_enter Tryz.func29, Tryz.ntmps29
     go_wp2_with fail
     refine (TV _).mono ?_
     rintro e w1 ⟨rfl, hb1⟩
     obtain ⟨f1, f2, f3, f4, f5⟩ : w1.cell? ⟨w.heap.size, 0, none⟩ = some (.int .i64 cx) ∧ w1.cell? ⟨w.heap.size, 1, none⟩ = some (.int .i64 cy) ∧ w1.cell? ⟨w.heap.size, 2, none⟩ = some (.int .i64 r) ∧ w1.cell? ⟨w.heap.size, 3, none⟩ = some (.int .i64 f) ∧ w1.cell? ⟨w.heap.size, 4, none⟩ = some (.int .i64 s) := by
      refine ⟨?_, ?_, ?_, ?_, ?_⟩ <;> (refine cell_below hb1 ?_; repeat (first | (with_reducible assumption) | (with_reducible refine cell_drew ?_) | (with_reducible refine cell_drewN ?_ _) | (with_reducible refine cell_below (by assumption) ?_) | ((with_reducible refine cell_new ?_ ?_); (· (simp; done)); (· rfl)) | (with_reducible refine cell_alloc ?_ _) | ((with_reducible refine cell_set ?_ ?_ _); (· first | (simp; done) | (simp; omega) | omega))))
     have zf1 : w.heap.size < w1.heap.size := World.block_lt_of_cell? _ _ f1
     obtain ⟨⟨m6a, m6b⟩, ⟨m7a, m7b⟩⟩ : (w1.cell? ⟨w.heap.size + 1, 0, none⟩ = some (cellV w1 ⟨w.heap.size + 1, 0, none⟩) ∧ w1.frozen? ⟨w.heap.size + 1, 0, none⟩ = false) ∧ (w1.cell? ⟨w.heap.size + 1, 1, none⟩ = some (cellV w1 ⟨w.heap.size + 1, 1, none⟩) ∧ w1.frozen? ⟨w.heap.size + 1, 1, none⟩ = false) := by
      refine ⟨?_, ?_⟩ <;> (refine mine_below hb1 (mine_of (v := .int .i64 0) ?_ ?_) <;> simp [go_sem])
     have zm6 : w.heap.size + 1 < w1.heap.size := World.block_lt_of_cell? _ _ m6a
     go_wp2_with fail
     refine (TL _).mono ?_
     rintro e w2 ⟨rfl, hb2⟩
     obtain ⟨f8, f9, f10, f11, f12⟩ : w2.cell? ⟨w.heap.size, 0, none⟩ = some (.int .i64 cx) ∧ w2.cell? ⟨w.heap.size, 1, none⟩ = some (.int .i64 cy) ∧ w2.cell? ⟨w.heap.size, 2, none⟩ = some (.int .i64 r) ∧ w2.cell? ⟨w.heap.size, 3, none⟩ = some (.int .i64 f) ∧ w2.cell? ⟨w.heap.size, 4, none⟩ = some (.int .i64 s) := by
      refine ⟨?_, ?_, ?_, ?_, ?_⟩ <;> (refine cell_below hb2 ?_; repeat (first | (with_reducible assumption) | (with_reducible refine cell_drew ?_) | (with_reducible refine cell_drewN ?_ _) | (with_reducible refine cell_below (by assumption) ?_) | ((with_reducible refine cell_new ?_ ?_); (· (simp; done)); (· rfl)) | (with_reducible refine cell_alloc ?_ _) | ((with_reducible refine cell_set ?_ ?_ _); (· first | (simp; done) | (simp; omega) | omega))))
     have zf8 : w.heap.size < w2.heap.size := World.block_lt_of_cell? _ _ f8
     obtain ⟨⟨m13a, m13b⟩, ⟨m14a, m14b⟩⟩ : (w2.cell? ⟨w.heap.size + 1, 0, none⟩ = some (cellV w2 ⟨w.heap.size + 1, 0, none⟩) ∧ w2.frozen? ⟨w.heap.size + 1, 0, none⟩ = false) ∧ (w2.cell? ⟨w.heap.size + 1, 1, none⟩ = some (cellV w2 ⟨w.heap.size + 1, 1, none⟩) ∧ w2.frozen? ⟨w.heap.size + 1, 1, none⟩ = false) := by
      refine ⟨?_, ?_⟩ <;> (refine mine_below hb2 ?_; repeat (first | (with_reducible exact ⟨by assumption, by assumption⟩) | (with_reducible refine mine_drew ?_) | (with_reducible refine mine_drewN ?_ _) | (with_reducible refine mine_below (by assumption) ?_) | ((with_reducible refine mine_new ?_ ?_); (· (simp; done)); (· rfl)) | (with_reducible refine mine_alloc ?_ _) | (with_reducible refine mine_set ?_ _ _)))
     have zm13 : w.heap.size + 1 < w2.heap.size := World.block_lt_of_cell? _ _ m13a
     clear f1 zf1 f2 f3 f4 f5 m6a m6b zm6 m7a m7b
     go_wp2_with fail
     go_region_held3 (fun w' => w'.cell? ⟨w.heap.size, 0, none⟩ = some (.int .i64 cx) ∧ w'.cell? ⟨w.heap.size, 1, none⟩ = some (.int .i64 cy) ∧ w'.cell? ⟨w.heap.size, 2, none⟩ = some (.int .i64 r) ∧ w'.cell? ⟨w.heap.size, 3, none⟩ = some (.int .i64 f) ∧ w'.cell? ⟨w.heap.size, 4, none⟩ = some (.int .i64 s)) ((go_split_ands; refine ⟨?_, ?_, ?_, ?_, ?_⟩ <;> (repeat (first | (with_reducible assumption) | (with_reducible refine cell_drew ?_) | (with_reducible refine cell_drewN ?_ _) | (with_reducible refine cell_below (by assumption) ?_) | ((with_reducible refine cell_new ?_ ?_); (· (simp; done)); (· rfl)) | (with_reducible refine cell_alloc ?_ _) | ((with_reducible refine cell_set ?_ ?_ _); (· first | (simp; done) | (simp; omega) | omega))))))
      (first | (go_at_call 70; (with_reducible refine (SD _).mono ?_); rintro e w' ⟨rfl, hb'⟩) | (go_at_call 69; (with_reducible refine (TN _).mono ?_); rintro e w' ⟨rfl, rfl⟩))
     rename_i hH
     obtain ⟨f15, f16, f17, f18, f19⟩ := hH
     have zf15 : w.heap.size < w'.heap.size := World.block_lt_of_cell? _ _ f15
     clear f8 zf8 f9 f10 f11 f12
     obtain ⟨u0a, u0b⟩ : w'.cell? ⟨w.heap.size + 1, 0, none⟩ = some (cellV w' ⟨w.heap.size + 1, 0, none⟩) ∧ w'.frozen? ⟨w.heap.size + 1, 0, none⟩ = false := by (repeat (first | (with_reducible exact ⟨by assumption, by assumption⟩) | (with_reducible refine mine_drew ?_) | (with_reducible refine mine_drewN ?_ _) | (with_reducible refine mine_below (by assumption) ?_) | ((with_reducible refine mine_new ?_ ?_); (· (simp; done)); (· rfl)) | (with_reducible refine mine_alloc ?_ _) | (with_reducible refine mine_set ?_ _ _)))
     obtain ⟨u1a, u1b⟩ : w'.cell? ⟨w.heap.size + 1, 1, none⟩ = some (cellV w' ⟨w.heap.size + 1, 1, none⟩) ∧ w'.frozen? ⟨w.heap.size + 1, 1, none⟩ = false := by (repeat (first | (with_reducible exact ⟨by assumption, by assumption⟩) | (with_reducible refine mine_drew ?_) | (with_reducible refine mine_drewN ?_ _) | (with_reducible refine mine_below (by assumption) ?_) | ((with_reducible refine mine_new ?_ ?_); (· (simp; done)); (· rfl)) | (with_reducible refine mine_alloc ?_ _) | (with_reducible refine mine_set ?_ _ _)))
     clear m13a m13b zm13
     clear m14a m14b
     have zu : w.heap.size + 1 < w'.heap.size := World.block_lt_of_cell? _ _ u0a
     go_wp2_with fail
     refine (RY _).mono ?_
     rintro e w3 ⟨rfl, hb3⟩
     obtain ⟨f20, f21, f22, f23, f24⟩ : w3.cell? ⟨w.heap.size, 0, none⟩ = some (.int .i64 cx) ∧ w3.cell? ⟨w.heap.size, 1, none⟩ = some (.int .i64 cy) ∧ w3.cell? ⟨w.heap.size, 2, none⟩ = some (.int .i64 r) ∧ w3.cell? ⟨w.heap.size, 3, none⟩ = some (.int .i64 f) ∧ w3.cell? ⟨w.heap.size, 4, none⟩ = some (.int .i64 s) := by
      refine ⟨?_, ?_, ?_, ?_, ?_⟩ <;> (refine cell_below hb3 ?_; repeat (first | (with_reducible assumption) | (with_reducible refine cell_drew ?_) | (with_reducible refine cell_drewN ?_ _) | (with_reducible refine cell_below (by assumption) ?_) | ((with_reducible refine cell_new ?_ ?_); (· (simp; done)); (· rfl)) | (with_reducible refine cell_alloc ?_ _) | ((with_reducible refine cell_set ?_ ?_ _); (· first | (simp; done) | (simp; omega) | omega))))
     have zf20 : w.heap.size < w3.heap.size := World.block_lt_of_cell? _ _ f20
     obtain ⟨⟨m25a, m25b⟩, ⟨m26a, m26b⟩⟩ : (w3.cell? ⟨w.heap.size + 1, 0, none⟩ = some (cellV w3 ⟨w.heap.size + 1, 0, none⟩) ∧ w3.frozen? ⟨w.heap.size + 1, 0, none⟩ = false) ∧ (w3.cell? ⟨w.heap.size + 1, 1, none⟩ = some (cellV w3 ⟨w.heap.size + 1, 1, none⟩) ∧ w3.frozen? ⟨w.heap.size + 1, 1, none⟩ = false) := by
      refine ⟨?_, ?_⟩ <;> (refine mine_below hb3 ?_; repeat (first | (with_reducible exact ⟨by assumption, by assumption⟩) | (with_reducible refine mine_drew ?_) | (with_reducible refine mine_drewN ?_ _) | (with_reducible refine mine_below (by assumption) ?_) | ((with_reducible refine mine_new ?_ ?_); (· (simp; done)); (· rfl)) | (with_reducible refine mine_alloc ?_ _) | (with_reducible refine mine_set ?_ _ _)))
     have zm25 : w.heap.size + 1 < w3.heap.size := World.block_lt_of_cell? _ _ m25a
     clear f15 zf15 f16 f17 f18 f19 u0a u0b zu u1a u1b
     go_wp2_with fail
     go_region_held3 (fun w' => w'.cell? ⟨w.heap.size, 0, none⟩ = some (.int .i64 cx) ∧ w'.cell? ⟨w.heap.size, 1, none⟩ = some (.int .i64 cy) ∧ w'.cell? ⟨w.heap.size, 2, none⟩ = some (.int .i64 r) ∧ w'.cell? ⟨w.heap.size, 3, none⟩ = some (.int .i64 f) ∧ w'.cell? ⟨w.heap.size, 4, none⟩ = some (.int .i64 s) ∧ w'.cell? ⟨w3.heap.size, 0, none⟩ = some (.int .i64 X) ∧ w'.cell? ⟨w3.heap.size, 1, none⟩ = some (.int .i64 Y) ∧ (w'.cell? ⟨w.heap.size + 1, 0, none⟩ = some (cellV w' ⟨w.heap.size + 1, 0, none⟩) ∧ w'.frozen? ⟨w.heap.size + 1, 0, none⟩ = false) ∧ (w'.cell? ⟨w.heap.size + 1, 1, none⟩ = some (cellV w' ⟨w.heap.size + 1, 1, none⟩) ∧ w'.frozen? ⟨w.heap.size + 1, 1, none⟩ = false)) ((go_split_ands; refine ⟨?_, ?_, ?_, ?_, ?_, ?_, ?_, ?_, ?_⟩ <;> (first | ((repeat (first | (with_reducible assumption) | (with_reducible refine cell_drew ?_) | (with_reducible refine cell_drewN ?_ _) | (with_reducible refine cell_below (by assumption) ?_) | ((with_reducible refine cell_new ?_ ?_); (· (simp; done)); (· rfl)) | (with_reducible refine cell_alloc ?_ _) | ((with_reducible refine cell_set ?_ ?_ _); (· first | (simp; done) | (simp; omega) | omega)))); done) | (repeat (first | (with_reducible exact ⟨by assumption, by assumption⟩) | (with_reducible refine mine_drew ?_) | (with_reducible refine mine_drewN ?_ _) | (with_reducible refine mine_below (by assumption) ?_) | ((with_reducible refine mine_new ?_ ?_); (· (simp; done)); (· rfl)) | (with_reducible refine mine_alloc ?_ _) | (with_reducible refine mine_set ?_ _ _))))))
      (first | (go_at_call 70; (with_reducible refine (SQ _).mono ?_); rintro e w' ⟨rfl, hb'⟩) | (go_at_call 69; (with_reducible refine (TQ _).mono ?_); rintro e w' ⟨rfl, rfl⟩))
     rename_i hH
     clear hH
     obtain ⟨q0, q0'⟩ : w'.cell? ⟨w.heap.size + 1, 0, none⟩ = some (cellV w' ⟨w.heap.size + 1, 0, none⟩) ∧ w'.frozen? ⟨w.heap.size + 1, 0, none⟩ = false := by (repeat (first | (with_reducible exact ⟨by assumption, by assumption⟩) | (with_reducible refine mine_drew ?_) | (with_reducible refine mine_drewN ?_ _) | (with_reducible refine mine_below (by assumption) ?_) | ((with_reducible refine mine_new ?_ ?_); (· (simp; done)); (· rfl)) | (with_reducible refine mine_alloc ?_ _) | (with_reducible refine mine_set ?_ _ _)))
     obtain ⟨q1, q1'⟩ : w'.cell? ⟨w.heap.size + 1, 1, none⟩ = some (cellV w' ⟨w.heap.size + 1, 1, none⟩) ∧ w'.frozen? ⟨w.heap.size + 1, 1, none⟩ = false := by (repeat (first | (with_reducible exact ⟨by assumption, by assumption⟩) | (with_reducible refine mine_drew ?_) | (with_reducible refine mine_drewN ?_ _) | (with_reducible refine mine_below (by assumption) ?_) | ((with_reducible refine mine_new ?_ ?_); (· (simp; done)); (· rfl)) | (with_reducible refine mine_alloc ?_ _) | (with_reducible refine mine_set ?_ _ _)))
     go_wp2_with fail
     exact bodyPost_ret (v := .tuple #[.agg #[.int .i64 X, .int .i64 Y], .int .i64 T, .int .i64 0]) (by simp [results, Tryz.results29, go_sem, *]) rfl ⟨rfl, by (repeat (with_reducible (first | assumption | exact Below.refl _ _ | refine Below.drew ?_ | refine below_drewN ?_ _ | refine below_set ?_ (by simp; try omega) _ | refine below_alloc ?_ (Nat.le_refl _) _ | refine below_sub (by assumption) ?_)))⟩
   · rw [if_neg hE] at hR
     subst hR
     have T2 : (E != 0) = true := by rw [bne_iff_ne]; exact hE
     clear hE
     go_enter Tryz.func29, Tryz.ntmps29
     go_wp2_with fail
     refine (TV _).mono ?_
     rintro e w1 ⟨rfl, hb1⟩
     obtain ⟨f1, f2, f3, f4, f5⟩ : w1.cell? ⟨w.heap.size, 0, none⟩ = some (.int .i64 cx) ∧ w1.cell? ⟨w.heap.size, 1, none⟩ = some (.int .i64 cy) ∧ w1.cell? ⟨w.heap.size, 2, none⟩ = some (.int .i64 r) ∧ w1.cell? ⟨w.heap.size, 3, none⟩ = some (.int .i64 f) ∧ w1.cell? ⟨w.heap.size, 4, none⟩ = some (.int .i64 s) := by
      refine ⟨?_, ?_, ?_, ?_, ?_⟩ <;> (refine cell_below hb1 ?_; repeat (first | (with_reducible assumption) | (with_reducible refine cell_drew ?_) | (with_reducible refine cell_drewN ?_ _) | (with_reducible refine cell_below (by assumption) ?_) | ((with_reducible refine cell_new ?_ ?_); (· (simp; done)); (· rfl)) | (with_reducible refine cell_alloc ?_ _) | ((with_reducible refine cell_set ?_ ?_ _); (· first | (simp; done) | (simp; omega) | omega))))
     have zf1 : w.heap.size < w1.heap.size := World.block_lt_of_cell? _ _ f1
     obtain ⟨⟨m6a, m6b⟩, ⟨m7a, m7b⟩⟩ : (w1.cell? ⟨w.heap.size + 1, 0, none⟩ = some (cellV w1 ⟨w.heap.size + 1, 0, none⟩) ∧ w1.frozen? ⟨w.heap.size + 1, 0, none⟩ = false) ∧ (w1.cell? ⟨w.heap.size + 1, 1, none⟩ = some (cellV w1 ⟨w.heap.size + 1, 1, none⟩) ∧ w1.frozen? ⟨w.heap.size + 1, 1, none⟩ = false) := by
      refine ⟨?_, ?_⟩ <;> (refine mine_below hb1 (mine_of (v := .int .i64 0) ?_ ?_) <;> simp [go_sem])
     have zm6 : w.heap.size + 1 < w1.heap.size := World.block_lt_of_cell? _ _ m6a
     go_wp2_with fail
     refine (TL _).mono ?_
     rintro e w2 ⟨rfl, hb2⟩
     obtain ⟨f8, f9, f10, f11, f12⟩ : w2.cell? ⟨w.heap.size, 0, none⟩ = some (.int .i64 cx) ∧ w2.cell? ⟨w.heap.size, 1, none⟩ = some (.int .i64 cy) ∧ w2.cell? ⟨w.heap.size, 2, none⟩ = some (.int .i64 r) ∧ w2.cell? ⟨w.heap.size, 3, none⟩ = some (.int .i64 f) ∧ w2.cell? ⟨w.heap.size, 4, none⟩ = some (.int .i64 s) := by
      refine ⟨?_, ?_, ?_, ?_, ?_⟩ <;> (refine cell_below hb2 ?_; repeat (first | (with_reducible assumption) | (with_reducible refine cell_drew ?_) | (with_reducible refine cell_drewN ?_ _) | (with_reducible refine cell_below (by assumption) ?_) | ((with_reducible refine cell_new ?_ ?_); (· (simp; done)); (· rfl)) | (with_reducible refine cell_alloc ?_ _) | ((with_reducible refine cell_set ?_ ?_ _); (· first | (simp; done) | (simp; omega) | omega))))
     have zf8 : w.heap.size < w2.heap.size := World.block_lt_of_cell? _ _ f8
     obtain ⟨⟨m13a, m13b⟩, ⟨m14a, m14b⟩⟩ : (w2.cell? ⟨w.heap.size + 1, 0, none⟩ = some (cellV w2 ⟨w.heap.size + 1, 0, none⟩) ∧ w2.frozen? ⟨w.heap.size + 1, 0, none⟩ = false) ∧ (w2.cell? ⟨w.heap.size + 1, 1, none⟩ = some (cellV w2 ⟨w.heap.size + 1, 1, none⟩) ∧ w2.frozen? ⟨w.heap.size + 1, 1, none⟩ = false) := by
      refine ⟨?_, ?_⟩ <;> (refine mine_below hb2 ?_; repeat (first | (with_reducible exact ⟨by assumption, by assumption⟩) | (with_reducible refine mine_drew ?_) | (with_reducible refine mine_drewN ?_ _) | (with_reducible refine mine_below (by assumption) ?_) | ((with_reducible refine mine_new ?_ ?_); (· (simp; done)); (· rfl)) | (with_reducible refine mine_alloc ?_ _) | (with_reducible refine mine_set ?_ _ _)))
     have zm13 : w.heap.size + 1 < w2.heap.size := World.block_lt_of_cell? _ _ m13a
     clear f1 zf1 f2 f3 f4 f5 m6a m6b zm6 m7a m7b
     go_wp2_with fail
     go_region_held3 (fun w' => w'.cell? ⟨w.heap.size, 0, none⟩ = some (.int .i64 cx) ∧ w'.cell? ⟨w.heap.size, 1, none⟩ = some (.int .i64 cy) ∧ w'.cell? ⟨w.heap.size, 2, none⟩ = some (.int .i64 r) ∧ w'.cell? ⟨w.heap.size, 3, none⟩ = some (.int .i64 f) ∧ w'.cell? ⟨w.heap.size, 4, none⟩ = some (.int .i64 s)) ((go_split_ands; refine ⟨?_, ?_, ?_, ?_, ?_⟩ <;> (repeat (first | (with_reducible assumption) | (with_reducible refine cell_drew ?_) | (with_reducible refine cell_drewN ?_ _) | (with_reducible refine cell_below (by assumption) ?_) | ((with_reducible refine cell_new ?_ ?_); (· (simp; done)); (· rfl)) | (with_reducible refine cell_alloc ?_ _) | ((with_reducible refine cell_set ?_ ?_ _); (· first | (simp; done) | (simp; omega) | omega))))))
      (first | (go_at_call 70; (with_reducible refine (SD _).mono ?_); rintro e w' ⟨rfl, hb'⟩) | (go_at_call 69; (with_reducible refine (TN _).mono ?_); rintro e w' ⟨rfl, rfl⟩))
     rename_i hH
     obtain ⟨f15, f16, f17, f18, f19⟩ := hH
     have zf15 : w.heap.size < w'.heap.size := World.block_lt_of_cell? _ _ f15
     clear f8 zf8 f9 f10 f11 f12
     obtain ⟨u0a, u0b⟩ : w'.cell? ⟨w.heap.size + 1, 0, none⟩ = some (cellV w' ⟨w.heap.size + 1, 0, none⟩) ∧ w'.frozen? ⟨w.heap.size + 1, 0, none⟩ = false := by (repeat (first | (with_reducible exact ⟨by assumption, by assumption⟩) | (with_reducible refine mine_drew ?_) | (with_reducible refine mine_drewN ?_ _) | (with_reducible refine mine_below (by assumption) ?_) | ((with_reducible refine mine_new ?_ ?_); (· (simp; done)); (· rfl)) | (with_reducible refine mine_alloc ?_ _) | (with_reducible refine mine_set ?_ _ _)))
     obtain ⟨u1a, u1b⟩ : w'.cell? ⟨w.heap.size + 1, 1, none⟩ = some (cellV w' ⟨w.heap.size + 1, 1, none⟩) ∧ w'.frozen? ⟨w.heap.size + 1, 1, none⟩ = false := by (repeat (first | (with_reducible exact ⟨by assumption, by assumption⟩) | (with_reducible refine mine_drew ?_) | (with_reducible refine mine_drewN ?_ _) | (with_reducible refine mine_below (by assumption) ?_) | ((with_reducible refine mine_new ?_ ?_); (· (simp; done)); (· rfl)) | (with_reducible refine mine_alloc ?_ _) | (with_reducible refine mine_set ?_ _ _)))
     clear m13a m13b zm13
     clear m14a m14b
     have zu : w.heap.size + 1 < w'.heap.size := World.block_lt_of_cell? _ _ u0a
     go_wp2_with fail
     refine (RY _).mono ?_
     rintro e w3 ⟨rfl, hb3⟩
     obtain ⟨f20, f21, f22, f23, f24⟩ : w3.cell? ⟨w.heap.size, 0, none⟩ = some (.int .i64 cx) ∧ w3.cell? ⟨w.heap.size, 1, none⟩ = some (.int .i64 cy) ∧ w3.cell? ⟨w.heap.size, 2, none⟩ = some (.int .i64 r) ∧ w3.cell? ⟨w.heap.size, 3, none⟩ = some (.int .i64 f) ∧ w3.cell? ⟨w.heap.size, 4, none⟩ = some (.int .i64 s) := by
      refine ⟨?_, ?_, ?_, ?_, ?_⟩ <;> (refine cell_below hb3 ?_; repeat (first | (with_reducible assumption) | (with_reducible refine cell_drew ?_) | (with_reducible refine cell_drewN ?_ _) | (with_reducible refine cell_below (by assumption) ?_) | ((with_reducible refine cell_new ?_ ?_); (· (simp; done)); (· rfl)) | (with_reducible refine cell_alloc ?_ _) | ((with_reducible refine cell_set ?_ ?_ _); (· first | (simp; done) | (simp; omega) | omega))))
     have zf20 : w.heap.size < w3.heap.size := World.block_lt_of_cell? _ _ f20
     obtain ⟨⟨m25a, m25b⟩, ⟨m26a, m26b⟩⟩ : (w3.cell? ⟨w.heap.size + 1, 0, none⟩ = some (cellV w3 ⟨w.heap.size + 1, 0, none⟩) ∧ w3.frozen? ⟨w.heap.size + 1, 0, none⟩ = false) ∧ (w3.cell? ⟨w.heap.size + 1, 1, none⟩ = some (cellV w3 ⟨w.heap.size + 1, 1, none⟩) ∧ w3.frozen? ⟨w.heap.size + 1, 1, none⟩ = false) := by
      refine ⟨?_, ?_⟩ <;> (refine mine_below hb3 ?_; repeat (first | (with_reducible exact ⟨by assumption, by assumption⟩) | (with_reducible refine mine_drew ?_) | (with_reducible refine mine_drewN ?_ _) | (with_reducible refine mine_below (by assumption) ?_) | ((with_reducible refine mine_new ?_ ?_); (· (simp; done)); (· rfl)) | (with_reducible refine mine_alloc ?_ _) | (with_reducible refine mine_set ?_ _ _)))
     have zm25 : w.heap.size + 1 < w3.heap.size := World.block_lt_of_cell? _ _ m25a
     clear f15 zf15 f16 f17 f18 f19 u0a u0b zu u1a u1b
     go_wp2_with fail
     exact bodyPost_ret (v := .tuple #[.agg #[.int .i64 0, .int .i64 0], .int .i64 0, .int .i64 2]) (by simp [results, Tryz.results29, go_sem, *]) rfl ⟨rfl, by (repeat (with_reducible (first | assumption | exact Below.refl _ _ | refine Below.drew ?_ | refine below_drewN ?_ _ | refine below_set ?_ (by simp; try omega) _ | refine below_alloc ?_ (Nat.le_refl _) _ | refine below_sub (by assumption) ?_)))⟩
end Go.Proofs.YtbhpklpkcgcmfaaGreatDoor
