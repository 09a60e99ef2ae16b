/-
  The walks of At: the point at a length along an arc.
-/
import Derived.Test.YtjjdojokkmfbmaaGreatDoorMLineD
import Derived.Test.YtjjdojokkmfbmaaGreatDoorMTurnA
set_option maxRecDepth 100000
set_option maxHeartbeats 16000000
namespace Go.Proofs.YtjjdojokkmfbmaaGreatDoor
open Go.RowKit
set_option linter.unusedVariables false
set_option linter.unusedSimpArgs false
theorem arcAt_no {cx cy r f s al : Int} (h : arcB cx cy r f s = false) : arcAt cx cy r f s al = (0, 0, 0, 1) := by unfold arcAt; rw [h]; rfl
theorem arcAt_out {cx cy r f s al : Int} (h : arcB cx cy r f s = true) (h2 : al < 0 ∨ al > arcLen cx cy r f s) : arcAt cx cy r f s al = (0, 0, 0, 2) := by unfold arcAt; rw [h, if_neg (by simp), if_pos h2]
theorem arcAt_in {cx cy r f s al X Y E : Int} (h : arcB cx cy r f s = true) (h2 : ¬ (al < 0 ∨ al > arcLen cx cy r f s)) (hr : rayF cx cy (arcDir f s (arcLen cx cy r f s) al) r = (X, Y, E)) :
    arcAt cx cy r f s al = if E = 0 then (X, Y, turnF (arcDir f s (arcLen cx cy r f s) al) (sideOf s 32400000), 0) else (0, 0, 0, 2) := by unfold arcAt; rw [h, if_neg (by simp), if_neg h2, hr]
theorem arcW_in {n s al : Int} (h0 : 0 < n) (h1 : 0 ≤ al) (h2 : al ≤ n) (h3 : n ≤ 60000000) (h4 : (s.natAbs : Int) ≤ 129600000) :
    muldiv 2 al s.natAbs n = (arcW n s al, 0) ∧ 0 ≤ arcW n s al ∧ arcW n s al ≤ 129600000 := by
  have e : arcW n s al = rnd 2 (al * s.natAbs) n := by unfold arcW; rw [if_pos h0]
  have p0 : 0 ≤ al * (s.natAbs : Int) := Int.mul_nonneg h1 (by omega)
  have p1 : al * (s.natAbs : Int) ≤ n * s.natAbs := Int.mul_le_mul_of_nonneg_right h2 (by omega)
  have b : 0 ≤ rnd 2 (al * s.natAbs) n ∧ rnd 2 (al * s.natAbs) n ≤ 129600000 := by
    unfold rnd
    simp only [show (2 : Nat) ≠ 0 from by decide, show (2 : Nat) ≠ 1 from by decide, if_false]
    have f := floor_bd (2 * (al * s.natAbs) + n) (2 * n) (by omega)
    generalize (2 * (al * (s.natAbs : Int)) + n).fdiv (2 * n) = q at *
    constructor
    · apply Classical.byContradiction
      intro hq
      have : (q + 1) * (2 * n) ≤ 0 * (2 * n) := Int.mul_le_mul_of_nonneg_right (by omega) (by omega)
      have e2 : (q + 1) * (2 * n) = q * (2 * n) + 2 * n := by grind
      omega
    · apply Classical.byContradiction
      intro hq
      have h5 : ((s.natAbs : Int) + 1) * (2 * n) ≤ q * (2 * n) := Int.mul_le_mul_of_nonneg_right (by omega) (by omega)
      have e2 : ((s.natAbs : Int) + 1) * (2 * n) = 2 * (n * s.natAbs) + 2 * n := by grind
      omega
  rw [e]
  refine ⟨?_, b⟩
  unfold muldiv
  rw [if_neg (by omega), if_pos]
  unfold in64
  generalize rnd 2 (al * s.natAbs) n = q at *
  exact decide_eq_true (by omega)
theorem arcat_any (cx cy r f s al : Int) (w : World) (R : Int × Int × Int × Int) (hR : R = arcAt cx cy r f s al) :
    Calls Tryz.prog 67 #[.agg #[.int .i64 cx, .int .i64 cy, .int .i64 r, .int .i64 f, .int .i64 s], .int .i64 al] w fun e w' => e = .returned (.tuple #[.agg #[.int .i64 R.1, .int .i64 R.2.1], .int .i64 R.2.2.1, .int .i64 R.2.2.2]) ∧ Below w.heap.size w w' := by
  have TV := fun W => tvalid_any cx cy r f s W
  have TL := fun W => tlen_any cx cy r f s W
  rcases hB : arcB cx cy r f s with _ | _
  · rw [arcAt_no hB] at hR
    rw [hB] at TV
    subst hR
    clear hB
    generalize arcLen cx cy r f s = n at *
    go_enter Tryz.func67, Tryz.ntmps67
    go_wp2_with fail
    refine (TV _).mono ?_
    rintro e w1 ⟨rfl, hb1⟩
    obtain ⟨f1, f2, f3, f4, f5⟩ : w1.cell? ⟨w.heap.size, 0, none⟩ = some (.int .i64 cx) ∧ w1.cell? ⟨w.heap.size, 1, none⟩ = some (.int .i64 cy) ∧ w1.cell? ⟨w.heap.size, 2, none⟩ = some (.int .i64 r) ∧ w1.cell? ⟨w.heap.size, 3, none⟩ = some (.int .i64 f) ∧ w1.cell? ⟨w.heap.size, 4, none⟩ = some (.int .i64 s) := by
      refine ⟨?_, ?_, ?_, ?_, ?_⟩ <;> (refine cell_below hb1 ?_; repeat (first | (with_reducible assumption) | (with_reducible refine cell_drew ?_) | (with_reducible refine cell_drewN ?_ _) | (with_reducible refine cell_below (by assumption) ?_) | ((with_reducible refine cell_new ?_ ?_); (· (simp; done)); (· rfl)) | (with_reducible refine cell_alloc ?_ _) | ((with_reducible refine cell_set ?_ ?_ _); (· first | (simp; done) | (simp; omega) | omega))))
    have zf1 : w.heap.size < w1.heap.size := World.block_lt_of_cell? _ _ f1
    obtain ⟨⟨m6a, m6b⟩, ⟨m7a, m7b⟩⟩ : (w1.cell? ⟨w.heap.size + 1, 0, none⟩ = some (cellV w1 ⟨w.heap.size + 1, 0, none⟩) ∧ w1.frozen? ⟨w.heap.size + 1, 0, none⟩ = false) ∧ (w1.cell? ⟨w.heap.size + 1, 1, none⟩ = some (cellV w1 ⟨w.heap.size + 1, 1, none⟩) ∧ w1.frozen? ⟨w.heap.size + 1, 1, none⟩ = false) := by
      refine ⟨?_, ?_⟩ <;> (refine mine_below hb1 (mine_of (v := .int .i64 0) ?_ ?_) <;> simp [go_sem])
    have zm6 : w.heap.size + 1 < w1.heap.size := World.block_lt_of_cell? _ _ m6a
    go_wp2_with fail
    exact bodyPost_ret (v := .tuple #[.agg #[.int .i64 0, .int .i64 0], .int .i64 0, .int .i64 1]) (by simp [results, Tryz.results67, go_sem, *]) rfl ⟨rfl, by (repeat (with_reducible (first | assumption | exact Below.refl _ _ | refine Below.drew ?_ | refine below_drewN ?_ _ | refine below_set ?_ (by simp; try omega) _ | refine below_alloc ?_ (Nat.le_refl _) _ | refine below_sub (by assumption) ?_)))⟩
  rw [hB] at TV
  have nb := arcLen_bd cx cy r f s
  by_cases ho : al < 0 ∨ al > arcLen cx cy r f s
  · rw [arcAt_out hB ho] at hR
    subst hR
    have T : al < 0 ∨ (¬ al < 0 ∧ al > arcLen cx cy r f s) := by omega
    generalize arcLen cx cy r f s = n at *
    clear ho hB
    rcases T with t1 | ⟨t1, t2⟩
    all_goals
    go_enter Tryz.func67, Tryz.ntmps67
    go_wp2_with fail
    refine (TV _).mono ?_
    rintro e w1 ⟨rfl, hb1⟩
    obtain ⟨f1, f2, f3, f4, f5⟩ : w1.cell? ⟨w.heap.size, 0, none⟩ = some (.int .i64 cx) ∧ w1.cell? ⟨w.heap.size, 1, none⟩ = some (.int .i64 cy) ∧ w1.cell? ⟨w.heap.size, 2, none⟩ = some (.int .i64 r) ∧ w1.cell? ⟨w.heap.size, 3, none⟩ = some (.int .i64 f) ∧ w1.cell? ⟨w.heap.size, 4, none⟩ = some (.int .i64 s) := by
      refine ⟨?_, ?_, ?_, ?_, ?_⟩ <;> (refine cell_below hb1 ?_; repeat (first | (with_reducible assumption) | (with_reducible refine cell_drew ?_) | (with_reducible refine cell_drewN ?_ _) | (with_reducible refine cell_below (by assumption) ?_) | ((with_reducible refine cell_new ?_ ?_); (· (simp; done)); (· rfl)) | (with_reducible refine cell_alloc ?_ _) | ((with_reducible refine cell_set ?_ ?_ _); (· first | (simp; done) | (simp; omega) | omega))))
    have zf1 : w.heap.size < w1.heap.size := World.block_lt_of_cell? _ _ f1
    obtain ⟨⟨m6a, m6b⟩, ⟨m7a, m7b⟩⟩ : (w1.cell? ⟨w.heap.size + 1, 0, none⟩ = some (cellV w1 ⟨w.heap.size + 1, 0, none⟩) ∧ w1.frozen? ⟨w.heap.size + 1, 0, none⟩ = false) ∧ (w1.cell? ⟨w.heap.size + 1, 1, none⟩ = some (cellV w1 ⟨w.heap.size + 1, 1, none⟩) ∧ w1.frozen? ⟨w.heap.size + 1, 1, none⟩ = false) := by
      refine ⟨?_, ?_⟩ <;> (refine mine_below hb1 (mine_of (v := .int .i64 0) ?_ ?_) <;> simp [go_sem])
    have zm6 : w.heap.size + 1 < w1.heap.size := World.block_lt_of_cell? _ _ m6a
    go_wp2_with fail
    refine (TL _).mono ?_
    rintro e w2 ⟨rfl, hb2⟩
    obtain ⟨f8, f9, f10, f11, f12⟩ : w2.cell? ⟨w.heap.size, 0, none⟩ = some (.int .i64 cx) ∧ w2.cell? ⟨w.heap.size, 1, none⟩ = some (.int .i64 cy) ∧ w2.cell? ⟨w.heap.size, 2, none⟩ = some (.int .i64 r) ∧ w2.cell? ⟨w.heap.size, 3, none⟩ = some (.int .i64 f) ∧ w2.cell? ⟨w.heap.size, 4, none⟩ = some (.int .i64 s) := by
      refine ⟨?_, ?_, ?_, ?_, ?_⟩ <;> (refine cell_below hb2 ?_; repeat (first | (with_reducible assumption) | (with_reducible refine cell_drew ?_) | (with_reducible refine cell_drewN ?_ _) | (with_reducible refine cell_below (by assumption) ?_) | ((with_reducible refine cell_new ?_ ?_); (· (simp; done)); (· rfl)) | (with_reducible refine cell_alloc ?_ _) | ((with_reducible refine cell_set ?_ ?_ _); (· first | (simp; done) | (simp; omega) | omega))))
    have zf8 : w.heap.size < w2.heap.size := World.block_lt_of_cell? _ _ f8
    obtain ⟨⟨m13a, m13b⟩, ⟨m14a, m14b⟩⟩ : (w2.cell? ⟨w.heap.size + 1, 0, none⟩ = some (cellV w2 ⟨w.heap.size + 1, 0, none⟩) ∧ w2.frozen? ⟨w.heap.size + 1, 0, none⟩ = false) ∧ (w2.cell? ⟨w.heap.size + 1, 1, none⟩ = some (cellV w2 ⟨w.heap.size + 1, 1, none⟩) ∧ w2.frozen? ⟨w.heap.size + 1, 1, none⟩ = false) := by
      refine ⟨?_, ?_⟩ <;> (refine mine_below hb2 ?_; repeat (first | (with_reducible exact ⟨by assumption, by assumption⟩) | (with_reducible refine mine_drew ?_) | (with_reducible refine mine_drewN ?_ _) | (with_reducible refine mine_below (by assumption) ?_) | ((with_reducible refine mine_new ?_ ?_); (· (simp; done)); (· rfl)) | (with_reducible refine mine_alloc ?_ _) | (with_reducible refine mine_set ?_ _ _)))
    have zm13 : w.heap.size + 1 < w2.heap.size := World.block_lt_of_cell? _ _ m13a
    clear f1 zf1 f2 f3 f4 f5 m6a m6b zm6 m7a m7b
    go_wp2_with fail
    exact bodyPost_ret (v := .tuple #[.agg #[.int .i64 0, .int .i64 0], .int .i64 0, .int .i64 2]) (by simp [results, Tryz.results67, go_sem, *]) rfl ⟨rfl, by (repeat (with_reducible (first | assumption | exact Below.refl _ _ | refine Below.drew ?_ | refine below_drewN ?_ _ | refine below_set ?_ (by simp; try omega) _ | refine below_alloc ?_ (Nat.le_refl _) _ | refine below_sub (by assumption) ?_)))⟩
  obtain ⟨hv, ⟨b1, b2⟩, ⟨b3, b4⟩, b5, b6⟩ := arc_cases hB
  obtain ⟨Y0, hY0⟩ : ∃ Y, Y = rayF cx cy (arcDir f s (arcLen cx cy r f s) al) r := ⟨_, rfl⟩
  obtain ⟨X, Y, E⟩ := Y0
  rw [arcAt_in hB ho hY0.symm] at hR
  have hn : al ≤ arcLen cx cy r f s := by omega
  have h0 : 0 ≤ al := by omega
  clear ho hB
  generalize arcLen cx cy r f s = n at *
  have db : 0 ≤ arcDir f s n al ∧ arcDir f s n al < 129600000 := turnF_bd _ _
  have RY := fun W => ray_any cx cy (arcDir f s n al) r (by unfold I64; omega) (by unfold I64; omega) W _ hY0
  have sq : -32400000 ≤ sideOf s 32400000 ∧ sideOf s 32400000 ≤ 32400000 := by unfold sideOf; split <;> omega
  have wb : 0 ≤ arcW n s al ∧ arcW n s al ≤ 129600000 := by
    by_cases hn0 : 0 < n
    · exact (arcW_in hn0 h0 hn nb.2 (by omega)).2
    · unfold arcW; rw [if_neg hn0]; omega
  have sw : -129600000 ≤ sideOf s (arcW n s al) ∧ sideOf s (arcW n s al) ≤ 129600000 := by unfold sideOf; split <;> omega
  have AB := fun W => abs_any s (by unfold I64; omega) (by omega) W
  have SD := fun W => tside_any cx cy r f s (arcW n s al) (by omega) (by omega) W
  have SQ := fun W => tside_any cx cy r f s 32400000 (by omega) (by omega) W
  have TN := fun W => turn_any f (sideOf s (arcW n s al)) (by unfold I64; omega) (by unfold I64; omega) W
  have TQ := fun W => turn_any (arcDir f s n al) (sideOf s 32400000) (by unfold I64; omega) (by unfold I64; omega) W
  rw [show turnF f (sideOf s (arcW n s al)) = arcDir f s n al from rfl] at TN
  have MM := fun (h : 0 < n) => (arcW_in h h0 hn nb.2 (show (s.natAbs : Int) ≤ 129600000 by omega)).1
  have MD := fun W => muldivround_any al s.natAbs n (by unfold I64; omega) (by unfold I64; omega) (by unfold I64; omega) W
  have W0 : n ≤ 0 → arcW n s al = 0 := fun h => by unfold arcW; rw [if_neg (by omega)]
  clear hY0
  generalize turnF (arcDir f s n al) (sideOf s 32400000) = T at *
  generalize arcDir f s n al = D at *
  generalize (s.natAbs : Int) = a at *
  generalize sideOf s (arcW n s al) = sW at *
  generalize sideOf s 32400000 = sQ at *
  generalize arcW n s al = wW at *
  by_cases hn0 : 0 < n
  · rw [MM hn0] at MD
    clear MM W0
    by_cases hE : E = 0
    · rw [if_pos hE] at hR
      subst hR
      subst hE
      go_enter Tryz.func67, Tryz.ntmps67
      go_wp2_with fail
      refine (TV _).mono ?_
      rintro e w1 ⟨rfl, hb1⟩
      obtain ⟨f1, f2, f3, f4, f5⟩ : w1.cell? ⟨w.heap.size, 0, none⟩ = some (.int .i64 cx) ∧ w1.cell? ⟨w.heap.size, 1, none⟩ = some (.int .i64 cy) ∧ w1.cell? ⟨w.heap.size, 2, none⟩ = some (.int .i64 r) ∧ w1.cell? ⟨w.heap.size, 3, none⟩ = some (.int .i64 f) ∧ w1.cell? ⟨w.heap.size, 4, none⟩ = some (.int .i64 s) := by
        refine ⟨?_, ?_, ?_, ?_, ?_⟩ <;> (refine cell_below hb1 ?_; repeat (first | (with_reducible assumption) | (with_reducible refine cell_drew ?_) | (with_reducible refine cell_drewN ?_ _) | (with_reducible refine cell_below (by assumption) ?_) | ((with_reducible refine cell_new ?_ ?_); (· (simp; done)); (· rfl)) | (with_reducible refine cell_alloc ?_ _) | ((with_reducible refine cell_set ?_ ?_ _); (· first | (simp; done) | (simp; omega) | omega))))
      have zf1 : w.heap.size < w1.heap.size := World.block_lt_of_cell? _ _ f1
      obtain ⟨⟨m6a, m6b⟩, ⟨m7a, m7b⟩⟩ : (w1.cell? ⟨w.heap.size + 1, 0, none⟩ = some (cellV w1 ⟨w.heap.size + 1, 0, none⟩) ∧ w1.frozen? ⟨w.heap.size + 1, 0, none⟩ = false) ∧ (w1.cell? ⟨w.heap.size + 1, 1, none⟩ = some (cellV w1 ⟨w.heap.size + 1, 1, none⟩) ∧ w1.frozen? ⟨w.heap.size + 1, 1, none⟩ = false) := by
        refine ⟨?_, ?_⟩ <;> (refine mine_below hb1 (mine_of (v := .int .i64 0) ?_ ?_) <;> simp [go_sem])
      have zm6 : w.heap.size + 1 < w1.heap.size := World.block_lt_of_cell? _ _ m6a
      go_wp2_with fail
      refine (TL _).mono ?_
      rintro e w2 ⟨rfl, hb2⟩
      obtain ⟨f8, f9, f10, f11, f12⟩ : w2.cell? ⟨w.heap.size, 0, none⟩ = some (.int .i64 cx) ∧ w2.cell? ⟨w.heap.size, 1, none⟩ = some (.int .i64 cy) ∧ w2.cell? ⟨w.heap.size, 2, none⟩ = some (.int .i64 r) ∧ w2.cell? ⟨w.heap.size, 3, none⟩ = some (.int .i64 f) ∧ w2.cell? ⟨w.heap.size, 4, none⟩ = some (.int .i64 s) := by
        refine ⟨?_, ?_, ?_, ?_, ?_⟩ <;> (refine cell_below hb2 ?_; repeat (first | (with_reducible assumption) | (with_reducible refine cell_drew ?_) | (with_reducible refine cell_drewN ?_ _) | (with_reducible refine cell_below (by assumption) ?_) | ((with_reducible refine cell_new ?_ ?_); (· (simp; done)); (· rfl)) | (with_reducible refine cell_alloc ?_ _) | ((with_reducible refine cell_set ?_ ?_ _); (· first | (simp; done) | (simp; omega) | omega))))
      have zf8 : w.heap.size < w2.heap.size := World.block_lt_of_cell? _ _ f8
      obtain ⟨⟨m13a, m13b⟩, ⟨m14a, m14b⟩⟩ : (w2.cell? ⟨w.heap.size + 1, 0, none⟩ = some (cellV w2 ⟨w.heap.size + 1, 0, none⟩) ∧ w2.frozen? ⟨w.heap.size + 1, 0, none⟩ = false) ∧ (w2.cell? ⟨w.heap.size + 1, 1, none⟩ = some (cellV w2 ⟨w.heap.size + 1, 1, none⟩) ∧ w2.frozen? ⟨w.heap.size + 1, 1, none⟩ = false) := by
        refine ⟨?_, ?_⟩ <;> (refine mine_below hb2 ?_; repeat (first | (with_reducible exact ⟨by assumption, by assumption⟩) | (with_reducible refine mine_drew ?_) | (with_reducible refine mine_drewN ?_ _) | (with_reducible refine mine_below (by assumption) ?_) | ((with_reducible refine mine_new ?_ ?_); (· (simp; done)); (· rfl)) | (with_reducible refine mine_alloc ?_ _) | (with_reducible refine mine_set ?_ _ _)))
      have zm13 : w.heap.size + 1 < w2.heap.size := World.block_lt_of_cell? _ _ m13a
      clear f1 zf1 f2 f3 f4 f5 m6a m6b zm6 m7a m7b
      go_wp2_with (first | (go_at_call 65; refine (AB _).mono ?_; rintro e w' ⟨rfl, rfl⟩) | (go_at_call 116; refine (MD _).mono ?_; rintro e w' ⟨rfl, n1, rfl⟩))
      go_region_held3 (fun w' => w'.cell? ⟨w.heap.size, 0, none⟩ = some (.int .i64 cx) ∧ w'.cell? ⟨w.heap.size, 1, none⟩ = some (.int .i64 cy) ∧ w'.cell? ⟨w.heap.size, 2, none⟩ = some (.int .i64 r) ∧ w'.cell? ⟨w.heap.size, 3, none⟩ = some (.int .i64 f) ∧ w'.cell? ⟨w.heap.size, 4, none⟩ = some (.int .i64 s)) ((go_split_ands; refine ⟨?_, ?_, ?_, ?_, ?_⟩ <;> (repeat (first | (with_reducible assumption) | (with_reducible refine cell_drew ?_) | (with_reducible refine cell_drewN ?_ _) | (with_reducible refine cell_below (by assumption) ?_) | ((with_reducible refine cell_new ?_ ?_); (· (simp; done)); (· rfl)) | (with_reducible refine cell_alloc ?_ _) | ((with_reducible refine cell_set ?_ ?_ _); (· first | (simp; done) | (simp; omega) | omega))))))
        (first | (go_at_call 118; (with_reducible refine (SD _).mono ?_); rintro e w' ⟨rfl, hb'⟩) | (go_at_call 117; (with_reducible refine (TN _).mono ?_); rintro e w' ⟨rfl, rfl⟩))
      rename_i hH
      obtain ⟨f15, f16, f17, f18, f19⟩ := hH
      have zf15 : w.heap.size < w'.heap.size := World.block_lt_of_cell? _ _ f15
      clear f8 zf8 f9 f10 f11 f12
      obtain ⟨u0a, u0b⟩ : w'.cell? ⟨w.heap.size + 1, 0, none⟩ = some (cellV w' ⟨w.heap.size + 1, 0, none⟩) ∧ w'.frozen? ⟨w.heap.size + 1, 0, none⟩ = false := by (repeat (first | (with_reducible exact ⟨by assumption, by assumption⟩) | (with_reducible refine mine_drew ?_) | (with_reducible refine mine_drewN ?_ _) | (with_reducible refine mine_below (by assumption) ?_) | ((with_reducible refine mine_new ?_ ?_); (· (simp; done)); (· rfl)) | (with_reducible refine mine_alloc ?_ _) | (with_reducible refine mine_set ?_ _ _)))
      obtain ⟨u1a, u1b⟩ : w'.cell? ⟨w.heap.size + 1, 1, none⟩ = some (cellV w' ⟨w.heap.size + 1, 1, none⟩) ∧ w'.frozen? ⟨w.heap.size + 1, 1, none⟩ = false := by (repeat (first | (with_reducible exact ⟨by assumption, by assumption⟩) | (with_reducible refine mine_drew ?_) | (with_reducible refine mine_drewN ?_ _) | (with_reducible refine mine_below (by assumption) ?_) | ((with_reducible refine mine_new ?_ ?_); (· (simp; done)); (· rfl)) | (with_reducible refine mine_alloc ?_ _) | (with_reducible refine mine_set ?_ _ _)))
      clear m13a m13b zm13
      clear m14a m14b
      have zu : w.heap.size + 1 < w'.heap.size := World.block_lt_of_cell? _ _ u0a
      go_wp2_with fail
      refine (RY _).mono ?_
      rintro e w3 ⟨rfl, hb3⟩
      obtain ⟨f20, f21, f22, f23, f24⟩ : w3.cell? ⟨w.heap.size, 0, none⟩ = some (.int .i64 cx) ∧ w3.cell? ⟨w.heap.size, 1, none⟩ = some (.int .i64 cy) ∧ w3.cell? ⟨w.heap.size, 2, none⟩ = some (.int .i64 r) ∧ w3.cell? ⟨w.heap.size, 3, none⟩ = some (.int .i64 f) ∧ w3.cell? ⟨w.heap.size, 4, none⟩ = some (.int .i64 s) := by
        refine ⟨?_, ?_, ?_, ?_, ?_⟩ <;> (refine cell_below hb3 ?_; repeat (first | (with_reducible assumption) | (with_reducible refine cell_drew ?_) | (with_reducible refine cell_drewN ?_ _) | (with_reducible refine cell_below (by assumption) ?_) | ((with_reducible refine cell_new ?_ ?_); (· (simp; done)); (· rfl)) | (with_reducible refine cell_alloc ?_ _) | ((with_reducible refine cell_set ?_ ?_ _); (· first | (simp; done) | (simp; omega) | omega))))
      have zf20 : w.heap.size < w3.heap.size := World.block_lt_of_cell? _ _ f20
      obtain ⟨⟨m25a, m25b⟩, ⟨m26a, m26b⟩⟩ : (w3.cell? ⟨w.heap.size + 1, 0, none⟩ = some (cellV w3 ⟨w.heap.size + 1, 0, none⟩) ∧ w3.frozen? ⟨w.heap.size + 1, 0, none⟩ = false) ∧ (w3.cell? ⟨w.heap.size + 1, 1, none⟩ = some (cellV w3 ⟨w.heap.size + 1, 1, none⟩) ∧ w3.frozen? ⟨w.heap.size + 1, 1, none⟩ = false) := by
        refine ⟨?_, ?_⟩ <;> (refine mine_below hb3 ?_; repeat (first | (with_reducible exact ⟨by assumption, by assumption⟩) | (with_reducible refine mine_drew ?_) | (with_reducible refine mine_drewN ?_ _) | (with_reducible refine mine_below (by assumption) ?_) | ((with_reducible refine mine_new ?_ ?_); (· (simp; done)); (· rfl)) | (with_reducible refine mine_alloc ?_ _) | (with_reducible refine mine_set ?_ _ _)))
      have zm25 : w.heap.size + 1 < w3.heap.size := World.block_lt_of_cell? _ _ m25a
      clear f15 zf15 f16 f17 f18 f19 u0a u0b zu u1a u1b
      go_wp2_with fail
      go_region_held3 (fun w' => w'.cell? ⟨w.heap.size, 0, none⟩ = some (.int .i64 cx) ∧ w'.cell? ⟨w.heap.size, 1, none⟩ = some (.int .i64 cy) ∧ w'.cell? ⟨w.heap.size, 2, none⟩ = some (.int .i64 r) ∧ w'.cell? ⟨w.heap.size, 3, none⟩ = some (.int .i64 f) ∧ w'.cell? ⟨w.heap.size, 4, none⟩ = some (.int .i64 s) ∧ w'.cell? ⟨w3.heap.size, 0, none⟩ = some (.int .i64 X) ∧ w'.cell? ⟨w3.heap.size, 1, none⟩ = some (.int .i64 Y) ∧ (w'.cell? ⟨w.heap.size + 1, 0, none⟩ = some (cellV w' ⟨w.heap.size + 1, 0, none⟩) ∧ w'.frozen? ⟨w.heap.size + 1, 0, none⟩ = false) ∧ (w'.cell? ⟨w.heap.size + 1, 1, none⟩ = some (cellV w' ⟨w.heap.size + 1, 1, none⟩) ∧ w'.frozen? ⟨w.heap.size + 1, 1, none⟩ = false)) ((go_split_ands; refine ⟨?_, ?_, ?_, ?_, ?_, ?_, ?_, ?_, ?_⟩ <;> (first | ((repeat (first | (with_reducible assumption) | (with_reducible refine cell_drew ?_) | (with_reducible refine cell_drewN ?_ _) | (with_reducible refine cell_below (by assumption) ?_) | ((with_reducible refine cell_new ?_ ?_); (· (simp; done)); (· rfl)) | (with_reducible refine cell_alloc ?_ _) | ((with_reducible refine cell_set ?_ ?_ _); (· first | (simp; done) | (simp; omega) | omega)))); done) | (repeat (first | (with_reducible exact ⟨by assumption, by assumption⟩) | (with_reducible refine mine_drew ?_) | (with_reducible refine mine_drewN ?_ _) | (with_reducible refine mine_below (by assumption) ?_) | ((with_reducible refine mine_new ?_ ?_); (· (simp; done)); (· rfl)) | (with_reducible refine mine_alloc ?_ _) | (with_reducible refine mine_set ?_ _ _))))))
        (first | (go_at_call 118; (with_reducible refine (SQ _).mono ?_); rintro e w' ⟨rfl, hb'⟩) | (go_at_call 117; (with_reducible refine (TQ _).mono ?_); rintro e w' ⟨rfl, rfl⟩))
      rename_i hH
      clear hH
      obtain ⟨q0, q0'⟩ : w'.cell? ⟨w.heap.size + 1, 0, none⟩ = some (cellV w' ⟨w.heap.size + 1, 0, none⟩) ∧ w'.frozen? ⟨w.heap.size + 1, 0, none⟩ = false := by (repeat (first | (with_reducible exact ⟨by assumption, by assumption⟩) | (with_reducible refine mine_drew ?_) | (with_reducible refine mine_drewN ?_ _) | (with_reducible refine mine_below (by assumption) ?_) | ((with_reducible refine mine_new ?_ ?_); (· (simp; done)); (· rfl)) | (with_reducible refine mine_alloc ?_ _) | (with_reducible refine mine_set ?_ _ _)))
      obtain ⟨q1, q1'⟩ : w'.cell? ⟨w.heap.size + 1, 1, none⟩ = some (cellV w' ⟨w.heap.size + 1, 1, none⟩) ∧ w'.frozen? ⟨w.heap.size + 1, 1, none⟩ = false := by (repeat (first | (with_reducible exact ⟨by assumption, by assumption⟩) | (with_reducible refine mine_drew ?_) | (with_reducible refine mine_drewN ?_ _) | (with_reducible refine mine_below (by assumption) ?_) | ((with_reducible refine mine_new ?_ ?_); (· (simp; done)); (· rfl)) | (with_reducible refine mine_alloc ?_ _) | (with_reducible refine mine_set ?_ _ _)))
      go_wp2_with fail
      exact bodyPost_ret (v := .tuple #[.agg #[.int .i64 X, .int .i64 Y], .int .i64 T, .int .i64 0]) (by simp [results, Tryz.results67, go_sem, *]) rfl ⟨rfl, by (repeat (with_reducible (first | assumption | exact Below.refl _ _ | refine Below.drew ?_ | refine below_drewN ?_ _ | refine below_set ?_ (by simp; try omega) _ | refine below_alloc ?_ (Nat.le_refl _) _ | refine below_sub (by assumption) ?_)))⟩
    · rw [if_neg hE] at hR
      subst hR
      have T2 : (E != 0) = true := by rw [bne_iff_ne]; exact hE
      clear hE
      go_enter Tryz.func67, Tryz.ntmps67
      go_wp2_with fail
      refine (TV _).mono ?_
      rintro e w1 ⟨rfl, hb1⟩
      obtain ⟨f1, f2, f3, f4, f5⟩ : w1.cell? ⟨w.heap.size, 0, none⟩ = some (.int .i64 cx) ∧ w1.cell? ⟨w.heap.size, 1, none⟩ = some (.int .i64 cy) ∧ w1.cell? ⟨w.heap.size, 2, none⟩ = some (.int .i64 r) ∧ w1.cell? ⟨w.heap.size, 3, none⟩ = some (.int .i64 f) ∧ w1.cell? ⟨w.heap.size, 4, none⟩ = some (.int .i64 s) := by
        refine ⟨?_, ?_, ?_, ?_, ?_⟩ <;> (refine cell_below hb1 ?_; repeat (first | (with_reducible assumption) | (with_reducible refine cell_drew ?_) | (with_reducible refine cell_drewN ?_ _) | (with_reducible refine cell_below (by assumption) ?_) | ((with_reducible refine cell_new ?_ ?_); (· (simp; done)); (· rfl)) | (with_reducible refine cell_alloc ?_ _) | ((with_reducible refine cell_set ?_ ?_ _); (· first | (simp; done) | (simp; omega) | omega))))
      have zf1 : w.heap.size < w1.heap.size := World.block_lt_of_cell? _ _ f1
      obtain ⟨⟨m6a, m6b⟩, ⟨m7a, m7b⟩⟩ : (w1.cell? ⟨w.heap.size + 1, 0, none⟩ = some (cellV w1 ⟨w.heap.size + 1, 0, none⟩) ∧ w1.frozen? ⟨w.heap.size + 1, 0, none⟩ = false) ∧ (w1.cell? ⟨w.heap.size + 1, 1, none⟩ = some (cellV w1 ⟨w.heap.size + 1, 1, none⟩) ∧ w1.frozen? ⟨w.heap.size + 1, 1, none⟩ = false) := by
        refine ⟨?_, ?_⟩ <;> (refine mine_below hb1 (mine_of (v := .int .i64 0) ?_ ?_) <;> simp [go_sem])
      have zm6 : w.heap.size + 1 < w1.heap.size := World.block_lt_of_cell? _ _ m6a
      go_wp2_with fail
      refine (TL _).mono ?_
      rintro e w2 ⟨rfl, hb2⟩
      obtain ⟨f8, f9, f10, f11, f12⟩ : w2.cell? ⟨w.heap.size, 0, none⟩ = some (.int .i64 cx) ∧ w2.cell? ⟨w.heap.size, 1, none⟩ = some (.int .i64 cy) ∧ w2.cell? ⟨w.heap.size, 2, none⟩ = some (.int .i64 r) ∧ w2.cell? ⟨w.heap.size, 3, none⟩ = some (.int .i64 f) ∧ w2.cell? ⟨w.heap.size, 4, none⟩ = some (.int .i64 s) := by
        refine ⟨?_, ?_, ?_, ?_, ?_⟩ <;> (refine cell_below hb2 ?_; repeat (first | (with_reducible assumption) | (with_reducible refine cell_drew ?_) | (with_reducible refine cell_drewN ?_ _) | (with_reducible refine cell_below (by assumption) ?_) | ((with_reducible refine cell_new ?_ ?_); (· (simp; done)); (· rfl)) | (with_reducible refine cell_alloc ?_ _) | ((with_reducible refine cell_set ?_ ?_ _); (· first | (simp; done) | (simp; omega) | omega))))
      have zf8 : w.heap.size < w2.heap.size := World.block_lt_of_cell? _ _ f8
      obtain ⟨⟨m13a, m13b⟩, ⟨m14a, m14b⟩⟩ : (w2.cell? ⟨w.heap.size + 1, 0, none⟩ = some (cellV w2 ⟨w.heap.size + 1, 0, none⟩) ∧ w2.frozen? ⟨w.heap.size + 1, 0, none⟩ = false) ∧ (w2.cell? ⟨w.heap.size + 1, 1, none⟩ = some (cellV w2 ⟨w.heap.size + 1, 1, none⟩) ∧ w2.frozen? ⟨w.heap.size + 1, 1, none⟩ = false) := by
        refine ⟨?_, ?_⟩ <;> (refine mine_below hb2 ?_; repeat (first | (with_reducible exact ⟨by assumption, by assumption⟩) | (with_reducible refine mine_drew ?_) | (with_reducible refine mine_drewN ?_ _) | (with_reducible refine mine_below (by assumption) ?_) | ((with_reducible refine mine_new ?_ ?_); (· (simp; done)); (· rfl)) | (with_reducible refine mine_alloc ?_ _) | (with_reducible refine mine_set ?_ _ _)))
      have zm13 : w.heap.size + 1 < w2.heap.size := World.block_lt_of_cell? _ _ m13a
      clear f1 zf1 f2 f3 f4 f5 m6a m6b zm6 m7a m7b
      go_wp2_with (first | (go_at_call 65; refine (AB _).mono ?_; rintro e w' ⟨rfl, rfl⟩) | (go_at_call 116; refine (MD _).mono ?_; rintro e w' ⟨rfl, n1, rfl⟩))
      go_region_held3 (fun w' => w'.cell? ⟨w.heap.size, 0, none⟩ = some (.int .i64 cx) ∧ w'.cell? ⟨w.heap.size, 1, none⟩ = some (.int .i64 cy) ∧ w'.cell? ⟨w.heap.size, 2, none⟩ = some (.int .i64 r) ∧ w'.cell? ⟨w.heap.size, 3, none⟩ = some (.int .i64 f) ∧ w'.cell? ⟨w.heap.size, 4, none⟩ = some (.int .i64 s)) ((go_split_ands; refine ⟨?_, ?_, ?_, ?_, ?_⟩ <;> (repeat (first | (with_reducible assumption) | (with_reducible refine cell_drew ?_) | (with_reducible refine cell_drewN ?_ _) | (with_reducible refine cell_below (by assumption) ?_) | ((with_reducible refine cell_new ?_ ?_); (· (simp; done)); (· rfl)) | (with_reducible refine cell_alloc ?_ _) | ((with_reducible refine cell_set ?_ ?_ _); (· first | (simp; done) | (simp; omega) | omega))))))
        (first | (go_at_call 118; (with_reducible refine (SD _).mono ?_); rintro e w' ⟨rfl, hb'⟩) | (go_at_call 117; (with_reducible refine (TN _).mono ?_); rintro e w' ⟨rfl, rfl⟩))
      rename_i hH
      obtain ⟨f15, f16, f17, f18, f19⟩ := hH
      have zf15 : w.heap.size < w'.heap.size := World.block_lt_of_cell? _ _ f15
      clear f8 zf8 f9 f10 f11 f12
      obtain ⟨u0a, u0b⟩ : w'.cell? ⟨w.heap.size + 1, 0, none⟩ = some (cellV w' ⟨w.heap.size + 1, 0, none⟩) ∧ w'.frozen? ⟨w.heap.size + 1, 0, none⟩ = false := by (repeat (first | (with_reducible exact ⟨by assumption, by assumption⟩) | (with_reducible refine mine_drew ?_) | (with_reducible refine mine_drewN ?_ _) | (with_reducible refine mine_below (by assumption) ?_) | ((with_reducible refine mine_new ?_ ?_); (· (simp; done)); (· rfl)) | (with_reducible refine mine_alloc ?_ _) | (with_reducible refine mine_set ?_ _ _)))
      obtain ⟨u1a, u1b⟩ : w'.cell? ⟨w.heap.size + 1, 1, none⟩ = some (cellV w' ⟨w.heap.size + 1, 1, none⟩) ∧ w'.frozen? ⟨w.heap.size + 1, 1, none⟩ = false := by (repeat (first | (with_reducible exact ⟨by assumption, by assumption⟩) | (with_reducible refine mine_drew ?_) | (with_reducible refine mine_drewN ?_ _) | (with_reducible refine mine_below (by assumption) ?_) | ((with_reducible refine mine_new ?_ ?_); (· (simp; done)); (· rfl)) | (with_reducible refine mine_alloc ?_ _) | (with_reducible refine mine_set ?_ _ _)))
      clear m13a m13b zm13
      clear m14a m14b
      have zu : w.heap.size + 1 < w'.heap.size := World.block_lt_of_cell? _ _ u0a
      go_wp2_with fail
      refine (RY _).mono ?_
      rintro e w3 ⟨rfl, hb3⟩
      obtain ⟨f20, f21, f22, f23, f24⟩ : w3.cell? ⟨w.heap.size, 0, none⟩ = some (.int .i64 cx) ∧ w3.cell? ⟨w.heap.size, 1, none⟩ = some (.int .i64 cy) ∧ w3.cell? ⟨w.heap.size, 2, none⟩ = some (.int .i64 r) ∧ w3.cell? ⟨w.heap.size, 3, none⟩ = some (.int .i64 f) ∧ w3.cell? ⟨w.heap.size, 4, none⟩ = some (.int .i64 s) := by
        refine ⟨?_, ?_, ?_, ?_, ?_⟩ <;> (refine cell_below hb3 ?_; repeat (first | (with_reducible assumption) | (with_reducible refine cell_drew ?_) | (with_reducible refine cell_drewN ?_ _) | (with_reducible refine cell_below (by assumption) ?_) | ((with_reducible refine cell_new ?_ ?_); (· (simp; done)); (· rfl)) | (with_reducible refine cell_alloc ?_ _) | ((with_reducible refine cell_set ?_ ?_ _); (· first | (simp; done) | (simp; omega) | omega))))
      have zf20 : w.heap.size < w3.heap.size := World.block_lt_of_cell? _ _ f20
      obtain ⟨⟨m25a, m25b⟩, ⟨m26a, m26b⟩⟩ : (w3.cell? ⟨w.heap.size + 1, 0, none⟩ = some (cellV w3 ⟨w.heap.size + 1, 0, none⟩) ∧ w3.frozen? ⟨w.heap.size + 1, 0, none⟩ = false) ∧ (w3.cell? ⟨w.heap.size + 1, 1, none⟩ = some (cellV w3 ⟨w.heap.size + 1, 1, none⟩) ∧ w3.frozen? ⟨w.heap.size + 1, 1, none⟩ = false) := by
        refine ⟨?_, ?_⟩ <;> (refine mine_below hb3 ?_; repeat (first | (with_reducible exact ⟨by assumption, by assumption⟩) | (with_reducible refine mine_drew ?_) | (with_reducible refine mine_drewN ?_ _) | (with_reducible refine mine_below (by assumption) ?_) | ((with_reducible refine mine_new ?_ ?_); (· (simp; done)); (· rfl)) | (with_reducible refine mine_alloc ?_ _) | (with_reducible refine mine_set ?_ _ _)))
      have zm25 : w.heap.size + 1 < w3.heap.size := World.block_lt_of_cell? _ _ m25a
      clear f15 zf15 f16 f17 f18 f19 u0a u0b zu u1a u1b
      go_wp2_with fail
      exact bodyPost_ret (v := .tuple #[.agg #[.int .i64 0, .int .i64 0], .int .i64 0, .int .i64 2]) (by simp [results, Tryz.results67, go_sem, *]) rfl ⟨rfl, by (repeat (with_reducible (first | assumption | exact Below.refl _ _ | refine Below.drew ?_ | refine below_drewN ?_ _ | refine below_set ?_ (by simp; try omega) _ | refine below_alloc ?_ (Nat.le_refl _) _ | refine below_sub (by assumption) ?_)))⟩
  · obtain rfl : wW = 0 := W0 (by omega)
    clear MM W0 MD
    by_cases hE : E = 0
    · rw [if_pos hE] at hR
      subst hR
      subst hE
      go_enter Tryz.func67, Tryz.ntmps67
      go_wp2_with fail
      refine (TV _).mono ?_
      rintro e w1 ⟨rfl, hb1⟩
      obtain ⟨f1, f2, f3, f4, f5⟩ : w1.cell? ⟨w.heap.size, 0, none⟩ = some (.int .i64 cx) ∧ w1.cell? ⟨w.heap.size, 1, none⟩ = some (.int .i64 cy) ∧ w1.cell? ⟨w.heap.size, 2, none⟩ = some (.int .i64 r) ∧ w1.cell? ⟨w.heap.size, 3, none⟩ = some (.int .i64 f) ∧ w1.cell? ⟨w.heap.size, 4, none⟩ = some (.int .i64 s) := by
        refine ⟨?_, ?_, ?_, ?_, ?_⟩ <;> (refine cell_below hb1 ?_; repeat (first | (with_reducible assumption) | (with_reducible refine cell_drew ?_) | (with_reducible refine cell_drewN ?_ _) | (with_reducible refine cell_below (by assumption) ?_) | ((with_reducible refine cell_new ?_ ?_); (· (simp; done)); (· rfl)) | (with_reducible refine cell_alloc ?_ _) | ((with_reducible refine cell_set ?_ ?_ _); (· first | (simp; done) | (simp; omega) | omega))))
      have zf1 : w.heap.size < w1.heap.size := World.block_lt_of_cell? _ _ f1
      obtain ⟨⟨m6a, m6b⟩, ⟨m7a, m7b⟩⟩ : (w1.cell? ⟨w.heap.size + 1, 0, none⟩ = some (cellV w1 ⟨w.heap.size + 1, 0, none⟩) ∧ w1.frozen? ⟨w.heap.size + 1, 0, none⟩ = false) ∧ (w1.cell? ⟨w.heap.size + 1, 1, none⟩ = some (cellV w1 ⟨w.heap.size + 1, 1, none⟩) ∧ w1.frozen? ⟨w.heap.size + 1, 1, none⟩ = false) := by
        refine ⟨?_, ?_⟩ <;> (refine mine_below hb1 (mine_of (v := .int .i64 0) ?_ ?_) <;> simp [go_sem])
      have zm6 : w.heap.size + 1 < w1.heap.size := World.block_lt_of_cell? _ _ m6a
      go_wp2_with fail
      refine (TL _).mono ?_
      rintro e w2 ⟨rfl, hb2⟩
      obtain ⟨f8, f9, f10, f11, f12⟩ : w2.cell? ⟨w.heap.size, 0, none⟩ = some (.int .i64 cx) ∧ w2.cell? ⟨w.heap.size, 1, none⟩ = some (.int .i64 cy) ∧ w2.cell? ⟨w.heap.size, 2, none⟩ = some (.int .i64 r) ∧ w2.cell? ⟨w.heap.size, 3, none⟩ = some (.int .i64 f) ∧ w2.cell? ⟨w.heap.size, 4, none⟩ = some (.int .i64 s) := by
        refine ⟨?_, ?_, ?_, ?_, ?_⟩ <;> (refine cell_below hb2 ?_; repeat (first | (with_reducible assumption) | (with_reducible refine cell_drew ?_) | (with_reducible refine cell_drewN ?_ _) | (with_reducible refine cell_below (by assumption) ?_) | ((with_reducible refine cell_new ?_ ?_); (· (simp; done)); (· rfl)) | (with_reducible refine cell_alloc ?_ _) | ((with_reducible refine cell_set ?_ ?_ _); (· first | (simp; done) | (simp; omega) | omega))))
      have zf8 : w.heap.size < w2.heap.size := World.block_lt_of_cell? _ _ f8
      obtain ⟨⟨m13a, m13b⟩, ⟨m14a, m14b⟩⟩ : (w2.cell? ⟨w.heap.size + 1, 0, none⟩ = some (cellV w2 ⟨w.heap.size + 1, 0, none⟩) ∧ w2.frozen? ⟨w.heap.size + 1, 0, none⟩ = false) ∧ (w2.cell? ⟨w.heap.size + 1, 1, none⟩ = some (cellV w2 ⟨w.heap.size + 1, 1, none⟩) ∧ w2.frozen? ⟨w.heap.size + 1, 1, none⟩ = false) := by
        refine ⟨?_, ?_⟩ <;> (refine mine_below hb2 ?_; repeat (first | (with_reducible exact ⟨by assumption, by assumption⟩) | (with_reducible refine mine_drew ?_) | (with_reducible refine mine_drewN ?_ _) | (with_reducible refine mine_below (by assumption) ?_) | ((with_reducible refine mine_new ?_ ?_); (· (simp; done)); (· rfl)) | (with_reducible refine mine_alloc ?_ _) | (with_reducible refine mine_set ?_ _ _)))
      have zm13 : w.heap.size + 1 < w2.heap.size := World.block_lt_of_cell? _ _ m13a
      clear f1 zf1 f2 f3 f4 f5 m6a m6b zm6 m7a m7b
      go_wp2_with fail
      go_region_held3 (fun w' => w'.cell? ⟨w.heap.size, 0, none⟩ = some (.int .i64 cx) ∧ w'.cell? ⟨w.heap.size, 1, none⟩ = some (.int .i64 cy) ∧ w'.cell? ⟨w.heap.size, 2, none⟩ = some (.int .i64 r) ∧ w'.cell? ⟨w.heap.size, 3, none⟩ = some (.int .i64 f) ∧ w'.cell? ⟨w.heap.size, 4, none⟩ = some (.int .i64 s)) ((go_split_ands; refine ⟨?_, ?_, ?_, ?_, ?_⟩ <;> (repeat (first | (with_reducible assumption) | (with_reducible refine cell_drew ?_) | (with_reducible refine cell_drewN ?_ _) | (with_reducible refine cell_below (by assumption) ?_) | ((with_reducible refine cell_new ?_ ?_); (· (simp; done)); (· rfl)) | (with_reducible refine cell_alloc ?_ _) | ((with_reducible refine cell_set ?_ ?_ _); (· first | (simp; done) | (simp; omega) | omega))))))
        (first | (go_at_call 118; (with_reducible refine (SD _).mono ?_); rintro e w' ⟨rfl, hb'⟩) | (go_at_call 117; (with_reducible refine (TN _).mono ?_); rintro e w' ⟨rfl, rfl⟩))
      rename_i hH
      obtain ⟨f15, f16, f17, f18, f19⟩ := hH
      have zf15 : w.heap.size < w'.heap.size := World.block_lt_of_cell? _ _ f15
      clear f8 zf8 f9 f10 f11 f12
      obtain ⟨u0a, u0b⟩ : w'.cell? ⟨w.heap.size + 1, 0, none⟩ = some (cellV w' ⟨w.heap.size + 1, 0, none⟩) ∧ w'.frozen? ⟨w.heap.size + 1, 0, none⟩ = false := by (repeat (first | (with_reducible exact ⟨by assumption, by assumption⟩) | (with_reducible refine mine_drew ?_) | (with_reducible refine mine_drewN ?_ _) | (with_reducible refine mine_below (by assumption) ?_) | ((with_reducible refine mine_new ?_ ?_); (· (simp; done)); (· rfl)) | (with_reducible refine mine_alloc ?_ _) | (with_reducible refine mine_set ?_ _ _)))
      obtain ⟨u1a, u1b⟩ : w'.cell? ⟨w.heap.size + 1, 1, none⟩ = some (cellV w' ⟨w.heap.size + 1, 1, none⟩) ∧ w'.frozen? ⟨w.heap.size + 1, 1, none⟩ = false := by (repeat (first | (with_reducible exact ⟨by assumption, by assumption⟩) | (with_reducible refine mine_drew ?_) | (with_reducible refine mine_drewN ?_ _) | (with_reducible refine mine_below (by assumption) ?_) | ((with_reducible refine mine_new ?_ ?_); (· (simp; done)); (· rfl)) | (with_reducible refine mine_alloc ?_ _) | (with_reducible refine mine_set ?_ _ _)))
      clear m13a m13b zm13
      clear m14a m14b
      have zu : w.heap.size + 1 < w'.heap.size := World.block_lt_of_cell? _ _ u0a
      go_wp2_with fail
      refine (RY _).mono ?_
      rintro e w3 ⟨rfl, hb3⟩
      obtain ⟨f20, f21, f22, f23, f24⟩ : w3.cell? ⟨w.heap.size, 0, none⟩ = some (.int .i64 cx) ∧ w3.cell? ⟨w.heap.size, 1, none⟩ = some (.int .i64 cy) ∧ w3.cell? ⟨w.heap.size, 2, none⟩ = some (.int .i64 r) ∧ w3.cell? ⟨w.heap.size, 3, none⟩ = some (.int .i64 f) ∧ w3.cell? ⟨w.heap.size, 4, none⟩ = some (.int .i64 s) := by
        refine ⟨?_, ?_, ?_, ?_, ?_⟩ <;> (refine cell_below hb3 ?_; repeat (first | (with_reducible assumption) | (with_reducible refine cell_drew ?_) | (with_reducible refine cell_drewN ?_ _) | (with_reducible refine cell_below (by assumption) ?_) | ((with_reducible refine cell_new ?_ ?_); (· (simp; done)); (· rfl)) | (with_reducible refine cell_alloc ?_ _) | ((with_reducible refine cell_set ?_ ?_ _); (· first | (simp; done) | (simp; omega) | omega))))
      have zf20 : w.heap.size < w3.heap.size := World.block_lt_of_cell? _ _ f20
      obtain ⟨⟨m25a, m25b⟩, ⟨m26a, m26b⟩⟩ : (w3.cell? ⟨w.heap.size + 1, 0, none⟩ = some (cellV w3 ⟨w.heap.size + 1, 0, none⟩) ∧ w3.frozen? ⟨w.heap.size + 1, 0, none⟩ = false) ∧ (w3.cell? ⟨w.heap.size + 1, 1, none⟩ = some (cellV w3 ⟨w.heap.size + 1, 1, none⟩) ∧ w3.frozen? ⟨w.heap.size + 1, 1, none⟩ = false) := by
        refine ⟨?_, ?_⟩ <;> (refine mine_below hb3 ?_; repeat (first | (with_reducible exact ⟨by assumption, by assumption⟩) | (with_reducible refine mine_drew ?_) | (with_reducible refine mine_drewN ?_ _) | (with_reducible refine mine_below (by assumption) ?_) | ((with_reducible refine mine_new ?_ ?_); (· (simp; done)); (· rfl)) | (with_reducible refine mine_alloc ?_ _) | (with_reducible refine mine_set ?_ _ _)))
      have zm25 : w.heap.size + 1 < w3.heap.size := World.block_lt_of_cell? _ _ m25a
      clear f15 zf15 f16 f17 f18 f19 u0a u0b zu u1a u1b
      go_wp2_with fail
      go_region_held3 (fun w' => w'.cell? ⟨w.heap.size, 0, none⟩ = some (.int .i64 cx) ∧ w'.cell? ⟨w.heap.size, 1, none⟩ = some (.int .i64 cy) ∧ w'.cell? ⟨w.heap.size, 2, none⟩ = some (.int .i64 r) ∧ w'.cell? ⟨w.heap.size, 3, none⟩ = some (.int .i64 f) ∧ w'.cell? ⟨w.heap.size, 4, none⟩ = some (.int .i64 s) ∧ w'.cell? ⟨w3.heap.size, 0, none⟩ = some (.int .i64 X) ∧ w'.cell? ⟨w3.heap.size, 1, none⟩ = some (.int .i64 Y) ∧ (w'.cell? ⟨w.heap.size + 1, 0, none⟩ = some (cellV w' ⟨w.heap.size + 1, 0, none⟩) ∧ w'.frozen? ⟨w.heap.size + 1, 0, none⟩ = false) ∧ (w'.cell? ⟨w.heap.size + 1, 1, none⟩ = some (cellV w' ⟨w.heap.size + 1, 1, none⟩) ∧ w'.frozen? ⟨w.heap.size + 1, 1, none⟩ = false)) ((go_split_ands; refine ⟨?_, ?_, ?_, ?_, ?_, ?_, ?_, ?_, ?_⟩ <;> (first | ((repeat (first | (with_reducible assumption) | (with_reducible refine cell_drew ?_) | (with_reducible refine cell_drewN ?_ _) | (with_reducible refine cell_below (by assumption) ?_) | ((with_reducible refine cell_new ?_ ?_); (· (simp; done)); (· rfl)) | (with_reducible refine cell_alloc ?_ _) | ((with_reducible refine cell_set ?_ ?_ _); (· first | (simp; done) | (simp; omega) | omega)))); done) | (repeat (first | (with_reducible exact ⟨by assumption, by assumption⟩) | (with_reducible refine mine_drew ?_) | (with_reducible refine mine_drewN ?_ _) | (with_reducible refine mine_below (by assumption) ?_) | ((with_reducible refine mine_new ?_ ?_); (· (simp; done)); (· rfl)) | (with_reducible refine mine_alloc ?_ _) | (with_reducible refine mine_set ?_ _ _))))))
        (first | (go_at_call 118; (with_reducible refine (SQ _).mono ?_); rintro e w' ⟨rfl, hb'⟩) | (go_at_call 117; (with_reducible refine (TQ _).mono ?_); rintro e w' ⟨rfl, rfl⟩))
      rename_i hH
      clear hH
      obtain ⟨q0, q0'⟩ : w'.cell? ⟨w.heap.size + 1, 0, none⟩ = some (cellV w' ⟨w.heap.size + 1, 0, none⟩) ∧ w'.frozen? ⟨w.heap.size + 1, 0, none⟩ = false := by (repeat (first | (with_reducible exact ⟨by assumption, by assumption⟩) | (with_reducible refine mine_drew ?_) | (with_reducible refine mine_drewN ?_ _) | (with_reducible refine mine_below (by assumption) ?_) | ((with_reducible refine mine_new ?_ ?_); (· (simp; done)); (· rfl)) | (with_reducible refine mine_alloc ?_ _) | (with_reducible refine mine_set ?_ _ _)))
      obtain ⟨q1, q1'⟩ : w'.cell? ⟨w.heap.size + 1, 1, none⟩ = some (cellV w' ⟨w.heap.size + 1, 1, none⟩) ∧ w'.frozen? ⟨w.heap.size + 1, 1, none⟩ = false := by (repeat (first | (with_reducible exact ⟨by assumption, by assumption⟩) | (with_reducible refine mine_drew ?_) | (with_reducible refine mine_drewN ?_ _) | (with_reducible refine mine_below (by assumption) ?_) | ((with_reducible refine mine_new ?_ ?_); (· (simp; done)); (· rfl)) | (with_reducible refine mine_alloc ?_ _) | (with_reducible refine mine_set ?_ _ _)))
      go_wp2_with fail
      exact bodyPost_ret (v := .tuple #[.agg #[.int .i64 X, .int .i64 Y], .int .i64 T, .int .i64 0]) (by simp [results, Tryz.results67, go_sem, *]) rfl ⟨rfl, by (repeat (with_reducible (first | assumption | exact Below.refl _ _ | refine Below.drew ?_ | refine below_drewN ?_ _ | refine below_set ?_ (by simp; try omega) _ | refine below_alloc ?_ (Nat.le_refl _) _ | refine below_sub (by assumption) ?_)))⟩
    · rw [if_neg hE] at hR
      subst hR
      have T2 : (E != 0) = true := by rw [bne_iff_ne]; exact hE
      clear hE
      go_enter Tryz.func67, Tryz.ntmps67
      go_wp2_with fail
      refine (TV _).mono ?_
      rintro e w1 ⟨rfl, hb1⟩
      obtain ⟨f1, f2, f3, f4, f5⟩ : w1.cell? ⟨w.heap.size, 0, none⟩ = some (.int .i64 cx) ∧ w1.cell? ⟨w.heap.size, 1, none⟩ = some (.int .i64 cy) ∧ w1.cell? ⟨w.heap.size, 2, none⟩ = some (.int .i64 r) ∧ w1.cell? ⟨w.heap.size, 3, none⟩ = some (.int .i64 f) ∧ w1.cell? ⟨w.heap.size, 4, none⟩ = some (.int .i64 s) := by
        refine ⟨?_, ?_, ?_, ?_, ?_⟩ <;> (refine cell_below hb1 ?_; repeat (first | (with_reducible assumption) | (with_reducible refine cell_drew ?_) | (with_reducible refine cell_drewN ?_ _) | (with_reducible refine cell_below (by assumption) ?_) | ((with_reducible refine cell_new ?_ ?_); (· (simp; done)); (· rfl)) | (with_reducible refine cell_alloc ?_ _) | ((with_reducible refine cell_set ?_ ?_ _); (· first | (simp; done) | (simp; omega) | omega))))
      have zf1 : w.heap.size < w1.heap.size := World.block_lt_of_cell? _ _ f1
      obtain ⟨⟨m6a, m6b⟩, ⟨m7a, m7b⟩⟩ : (w1.cell? ⟨w.heap.size + 1, 0, none⟩ = some (cellV w1 ⟨w.heap.size + 1, 0, none⟩) ∧ w1.frozen? ⟨w.heap.size + 1, 0, none⟩ = false) ∧ (w1.cell? ⟨w.heap.size + 1, 1, none⟩ = some (cellV w1 ⟨w.heap.size + 1, 1, none⟩) ∧ w1.frozen? ⟨w.heap.size + 1, 1, none⟩ = false) := by
        refine ⟨?_, ?_⟩ <;> (refine mine_below hb1 (mine_of (v := .int .i64 0) ?_ ?_) <;> simp [go_sem])
      have zm6 : w.heap.size + 1 < w1.heap.size := World.block_lt_of_cell? _ _ m6a
      go_wp2_with fail
      refine (TL _).mono ?_
      rintro e w2 ⟨rfl, hb2⟩
      obtain ⟨f8, f9, f10, f11, f12⟩ : w2.cell? ⟨w.heap.size, 0, none⟩ = some (.int .i64 cx) ∧ w2.cell? ⟨w.heap.size, 1, none⟩ = some (.int .i64 cy) ∧ w2.cell? ⟨w.heap.size, 2, none⟩ = some (.int .i64 r) ∧ w2.cell? ⟨w.heap.size, 3, none⟩ = some (.int .i64 f) ∧ w2.cell? ⟨w.heap.size, 4, none⟩ = some (.int .i64 s) := by
        refine ⟨?_, ?_, ?_, ?_, ?_⟩ <;> (refine cell_below hb2 ?_; repeat (first | (with_reducible assumption) | (with_reducible refine cell_drew ?_) | (with_reducible refine cell_drewN ?_ _) | (with_reducible refine cell_below (by assumption) ?_) | ((with_reducible refine cell_new ?_ ?_); (· (simp; done)); (· rfl)) | (with_reducible refine cell_alloc ?_ _) | ((with_reducible refine cell_set ?_ ?_ _); (· first | (simp; done) | (simp; omega) | omega))))
      have zf8 : w.heap.size < w2.heap.size := World.block_lt_of_cell? _ _ f8
      obtain ⟨⟨m13a, m13b⟩, ⟨m14a, m14b⟩⟩ : (w2.cell? ⟨w.heap.size + 1, 0, none⟩ = some (cellV w2 ⟨w.heap.size + 1, 0, none⟩) ∧ w2.frozen? ⟨w.heap.size + 1, 0, none⟩ = false) ∧ (w2.cell? ⟨w.heap.size + 1, 1, none⟩ = some (cellV w2 ⟨w.heap.size + 1, 1, none⟩) ∧ w2.frozen? ⟨w.heap.size + 1, 1, none⟩ = false) := by
        refine ⟨?_, ?_⟩ <;> (refine mine_below hb2 ?_; repeat (first | (with_reducible exact ⟨by assumption, by assumption⟩) | (with_reducible refine mine_drew ?_) | (with_reducible refine mine_drewN ?_ _) | (with_reducible refine mine_below (by assumption) ?_) | ((with_reducible refine mine_new ?_ ?_); (· (simp; done)); (· rfl)) | (with_reducible refine mine_alloc ?_ _) | (with_reducible refine mine_set ?_ _ _)))
      have zm13 : w.heap.size + 1 < w2.heap.size := World.block_lt_of_cell? _ _ m13a
      clear f1 zf1 f2 f3 f4 f5 m6a m6b zm6 m7a m7b
      go_wp2_with fail
      go_region_held3 (fun w' => w'.cell? ⟨w.heap.size, 0, none⟩ = some (.int .i64 cx) ∧ w'.cell? ⟨w.heap.size, 1, none⟩ = some (.int .i64 cy) ∧ w'.cell? ⟨w.heap.size, 2, none⟩ = some (.int .i64 r) ∧ w'.cell? ⟨w.heap.size, 3, none⟩ = some (.int .i64 f) ∧ w'.cell? ⟨w.heap.size, 4, none⟩ = some (.int .i64 s)) ((go_split_ands; refine ⟨?_, ?_, ?_, ?_, ?_⟩ <;> (repeat (first | (with_reducible assumption) | (with_reducible refine cell_drew ?_) | (with_reducible refine cell_drewN ?_ _) | (with_reducible refine cell_below (by assumption) ?_) | ((with_reducible refine cell_new ?_ ?_); (· (simp; done)); (· rfl)) | (with_reducible refine cell_alloc ?_ _) | ((with_reducible refine cell_set ?_ ?_ _); (· first | (simp; done) | (simp; omega) | omega))))))
        (first | (go_at_call 118; (with_reducible refine (SD _).mono ?_); rintro e w' ⟨rfl, hb'⟩) | (go_at_call 117; (with_reducible refine (TN _).mono ?_); rintro e w' ⟨rfl, rfl⟩))
      rename_i hH
      obtain ⟨f15, f16, f17, f18, f19⟩ := hH
      have zf15 : w.heap.size < w'.heap.size := World.block_lt_of_cell? _ _ f15
      clear f8 zf8 f9 f10 f11 f12
      obtain ⟨u0a, u0b⟩ : w'.cell? ⟨w.heap.size + 1, 0, none⟩ = some (cellV w' ⟨w.heap.size + 1, 0, none⟩) ∧ w'.frozen? ⟨w.heap.size + 1, 0, none⟩ = false := by (repeat (first | (with_reducible exact ⟨by assumption, by assumption⟩) | (with_reducible refine mine_drew ?_) | (with_reducible refine mine_drewN ?_ _) | (with_reducible refine mine_below (by assumption) ?_) | ((with_reducible refine mine_new ?_ ?_); (· (simp; done)); (· rfl)) | (with_reducible refine mine_alloc ?_ _) | (with_reducible refine mine_set ?_ _ _)))
      obtain ⟨u1a, u1b⟩ : w'.cell? ⟨w.heap.size + 1, 1, none⟩ = some (cellV w' ⟨w.heap.size + 1, 1, none⟩) ∧ w'.frozen? ⟨w.heap.size + 1, 1, none⟩ = false := by (repeat (first | (with_reducible exact ⟨by assumption, by assumption⟩) | (with_reducible refine mine_drew ?_) | (with_reducible refine mine_drewN ?_ _) | (with_reducible refine mine_below (by assumption) ?_) | ((with_reducible refine mine_new ?_ ?_); (· (simp; done)); (· rfl)) | (with_reducible refine mine_alloc ?_ _) | (with_reducible refine mine_set ?_ _ _)))
      clear m13a m13b zm13
      clear m14a m14b
      have zu : w.heap.size + 1 < w'.heap.size := World.block_lt_of_cell? _ _ u0a
      go_wp2_with fail
      refine (RY _).mono ?_
      rintro e w3 ⟨rfl, hb3⟩
      obtain ⟨f20, f21, f22, f23, f24⟩ : w3.cell? ⟨w.heap.size, 0, none⟩ = some (.int .i64 cx) ∧ w3.cell? ⟨w.heap.size, 1, none⟩ = some (.int .i64 cy) ∧ w3.cell? ⟨w.heap.size, 2, none⟩ = some (.int .i64 r) ∧ w3.cell? ⟨w.heap.size, 3, none⟩ = some (.int .i64 f) ∧ w3.cell? ⟨w.heap.size, 4, none⟩ = some (.int .i64 s) := by
        refine ⟨?_, ?_, ?_, ?_, ?_⟩ <;> (refine cell_below hb3 ?_; repeat (first | (with_reducible assumption) | (with_reducible refine cell_drew ?_) | (with_reducible refine cell_drewN ?_ _) | (with_reducible refine cell_below (by assumption) ?_) | ((with_reducible refine cell_new ?_ ?_); (· (simp; done)); (· rfl)) | (with_reducible refine cell_alloc ?_ _) | ((with_reducible refine cell_set ?_ ?_ _); (· first | (simp; done) | (simp; omega) | omega))))
      have zf20 : w.heap.size < w3.heap.size := World.block_lt_of_cell? _ _ f20
      obtain ⟨⟨m25a, m25b⟩, ⟨m26a, m26b⟩⟩ : (w3.cell? ⟨w.heap.size + 1, 0, none⟩ = some (cellV w3 ⟨w.heap.size + 1, 0, none⟩) ∧ w3.frozen? ⟨w.heap.size + 1, 0, none⟩ = false) ∧ (w3.cell? ⟨w.heap.size + 1, 1, none⟩ = some (cellV w3 ⟨w.heap.size + 1, 1, none⟩) ∧ w3.frozen? ⟨w.heap.size + 1, 1, none⟩ = false) := by
        refine ⟨?_, ?_⟩ <;> (refine mine_below hb3 ?_; repeat (first | (with_reducible exact ⟨by assumption, by assumption⟩) | (with_reducible refine mine_drew ?_) | (with_reducible refine mine_drewN ?_ _) | (with_reducible refine mine_below (by assumption) ?_) | ((with_reducible refine mine_new ?_ ?_); (· (simp; done)); (· rfl)) | (with_reducible refine mine_alloc ?_ _) | (with_reducible refine mine_set ?_ _ _)))
      have zm25 : w.heap.size + 1 < w3.heap.size := World.block_lt_of_cell? _ _ m25a
      clear f15 zf15 f16 f17 f18 f19 u0a u0b zu u1a u1b
      go_wp2_with fail
      exact bodyPost_ret (v := .tuple #[.agg #[.int .i64 0, .int .i64 0], .int .i64 0, .int .i64 2]) (by simp [results, Tryz.results67, go_sem, *]) rfl ⟨rfl, by (repeat (with_reducible (first | assumption | exact Below.refl _ _ | refine Below.drew ?_ | refine below_drewN ?_ _ | refine below_set ?_ (by simp; try omega) _ | refine below_alloc ?_ (Nat.le_refl _) _ | refine below_sub (by assumption) ?_)))⟩
theorem rarcat_any (cx cy r f s al : Int) (w : World) (R : Int × Int × Int × Int) (hR : R = arcAt cx cy r f s al) :
    Calls Tryz.prog 85 #[.agg #[.int .i64 cx, .int .i64 cy, .int .i64 r, .int .i64 f, .int .i64 s], .int .i64 al] w fun e w' => e = .returned (.tuple #[.agg #[.int .i64 R.1, .int .i64 R.2.1], .int .i64 R.2.2.1, .int .i64 R.2.2.2]) ∧ Below w.heap.size w w' := by
  have TV := fun W => rtvalid_any cx cy r f s W
  have TL := fun W => rtlen_any cx cy r f s W
  rcases hB : arcB cx cy r f s with _ | _
  · rw [arcAt_no hB] at hR
    rw [hB] at TV
    subst hR
    clear hB
    generalize arcLen cx cy r f s = n at *
    go_enter Tryz.func85, Tryz.ntmps85
    go_wp2_with fail
    refine (TL _).mono ?_
    rintro e w1 ⟨rfl, hb1⟩
    obtain ⟨f1, f2, f3, f4, f5⟩ : w1.cell? ⟨w.heap.size, 0, none⟩ = some (.int .i64 cx) ∧ w1.cell? ⟨w.heap.size, 1, none⟩ = some (.int .i64 cy) ∧ w1.cell? ⟨w.heap.size, 2, none⟩ = some (.int .i64 r) ∧ w1.cell? ⟨w.heap.size, 3, none⟩ = some (.int .i64 f) ∧ w1.cell? ⟨w.heap.size, 4, none⟩ = some (.int .i64 s) := by
      refine ⟨?_, ?_, ?_, ?_, ?_⟩ <;> (refine cell_below hb1 ?_; repeat (first | (with_reducible assumption) | (with_reducible refine cell_drew ?_) | (with_reducible refine cell_drewN ?_ _) | (with_reducible refine cell_below (by assumption) ?_) | ((with_reducible refine cell_new ?_ ?_); (· (simp; done)); (· rfl)) | (with_reducible refine cell_alloc ?_ _) | ((with_reducible refine cell_set ?_ ?_ _); (· first | (simp; done) | (simp; omega) | omega))))
    have zf1 : w.heap.size < w1.heap.size := World.block_lt_of_cell? _ _ f1
    obtain ⟨⟨m6a, m6b⟩, ⟨m7a, m7b⟩⟩ : (w1.cell? ⟨w.heap.size + 1, 0, none⟩ = some (cellV w1 ⟨w.heap.size + 1, 0, none⟩) ∧ w1.frozen? ⟨w.heap.size + 1, 0, none⟩ = false) ∧ (w1.cell? ⟨w.heap.size + 1, 1, none⟩ = some (cellV w1 ⟨w.heap.size + 1, 1, none⟩) ∧ w1.frozen? ⟨w.heap.size + 1, 1, none⟩ = false) := by
      refine ⟨?_, ?_⟩ <;> (refine mine_below hb1 (mine_of (v := .int .i64 0) ?_ ?_) <;> simp [go_sem])
    have zm6 : w.heap.size + 1 < w1.heap.size := World.block_lt_of_cell? _ _ m6a
    go_wp2_with fail
    refine (TV _).mono ?_
    rintro e w2 ⟨rfl, hb2⟩
    obtain ⟨f8, f9, f10, f11, f12⟩ : w2.cell? ⟨w.heap.size, 0, none⟩ = some (.int .i64 cx) ∧ w2.cell? ⟨w.heap.size, 1, none⟩ = some (.int .i64 cy) ∧ w2.cell? ⟨w.heap.size, 2, none⟩ = some (.int .i64 r) ∧ w2.cell? ⟨w.heap.size, 3, none⟩ = some (.int .i64 f) ∧ w2.cell? ⟨w.heap.size, 4, none⟩ = some (.int .i64 s) := by
      refine ⟨?_, ?_, ?_, ?_, ?_⟩ <;> (refine cell_below hb2 ?_; repeat (first | (with_reducible assumption) | (with_reducible refine cell_drew ?_) | (with_reducible refine cell_drewN ?_ _) | (with_reducible refine cell_below (by assumption) ?_) | ((with_reducible refine cell_new ?_ ?_); (· (simp; done)); (· rfl)) | (with_reducible refine cell_alloc ?_ _) | ((with_reducible refine cell_set ?_ ?_ _); (· first | (simp; done) | (simp; omega) | omega))))
    have zf8 : w.heap.size < w2.heap.size := World.block_lt_of_cell? _ _ f8
    obtain ⟨⟨m13a, m13b⟩, ⟨m14a, m14b⟩⟩ : (w2.cell? ⟨w.heap.size + 1, 0, none⟩ = some (cellV w2 ⟨w.heap.size + 1, 0, none⟩) ∧ w2.frozen? ⟨w.heap.size + 1, 0, none⟩ = false) ∧ (w2.cell? ⟨w.heap.size + 1, 1, none⟩ = some (cellV w2 ⟨w.heap.size + 1, 1, none⟩) ∧ w2.frozen? ⟨w.heap.size + 1, 1, none⟩ = false) := by
      refine ⟨?_, ?_⟩ <;> (refine mine_below hb2 ?_; repeat (first | (with_reducible exact ⟨by assumption, by assumption⟩) | (with_reducible refine mine_drew ?_) | (with_reducible refine mine_drewN ?_ _) | (with_reducible refine mine_below (by assumption) ?_) | ((with_reducible refine mine_new ?_ ?_); (· (simp; done)); (· rfl)) | (with_reducible refine mine_alloc ?_ _) | (with_reducible refine mine_set ?_ _ _)))
    have zm13 : w.heap.size + 1 < w2.heap.size := World.block_lt_of_cell? _ _ m13a
    clear f1 zf1 f2 f3 f4 f5 m6a m6b zm6 m7a m7b
    go_wp2_with fail
    exact bodyPost_ret (v := .tuple #[.agg #[.int .i64 0, .int .i64 0], .int .i64 0, .int .i64 1]) (by simp [results, Tryz.results85, go_sem, *]) rfl ⟨rfl, by (repeat (with_reducible (first | assumption | exact Below.refl _ _ | refine Below.drew ?_ | refine below_drewN ?_ _ | refine below_set ?_ (by simp; try omega) _ | refine below_alloc ?_ (Nat.le_refl _) _ | refine below_sub (by assumption) ?_)))⟩
  rw [hB] at TV
  have nb := arcLen_bd cx cy r f s
  by_cases ho : al < 0 ∨ al > arcLen cx cy r f s
  · rw [arcAt_out hB ho] at hR
    subst hR
    have T : al < 0 ∨ (¬ al < 0 ∧ al > arcLen cx cy r f s) := by omega
    generalize arcLen cx cy r f s = n at *
    clear ho hB
    rcases T with t1 | ⟨t1, t2⟩
    all_goals
    go_enter Tryz.func85, Tryz.ntmps85
    go_wp2_with fail
    refine (TL _).mono ?_
    rintro e w1 ⟨rfl, hb1⟩
    obtain ⟨f1, f2, f3, f4, f5⟩ : w1.cell? ⟨w.heap.size, 0, none⟩ = some (.int .i64 cx) ∧ w1.cell? ⟨w.heap.size, 1, none⟩ = some (.int .i64 cy) ∧ w1.cell? ⟨w.heap.size, 2, none⟩ = some (.int .i64 r) ∧ w1.cell? ⟨w.heap.size, 3, none⟩ = some (.int .i64 f) ∧ w1.cell? ⟨w.heap.size, 4, none⟩ = some (.int .i64 s) := by
      refine ⟨?_, ?_, ?_, ?_, ?_⟩ <;> (refine cell_below hb1 ?_; repeat (first | (with_reducible assumption) | (with_reducible refine cell_drew ?_) | (with_reducible refine cell_drewN ?_ _) | (with_reducible refine cell_below (by assumption) ?_) | ((with_reducible refine cell_new ?_ ?_); (· (simp; done)); (· rfl)) | (with_reducible refine cell_alloc ?_ _) | ((with_reducible refine cell_set ?_ ?_ _); (· first | (simp; done) | (simp; omega) | omega))))
    have zf1 : w.heap.size < w1.heap.size := World.block_lt_of_cell? _ _ f1
    obtain ⟨⟨m6a, m6b⟩, ⟨m7a, m7b⟩⟩ : (w1.cell? ⟨w.heap.size + 1, 0, none⟩ = some (cellV w1 ⟨w.heap.size + 1, 0, none⟩) ∧ w1.frozen? ⟨w.heap.size + 1, 0, none⟩ = false) ∧ (w1.cell? ⟨w.heap.size + 1, 1, none⟩ = some (cellV w1 ⟨w.heap.size + 1, 1, none⟩) ∧ w1.frozen? ⟨w.heap.size + 1, 1, none⟩ = false) := by
      refine ⟨?_, ?_⟩ <;> (refine mine_below hb1 (mine_of (v := .int .i64 0) ?_ ?_) <;> simp [go_sem])
    have zm6 : w.heap.size + 1 < w1.heap.size := World.block_lt_of_cell? _ _ m6a
    go_wp2_with fail
    refine (TV _).mono ?_
    rintro e w2 ⟨rfl, hb2⟩
    obtain ⟨f8, f9, f10, f11, f12⟩ : w2.cell? ⟨w.heap.size, 0, none⟩ = some (.int .i64 cx) ∧ w2.cell? ⟨w.heap.size, 1, none⟩ = some (.int .i64 cy) ∧ w2.cell? ⟨w.heap.size, 2, none⟩ = some (.int .i64 r) ∧ w2.cell? ⟨w.heap.size, 3, none⟩ = some (.int .i64 f) ∧ w2.cell? ⟨w.heap.size, 4, none⟩ = some (.int .i64 s) := by
      refine ⟨?_, ?_, ?_, ?_, ?_⟩ <;> (refine cell_below hb2 ?_; repeat (first | (with_reducible assumption) | (with_reducible refine cell_drew ?_) | (with_reducible refine cell_drewN ?_ _) | (with_reducible refine cell_below (by assumption) ?_) | ((with_reducible refine cell_new ?_ ?_); (· (simp; done)); (· rfl)) | (with_reducible refine cell_alloc ?_ _) | ((with_reducible refine cell_set ?_ ?_ _); (· first | (simp; done) | (simp; omega) | omega))))
    have zf8 : w.heap.size < w2.heap.size := World.block_lt_of_cell? _ _ f8
    obtain ⟨⟨m13a, m13b⟩, ⟨m14a, m14b⟩⟩ : (w2.cell? ⟨w.heap.size + 1, 0, none⟩ = some (cellV w2 ⟨w.heap.size + 1, 0, none⟩) ∧ w2.frozen? ⟨w.heap.size + 1, 0, none⟩ = false) ∧ (w2.cell? ⟨w.heap.size + 1, 1, none⟩ = some (cellV w2 ⟨w.heap.size + 1, 1, none⟩) ∧ w2.frozen? ⟨w.heap.size + 1, 1, none⟩ = false) := by
      refine ⟨?_, ?_⟩ <;> (refine mine_below hb2 ?_; repeat (first | (with_reducible exact ⟨by assumption, by assumption⟩) | (with_reducible refine mine_drew ?_) | (with_reducible refine mine_drewN ?_ _) | (with_reducible refine mine_below (by assumption) ?_) | ((with_reducible refine mine_new ?_ ?_); (· (simp; done)); (· rfl)) | (with_reducible refine mine_alloc ?_ _) | (with_reducible refine mine_set ?_ _ _)))
    have zm13 : w.heap.size + 1 < w2.heap.size := World.block_lt_of_cell? _ _ m13a
    clear f1 zf1 f2 f3 f4 f5 m6a m6b zm6 m7a m7b
    go_wp2_with fail
    exact bodyPost_ret (v := .tuple #[.agg #[.int .i64 0, .int .i64 0], .int .i64 0, .int .i64 2]) (by simp [results, Tryz.results85, go_sem, *]) rfl ⟨rfl, by (repeat (with_reducible (first | assumption | exact Below.refl _ _ | refine Below.drew ?_ | refine below_drewN ?_ _ | refine below_set ?_ (by simp; try omega) _ | refine below_alloc ?_ (Nat.le_refl _) _ | refine below_sub (by assumption) ?_)))⟩
  obtain ⟨hv, ⟨b1, b2⟩, ⟨b3, b4⟩, b5, b6⟩ := arc_cases hB
  obtain ⟨Y0, hY0⟩ : ∃ Y, Y = rayF cx cy (arcDir f s (arcLen cx cy r f s) al) r := ⟨_, rfl⟩
  obtain ⟨X, Y, E⟩ := Y0
  rw [arcAt_in hB ho hY0.symm] at hR
  have hn : al ≤ arcLen cx cy r f s := by omega
  have h0 : 0 ≤ al := by omega
  clear ho hB
  generalize arcLen cx cy r f s = n at *
  have db : 0 ≤ arcDir f s n al ∧ arcDir f s n al < 129600000 := turnF_bd _ _
  have RY := fun W => rray_any cx cy (arcDir f s n al) r (by unfold I64; omega) (by unfold I64; omega) W _ hY0
  have sq : -32400000 ≤ sideOf s 32400000 ∧ sideOf s 32400000 ≤ 32400000 := by unfold sideOf; split <;> omega
  have wb : 0 ≤ arcW n s al ∧ arcW n s al ≤ 129600000 := by
    by_cases hn0 : 0 < n
    · exact (arcW_in hn0 h0 hn nb.2 (by omega)).2
    · unfold arcW; rw [if_neg hn0]; omega
  have sw : -129600000 ≤ sideOf s (arcW n s al) ∧ sideOf s (arcW n s al) ≤ 129600000 := by unfold sideOf; split <;> omega
  have AB := fun W => rsz_any s (by omega) (by omega) W
  have SD := fun W => rtside_any f (arcW n s al) s (by unfold I64; omega) (by omega) (by omega) W
  have SQ := fun W => rtside_any (arcDir f s n al) 32400000 s (by unfold I64; omega) (by omega) (by omega) W
  rw [show turnF f (sideOf s (arcW n s al)) = arcDir f s n al from rfl] at SD
  have MM := fun (h : 0 < n) => (arcW_in h h0 hn nb.2 (show (s.natAbs : Int) ≤ 129600000 by omega)).1
  have MD := fun W => rmuldivround_any al s.natAbs n (by unfold I64; omega) (by unfold I64; omega) (by unfold I64; omega) W
  have W0 : n ≤ 0 → arcW n s al = 0 := fun h => by unfold arcW; rw [if_neg (by omega)]
  clear hY0
  generalize turnF (arcDir f s n al) (sideOf s 32400000) = T at *
  generalize arcDir f s n al = D at *
  generalize (s.natAbs : Int) = a at *
  generalize sideOf s (arcW n s al) = sW at *
  generalize sideOf s 32400000 = sQ at *
  generalize arcW n s al = wW at *
  by_cases hn0 : 0 < n
  · rw [MM hn0] at MD
    clear MM W0
    by_cases hE : E = 0
    · rw [if_pos hE] at hR
      subst hR
      subst hE
      go_enter Tryz.func85, Tryz.ntmps85
      go_wp2_with fail
      refine (TL _).mono ?_
      rintro e w1 ⟨rfl, hb1⟩
      obtain ⟨f1, f2, f3, f4, f5⟩ : w1.cell? ⟨w.heap.size, 0, none⟩ = some (.int .i64 cx) ∧ w1.cell? ⟨w.heap.size, 1, none⟩ = some (.int .i64 cy) ∧ w1.cell? ⟨w.heap.size, 2, none⟩ = some (.int .i64 r) ∧ w1.cell? ⟨w.heap.size, 3, none⟩ = some (.int .i64 f) ∧ w1.cell? ⟨w.heap.size, 4, none⟩ = some (.int .i64 s) := by
        refine ⟨?_, ?_, ?_, ?_, ?_⟩ <;> (refine cell_below hb1 ?_; repeat (first | (with_reducible assumption) | (with_reducible refine cell_drew ?_) | (with_reducible refine cell_drewN ?_ _) | (with_reducible refine cell_below (by assumption) ?_) | ((with_reducible refine cell_new ?_ ?_); (· (simp; done)); (· rfl)) | (with_reducible refine cell_alloc ?_ _) | ((with_reducible refine cell_set ?_ ?_ _); (· first | (simp; done) | (simp; omega) | omega))))
      have zf1 : w.heap.size < w1.heap.size := World.block_lt_of_cell? _ _ f1
      obtain ⟨⟨m6a, m6b⟩, ⟨m7a, m7b⟩⟩ : (w1.cell? ⟨w.heap.size + 1, 0, none⟩ = some (cellV w1 ⟨w.heap.size + 1, 0, none⟩) ∧ w1.frozen? ⟨w.heap.size + 1, 0, none⟩ = false) ∧ (w1.cell? ⟨w.heap.size + 1, 1, none⟩ = some (cellV w1 ⟨w.heap.size + 1, 1, none⟩) ∧ w1.frozen? ⟨w.heap.size + 1, 1, none⟩ = false) := by
        refine ⟨?_, ?_⟩ <;> (refine mine_below hb1 (mine_of (v := .int .i64 0) ?_ ?_) <;> simp [go_sem])
      have zm6 : w.heap.size + 1 < w1.heap.size := World.block_lt_of_cell? _ _ m6a
      go_wp2_with fail
      refine (TV _).mono ?_
      rintro e w2 ⟨rfl, hb2⟩
      obtain ⟨f8, f9, f10, f11, f12⟩ : w2.cell? ⟨w.heap.size, 0, none⟩ = some (.int .i64 cx) ∧ w2.cell? ⟨w.heap.size, 1, none⟩ = some (.int .i64 cy) ∧ w2.cell? ⟨w.heap.size, 2, none⟩ = some (.int .i64 r) ∧ w2.cell? ⟨w.heap.size, 3, none⟩ = some (.int .i64 f) ∧ w2.cell? ⟨w.heap.size, 4, none⟩ = some (.int .i64 s) := by
        refine ⟨?_, ?_, ?_, ?_, ?_⟩ <;> (refine cell_below hb2 ?_; repeat (first | (with_reducible assumption) | (with_reducible refine cell_drew ?_) | (with_reducible refine cell_drewN ?_ _) | (with_reducible refine cell_below (by assumption) ?_) | ((with_reducible refine cell_new ?_ ?_); (· (simp; done)); (· rfl)) | (with_reducible refine cell_alloc ?_ _) | ((with_reducible refine cell_set ?_ ?_ _); (· first | (simp; done) | (simp; omega) | omega))))
      have zf8 : w.heap.size < w2.heap.size := World.block_lt_of_cell? _ _ f8
      obtain ⟨⟨m13a, m13b⟩, ⟨m14a, m14b⟩⟩ : (w2.cell? ⟨w.heap.size + 1, 0, none⟩ = some (cellV w2 ⟨w.heap.size + 1, 0, none⟩) ∧ w2.frozen? ⟨w.heap.size + 1, 0, none⟩ = false) ∧ (w2.cell? ⟨w.heap.size + 1, 1, none⟩ = some (cellV w2 ⟨w.heap.size + 1, 1, none⟩) ∧ w2.frozen? ⟨w.heap.size + 1, 1, none⟩ = false) := by
        refine ⟨?_, ?_⟩ <;> (refine mine_below hb2 ?_; repeat (first | (with_reducible exact ⟨by assumption, by assumption⟩) | (with_reducible refine mine_drew ?_) | (with_reducible refine mine_drewN ?_ _) | (with_reducible refine mine_below (by assumption) ?_) | ((with_reducible refine mine_new ?_ ?_); (· (simp; done)); (· rfl)) | (with_reducible refine mine_alloc ?_ _) | (with_reducible refine mine_set ?_ _ _)))
      have zm13 : w.heap.size + 1 < w2.heap.size := World.block_lt_of_cell? _ _ m13a
      clear f1 zf1 f2 f3 f4 f5 m6a m6b zm6 m7a m7b
      go_wp2_with (first | (go_at_call 131; refine (AB _).mono ?_; rintro e w' ⟨rfl, rfl⟩) | (go_at_call 134; refine (MD _).mono ?_; rintro e w' ⟨rfl, n1, rfl⟩) | (go_at_call 135; refine (SD _).mono ?_; rintro e w' ⟨rfl, rfl⟩))
      refine (RY _).mono ?_
      rintro e w3 ⟨rfl, hb3⟩
      obtain ⟨f15, f16, f17, f18, f19⟩ : w3.cell? ⟨w.heap.size, 0, none⟩ = some (.int .i64 cx) ∧ w3.cell? ⟨w.heap.size, 1, none⟩ = some (.int .i64 cy) ∧ w3.cell? ⟨w.heap.size, 2, none⟩ = some (.int .i64 r) ∧ w3.cell? ⟨w.heap.size, 3, none⟩ = some (.int .i64 f) ∧ w3.cell? ⟨w.heap.size, 4, none⟩ = some (.int .i64 s) := by
        refine ⟨?_, ?_, ?_, ?_, ?_⟩ <;> (refine cell_below hb3 ?_; repeat (first | (with_reducible assumption) | (with_reducible refine cell_drew ?_) | (with_reducible refine cell_drewN ?_ _) | (with_reducible refine cell_below (by assumption) ?_) | ((with_reducible refine cell_new ?_ ?_); (· (simp; done)); (· rfl)) | (with_reducible refine cell_alloc ?_ _) | ((with_reducible refine cell_set ?_ ?_ _); (· first | (simp; done) | (simp; omega) | omega))))
      have zf15 : w.heap.size < w3.heap.size := World.block_lt_of_cell? _ _ f15
      obtain ⟨⟨m20a, m20b⟩, ⟨m21a, m21b⟩⟩ : (w3.cell? ⟨w.heap.size + 1, 0, none⟩ = some (cellV w3 ⟨w.heap.size + 1, 0, none⟩) ∧ w3.frozen? ⟨w.heap.size + 1, 0, none⟩ = false) ∧ (w3.cell? ⟨w.heap.size + 1, 1, none⟩ = some (cellV w3 ⟨w.heap.size + 1, 1, none⟩) ∧ w3.frozen? ⟨w.heap.size + 1, 1, none⟩ = false) := by
        refine ⟨?_, ?_⟩ <;> (refine mine_below hb3 ?_; repeat (first | (with_reducible exact ⟨by assumption, by assumption⟩) | (with_reducible refine mine_drew ?_) | (with_reducible refine mine_drewN ?_ _) | (with_reducible refine mine_below (by assumption) ?_) | ((with_reducible refine mine_new ?_ ?_); (· (simp; done)); (· rfl)) | (with_reducible refine mine_alloc ?_ _) | (with_reducible refine mine_set ?_ _ _)))
      have zm20 : w.heap.size + 1 < w3.heap.size := World.block_lt_of_cell? _ _ m20a
      clear f8 zf8 f9 f10 f11 f12 m13a m13b zm13 m14a m14b
      go_wp2_with fail
      go_region_held3 (fun w' => w'.cell? ⟨w.heap.size, 0, none⟩ = some (.int .i64 cx) ∧ w'.cell? ⟨w.heap.size, 1, none⟩ = some (.int .i64 cy) ∧ w'.cell? ⟨w.heap.size, 2, none⟩ = some (.int .i64 r) ∧ w'.cell? ⟨w.heap.size, 3, none⟩ = some (.int .i64 f) ∧ w'.cell? ⟨w.heap.size, 4, none⟩ = some (.int .i64 s) ∧ w'.cell? ⟨w3.heap.size, 0, none⟩ = some (.int .i64 X) ∧ w'.cell? ⟨w3.heap.size, 1, none⟩ = some (.int .i64 Y) ∧ (w'.cell? ⟨w.heap.size + 1, 0, none⟩ = some (cellV w' ⟨w.heap.size + 1, 0, none⟩) ∧ w'.frozen? ⟨w.heap.size + 1, 0, none⟩ = false) ∧ (w'.cell? ⟨w.heap.size + 1, 1, none⟩ = some (cellV w' ⟨w.heap.size + 1, 1, none⟩) ∧ w'.frozen? ⟨w.heap.size + 1, 1, none⟩ = false)) ((go_split_ands; refine ⟨?_, ?_, ?_, ?_, ?_, ?_, ?_, ?_, ?_⟩ <;> (first | ((repeat (first | (with_reducible assumption) | (with_reducible refine cell_drew ?_) | (with_reducible refine cell_drewN ?_ _) | (with_reducible refine cell_below (by assumption) ?_) | ((with_reducible refine cell_new ?_ ?_); (· (simp; done)); (· rfl)) | (with_reducible refine cell_alloc ?_ _) | ((with_reducible refine cell_set ?_ ?_ _); (· first | (simp; done) | (simp; omega) | omega)))); done) | (repeat (first | (with_reducible exact ⟨by assumption, by assumption⟩) | (with_reducible refine mine_drew ?_) | (with_reducible refine mine_drewN ?_ _) | (with_reducible refine mine_below (by assumption) ?_) | ((with_reducible refine mine_new ?_ ?_); (· (simp; done)); (· rfl)) | (with_reducible refine mine_alloc ?_ _) | (with_reducible refine mine_set ?_ _ _))))))
        (first | (go_at_call 135; (with_reducible refine (SQ _).mono ?_); rintro e w' ⟨rfl, rfl⟩))
      rename_i hH
      clear hH
      go_wp2_with fail
      exact bodyPost_ret (v := .tuple #[.agg #[.int .i64 X, .int .i64 Y], .int .i64 T, .int .i64 0]) (by simp [results, Tryz.results85, go_sem, *]) rfl ⟨rfl, by (repeat (with_reducible (first | assumption | exact Below.refl _ _ | refine Below.drew ?_ | refine below_drewN ?_ _ | refine below_set ?_ (by simp; try omega) _ | refine below_alloc ?_ (Nat.le_refl _) _ | refine below_sub (by assumption) ?_)))⟩
    · rw [if_neg hE] at hR
      subst hR
      have T2 : (E != 0) = true := by rw [bne_iff_ne]; exact hE
      clear hE
      go_enter Tryz.func85, Tryz.ntmps85
      go_wp2_with fail
      refine (TL _).mono ?_
      rintro e w1 ⟨rfl, hb1⟩
      obtain ⟨f1, f2, f3, f4, f5⟩ : w1.cell? ⟨w.heap.size, 0, none⟩ = some (.int .i64 cx) ∧ w1.cell? ⟨w.heap.size, 1, none⟩ = some (.int .i64 cy) ∧ w1.cell? ⟨w.heap.size, 2, none⟩ = some (.int .i64 r) ∧ w1.cell? ⟨w.heap.size, 3, none⟩ = some (.int .i64 f) ∧ w1.cell? ⟨w.heap.size, 4, none⟩ = some (.int .i64 s) := by
        refine ⟨?_, ?_, ?_, ?_, ?_⟩ <;> (refine cell_below hb1 ?_; repeat (first | (with_reducible assumption) | (with_reducible refine cell_drew ?_) | (with_reducible refine cell_drewN ?_ _) | (with_reducible refine cell_below (by assumption) ?_) | ((with_reducible refine cell_new ?_ ?_); (· (simp; done)); (· rfl)) | (with_reducible refine cell_alloc ?_ _) | ((with_reducible refine cell_set ?_ ?_ _); (· first | (simp; done) | (simp; omega) | omega))))
      have zf1 : w.heap.size < w1.heap.size := World.block_lt_of_cell? _ _ f1
      obtain ⟨⟨m6a, m6b⟩, ⟨m7a, m7b⟩⟩ : (w1.cell? ⟨w.heap.size + 1, 0, none⟩ = some (cellV w1 ⟨w.heap.size + 1, 0, none⟩) ∧ w1.frozen? ⟨w.heap.size + 1, 0, none⟩ = false) ∧ (w1.cell? ⟨w.heap.size + 1, 1, none⟩ = some (cellV w1 ⟨w.heap.size + 1, 1, none⟩) ∧ w1.frozen? ⟨w.heap.size + 1, 1, none⟩ = false) := by
        refine ⟨?_, ?_⟩ <;> (refine mine_below hb1 (mine_of (v := .int .i64 0) ?_ ?_) <;> simp [go_sem])
      have zm6 : w.heap.size + 1 < w1.heap.size := World.block_lt_of_cell? _ _ m6a
      go_wp2_with fail
      refine (TV _).mono ?_
      rintro e w2 ⟨rfl, hb2⟩
      obtain ⟨f8, f9, f10, f11, f12⟩ : w2.cell? ⟨w.heap.size, 0, none⟩ = some (.int .i64 cx) ∧ w2.cell? ⟨w.heap.size, 1, none⟩ = some (.int .i64 cy) ∧ w2.cell? ⟨w.heap.size, 2, none⟩ = some (.int .i64 r) ∧ w2.cell? ⟨w.heap.size, 3, none⟩ = some (.int .i64 f) ∧ w2.cell? ⟨w.heap.size, 4, none⟩ = some (.int .i64 s) := by
        refine ⟨?_, ?_, ?_, ?_, ?_⟩ <;> (refine cell_below hb2 ?_; repeat (first | (with_reducible assumption) | (with_reducible refine cell_drew ?_) | (with_reducible refine cell_drewN ?_ _) | (with_reducible refine cell_below (by assumption) ?_) | ((with_reducible refine cell_new ?_ ?_); (· (simp; done)); (· rfl)) | (with_reducible refine cell_alloc ?_ _) | ((with_reducible refine cell_set ?_ ?_ _); (· first | (simp; done) | (simp; omega) | omega))))
      have zf8 : w.heap.size < w2.heap.size := World.block_lt_of_cell? _ _ f8
      obtain ⟨⟨m13a, m13b⟩, ⟨m14a, m14b⟩⟩ : (w2.cell? ⟨w.heap.size + 1, 0, none⟩ = some (cellV w2 ⟨w.heap.size + 1, 0, none⟩) ∧ w2.frozen? ⟨w.heap.size + 1, 0, none⟩ = false) ∧ (w2.cell? ⟨w.heap.size + 1, 1, none⟩ = some (cellV w2 ⟨w.heap.size + 1, 1, none⟩) ∧ w2.frozen? ⟨w.heap.size + 1, 1, none⟩ = false) := by
        refine ⟨?_, ?_⟩ <;> (refine mine_below hb2 ?_; repeat (first | (with_reducible exact ⟨by assumption, by assumption⟩) | (with_reducible refine mine_drew ?_) | (with_reducible refine mine_drewN ?_ _) | (with_reducible refine mine_below (by assumption) ?_) | ((with_reducible refine mine_new ?_ ?_); (· (simp; done)); (· rfl)) | (with_reducible refine mine_alloc ?_ _) | (with_reducible refine mine_set ?_ _ _)))
      have zm13 : w.heap.size + 1 < w2.heap.size := World.block_lt_of_cell? _ _ m13a
      clear f1 zf1 f2 f3 f4 f5 m6a m6b zm6 m7a m7b
      go_wp2_with (first | (go_at_call 131; refine (AB _).mono ?_; rintro e w' ⟨rfl, rfl⟩) | (go_at_call 134; refine (MD _).mono ?_; rintro e w' ⟨rfl, n1, rfl⟩) | (go_at_call 135; refine (SD _).mono ?_; rintro e w' ⟨rfl, rfl⟩))
      refine (RY _).mono ?_
      rintro e w3 ⟨rfl, hb3⟩
      obtain ⟨f15, f16, f17, f18, f19⟩ : w3.cell? ⟨w.heap.size, 0, none⟩ = some (.int .i64 cx) ∧ w3.cell? ⟨w.heap.size, 1, none⟩ = some (.int .i64 cy) ∧ w3.cell? ⟨w.heap.size, 2, none⟩ = some (.int .i64 r) ∧ w3.cell? ⟨w.heap.size, 3, none⟩ = some (.int .i64 f) ∧ w3.cell? ⟨w.heap.size, 4, none⟩ = some (.int .i64 s) := by
        refine ⟨?_, ?_, ?_, ?_, ?_⟩ <;> (refine cell_below hb3 ?_; repeat (first | (with_reducible assumption) | (with_reducible refine cell_drew ?_) | (with_reducible refine cell_drewN ?_ _) | (with_reducible refine cell_below (by assumption) ?_) | ((with_reducible refine cell_new ?_ ?_); (· (simp; done)); (· rfl)) | (with_reducible refine cell_alloc ?_ _) | ((with_reducible refine cell_set ?_ ?_ _); (· first | (simp; done) | (simp; omega) | omega))))
      have zf15 : w.heap.size < w3.heap.size := World.block_lt_of_cell? _ _ f15
      obtain ⟨⟨m20a, m20b⟩, ⟨m21a, m21b⟩⟩ : (w3.cell? ⟨w.heap.size + 1, 0, none⟩ = some (cellV w3 ⟨w.heap.size + 1, 0, none⟩) ∧ w3.frozen? ⟨w.heap.size + 1, 0, none⟩ = false) ∧ (w3.cell? ⟨w.heap.size + 1, 1, none⟩ = some (cellV w3 ⟨w.heap.size + 1, 1, none⟩) ∧ w3.frozen? ⟨w.heap.size + 1, 1, none⟩ = false) := by
        refine ⟨?_, ?_⟩ <;> (refine mine_below hb3 ?_; repeat (first | (with_reducible exact ⟨by assumption, by assumption⟩) | (with_reducible refine mine_drew ?_) | (with_reducible refine mine_drewN ?_ _) | (with_reducible refine mine_below (by assumption) ?_) | ((with_reducible refine mine_new ?_ ?_); (· (simp; done)); (· rfl)) | (with_reducible refine mine_alloc ?_ _) | (with_reducible refine mine_set ?_ _ _)))
      have zm20 : w.heap.size + 1 < w3.heap.size := World.block_lt_of_cell? _ _ m20a
      clear f8 zf8 f9 f10 f11 f12 m13a m13b zm13 m14a m14b
      go_wp2_with fail
      exact bodyPost_ret (v := .tuple #[.agg #[.int .i64 0, .int .i64 0], .int .i64 0, .int .i64 2]) (by simp [results, Tryz.results85, go_sem, *]) rfl ⟨rfl, by (repeat (with_reducible (first | assumption | exact Below.refl _ _ | refine Below.drew ?_ | refine below_drewN ?_ _ | refine below_set ?_ (by simp; try omega) _ | refine below_alloc ?_ (Nat.le_refl _) _ | refine below_sub (by assumption) ?_)))⟩
  · obtain rfl : wW = 0 := W0 (by omega)
    clear MM W0 MD
    by_cases hE : E = 0
    · rw [if_pos hE] at hR
      subst hR
      subst hE
      go_enter Tryz.func85, Tryz.ntmps85
      go_wp2_with fail
      refine (TL _).mono ?_
      rintro e w1 ⟨rfl, hb1⟩
      obtain ⟨f1, f2, f3, f4, f5⟩ : w1.cell? ⟨w.heap.size, 0, none⟩ = some (.int .i64 cx) ∧ w1.cell? ⟨w.heap.size, 1, none⟩ = some (.int .i64 cy) ∧ w1.cell? ⟨w.heap.size, 2, none⟩ = some (.int .i64 r) ∧ w1.cell? ⟨w.heap.size, 3, none⟩ = some (.int .i64 f) ∧ w1.cell? ⟨w.heap.size, 4, none⟩ = some (.int .i64 s) := by
        refine ⟨?_, ?_, ?_, ?_, ?_⟩ <;> (refine cell_below hb1 ?_; repeat (first | (with_reducible assumption) | (with_reducible refine cell_drew ?_) | (with_reducible refine cell_drewN ?_ _) | (with_reducible refine cell_below (by assumption) ?_) | ((with_reducible refine cell_new ?_ ?_); (· (simp; done)); (· rfl)) | (with_reducible refine cell_alloc ?_ _) | ((with_reducible refine cell_set ?_ ?_ _); (· first | (simp; done) | (simp; omega) | omega))))
      have zf1 : w.heap.size < w1.heap.size := World.block_lt_of_cell? _ _ f1
      obtain ⟨⟨m6a, m6b⟩, ⟨m7a, m7b⟩⟩ : (w1.cell? ⟨w.heap.size + 1, 0, none⟩ = some (cellV w1 ⟨w.heap.size + 1, 0, none⟩) ∧ w1.frozen? ⟨w.heap.size + 1, 0, none⟩ = false) ∧ (w1.cell? ⟨w.heap.size + 1, 1, none⟩ = some (cellV w1 ⟨w.heap.size + 1, 1, none⟩) ∧ w1.frozen? ⟨w.heap.size + 1, 1, none⟩ = false) := by
        refine ⟨?_, ?_⟩ <;> (refine mine_below hb1 (mine_of (v := .int .i64 0) ?_ ?_) <;> simp [go_sem])
      have zm6 : w.heap.size + 1 < w1.heap.size := World.block_lt_of_cell? _ _ m6a
      go_wp2_with fail
      refine (TV _).mono ?_
      rintro e w2 ⟨rfl, hb2⟩
      obtain ⟨f8, f9, f10, f11, f12⟩ : w2.cell? ⟨w.heap.size, 0, none⟩ = some (.int .i64 cx) ∧ w2.cell? ⟨w.heap.size, 1, none⟩ = some (.int .i64 cy) ∧ w2.cell? ⟨w.heap.size, 2, none⟩ = some (.int .i64 r) ∧ w2.cell? ⟨w.heap.size, 3, none⟩ = some (.int .i64 f) ∧ w2.cell? ⟨w.heap.size, 4, none⟩ = some (.int .i64 s) := by
        refine ⟨?_, ?_, ?_, ?_, ?_⟩ <;> (refine cell_below hb2 ?_; repeat (first | (with_reducible assumption) | (with_reducible refine cell_drew ?_) | (with_reducible refine cell_drewN ?_ _) | (with_reducible refine cell_below (by assumption) ?_) | ((with_reducible refine cell_new ?_ ?_); (· (simp; done)); (· rfl)) | (with_reducible refine cell_alloc ?_ _) | ((with_reducible refine cell_set ?_ ?_ _); (· first | (simp; done) | (simp; omega) | omega))))
      have zf8 : w.heap.size < w2.heap.size := World.block_lt_of_cell? _ _ f8
      obtain ⟨⟨m13a, m13b⟩, ⟨m14a, m14b⟩⟩ : (w2.cell? ⟨w.heap.size + 1, 0, none⟩ = some (cellV w2 ⟨w.heap.size + 1, 0, none⟩) ∧ w2.frozen? ⟨w.heap.size + 1, 0, none⟩ = false) ∧ (w2.cell? ⟨w.heap.size + 1, 1, none⟩ = some (cellV w2 ⟨w.heap.size + 1, 1, none⟩) ∧ w2.frozen? ⟨w.heap.size + 1, 1, none⟩ = false) := by
        refine ⟨?_, ?_⟩ <;> (refine mine_below hb2 ?_; repeat (first | (with_reducible exact ⟨by assumption, by assumption⟩) | (with_reducible refine mine_drew ?_) | (with_reducible refine mine_drewN ?_ _) | (with_reducible refine mine_below (by assumption) ?_) | ((with_reducible refine mine_new ?_ ?_); (· (simp; done)); (· rfl)) | (with_reducible refine mine_alloc ?_ _) | (with_reducible refine mine_set ?_ _ _)))
      have zm13 : w.heap.size + 1 < w2.heap.size := World.block_lt_of_cell? _ _ m13a
      clear f1 zf1 f2 f3 f4 f5 m6a m6b zm6 m7a m7b
      go_wp2_with (go_at_call 135; refine (SD _).mono ?_; rintro e w' ⟨rfl, rfl⟩)
      refine (RY _).mono ?_
      rintro e w3 ⟨rfl, hb3⟩
      obtain ⟨f15, f16, f17, f18, f19⟩ : w3.cell? ⟨w.heap.size, 0, none⟩ = some (.int .i64 cx) ∧ w3.cell? ⟨w.heap.size, 1, none⟩ = some (.int .i64 cy) ∧ w3.cell? ⟨w.heap.size, 2, none⟩ = some (.int .i64 r) ∧ w3.cell? ⟨w.heap.size, 3, none⟩ = some (.int .i64 f) ∧ w3.cell? ⟨w.heap.size, 4, none⟩ = some (.int .i64 s) := by
        refine ⟨?_, ?_, ?_, ?_, ?_⟩ <;> (refine cell_below hb3 ?_; repeat (first | (with_reducible assumption) | (with_reducible refine cell_drew ?_) | (with_reducible refine cell_drewN ?_ _) | (with_reducible refine cell_below (by assumption) ?_) | ((with_reducible refine cell_new ?_ ?_); (· (simp; done)); (· rfl)) | (with_reducible refine cell_alloc ?_ _) | ((with_reducible refine cell_set ?_ ?_ _); (· first | (simp; done) | (simp; omega) | omega))))
      have zf15 : w.heap.size < w3.heap.size := World.block_lt_of_cell? _ _ f15
      obtain ⟨⟨m20a, m20b⟩, ⟨m21a, m21b⟩⟩ : (w3.cell? ⟨w.heap.size + 1, 0, none⟩ = some (cellV w3 ⟨w.heap.size + 1, 0, none⟩) ∧ w3.frozen? ⟨w.heap.size + 1, 0, none⟩ = false) ∧ (w3.cell? ⟨w.heap.size + 1, 1, none⟩ = some (cellV w3 ⟨w.heap.size + 1, 1, none⟩) ∧ w3.frozen? ⟨w.heap.size + 1, 1, none⟩ = false) := by
        refine ⟨?_, ?_⟩ <;> (refine mine_below hb3 ?_; repeat (first | (with_reducible exact ⟨by assumption, by assumption⟩) | (with_reducible refine mine_drew ?_) | (with_reducible refine mine_drewN ?_ _) | (with_reducible refine mine_below (by assumption) ?_) | ((with_reducible refine mine_new ?_ ?_); (· (simp; done)); (· rfl)) | (with_reducible refine mine_alloc ?_ _) | (with_reducible refine mine_set ?_ _ _)))
      have zm20 : w.heap.size + 1 < w3.heap.size := World.block_lt_of_cell? _ _ m20a
      clear f8 zf8 f9 f10 f11 f12 m13a m13b zm13 m14a m14b
      go_wp2_with fail
      go_region_held3 (fun w' => w'.cell? ⟨w.heap.size, 0, none⟩ = some (.int .i64 cx) ∧ w'.cell? ⟨w.heap.size, 1, none⟩ = some (.int .i64 cy) ∧ w'.cell? ⟨w.heap.size, 2, none⟩ = some (.int .i64 r) ∧ w'.cell? ⟨w.heap.size, 3, none⟩ = some (.int .i64 f) ∧ w'.cell? ⟨w.heap.size, 4, none⟩ = some (.int .i64 s) ∧ w'.cell? ⟨w3.heap.size, 0, none⟩ = some (.int .i64 X) ∧ w'.cell? ⟨w3.heap.size, 1, none⟩ = some (.int .i64 Y) ∧ (w'.cell? ⟨w.heap.size + 1, 0, none⟩ = some (cellV w' ⟨w.heap.size + 1, 0, none⟩) ∧ w'.frozen? ⟨w.heap.size + 1, 0, none⟩ = false) ∧ (w'.cell? ⟨w.heap.size + 1, 1, none⟩ = some (cellV w' ⟨w.heap.size + 1, 1, none⟩) ∧ w'.frozen? ⟨w.heap.size + 1, 1, none⟩ = false)) ((go_split_ands; refine ⟨?_, ?_, ?_, ?_, ?_, ?_, ?_, ?_, ?_⟩ <;> (first | ((repeat (first | (with_reducible assumption) | (with_reducible refine cell_drew ?_) | (with_reducible refine cell_drewN ?_ _) | (with_reducible refine cell_below (by assumption) ?_) | ((with_reducible refine cell_new ?_ ?_); (· (simp; done)); (· rfl)) | (with_reducible refine cell_alloc ?_ _) | ((with_reducible refine cell_set ?_ ?_ _); (· first | (simp; done) | (simp; omega) | omega)))); done) | (repeat (first | (with_reducible exact ⟨by assumption, by assumption⟩) | (with_reducible refine mine_drew ?_) | (with_reducible refine mine_drewN ?_ _) | (with_reducible refine mine_below (by assumption) ?_) | ((with_reducible refine mine_new ?_ ?_); (· (simp; done)); (· rfl)) | (with_reducible refine mine_alloc ?_ _) | (with_reducible refine mine_set ?_ _ _))))))
        (first | (go_at_call 135; (with_reducible refine (SQ _).mono ?_); rintro e w' ⟨rfl, rfl⟩))
      rename_i hH
      clear hH
      go_wp2_with fail
      exact bodyPost_ret (v := .tuple #[.agg #[.int .i64 X, .int .i64 Y], .int .i64 T, .int .i64 0]) (by simp [results, Tryz.results85, go_sem, *]) rfl ⟨rfl, by (repeat (with_reducible (first | assumption | exact Below.refl _ _ | refine Below.drew ?_ | refine below_drewN ?_ _ | refine below_set ?_ (by simp; try omega) _ | refine below_alloc ?_ (Nat.le_refl _) _ | refine below_sub (by assumption) ?_)))⟩
    · rw [if_neg hE] at hR
      subst hR
      have T2 : (E != 0) = true := by rw [bne_iff_ne]; exact hE
      clear hE
      go_enter Tryz.func85, Tryz.ntmps85
      go_wp2_with fail
      refine (TL _).mono ?_
      rintro e w1 ⟨rfl, hb1⟩
      obtain ⟨f1, f2, f3, f4, f5⟩ : w1.cell? ⟨w.heap.size, 0, none⟩ = some (.int .i64 cx) ∧ w1.cell? ⟨w.heap.size, 1, none⟩ = some (.int .i64 cy) ∧ w1.cell? ⟨w.heap.size, 2, none⟩ = some (.int .i64 r) ∧ w1.cell? ⟨w.heap.size, 3, none⟩ = some (.int .i64 f) ∧ w1.cell? ⟨w.heap.size, 4, none⟩ = some (.int .i64 s) := by
        refine ⟨?_, ?_, ?_, ?_, ?_⟩ <;> (refine cell_below hb1 ?_; repeat (first | (with_reducible assumption) | (with_reducible refine cell_drew ?_) | (with_reducible refine cell_drewN ?_ _) | (with_reducible refine cell_below (by assumption) ?_) | ((with_reducible refine cell_new ?_ ?_); (· (simp; done)); (· rfl)) | (with_reducible refine cell_alloc ?_ _) | ((with_reducible refine cell_set ?_ ?_ _); (· first | (simp; done) | (simp; omega) | omega))))
      have zf1 : w.heap.size < w1.heap.size := World.block_lt_of_cell? _ _ f1
      obtain ⟨⟨m6a, m6b⟩, ⟨m7a, m7b⟩⟩ : (w1.cell? ⟨w.heap.size + 1, 0, none⟩ = some (cellV w1 ⟨w.heap.size + 1, 0, none⟩) ∧ w1.frozen? ⟨w.heap.size + 1, 0, none⟩ = false) ∧ (w1.cell? ⟨w.heap.size + 1, 1, none⟩ = some (cellV w1 ⟨w.heap.size + 1, 1, none⟩) ∧ w1.frozen? ⟨w.heap.size + 1, 1, none⟩ = false) := by
        refine ⟨?_, ?_⟩ <;> (refine mine_below hb1 (mine_of (v := .int .i64 0) ?_ ?_) <;> simp [go_sem])
      have zm6 : w.heap.size + 1 < w1.heap.size := World.block_lt_of_cell? _ _ m6a
      go_wp2_with fail
      refine (TV _).mono ?_
      rintro e w2 ⟨rfl, hb2⟩
      obtain ⟨f8, f9, f10, f11, f12⟩ : w2.cell? ⟨w.heap.size, 0, none⟩ = some (.int .i64 cx) ∧ w2.cell? ⟨w.heap.size, 1, none⟩ = some (.int .i64 cy) ∧ w2.cell? ⟨w.heap.size, 2, none⟩ = some (.int .i64 r) ∧ w2.cell? ⟨w.heap.size, 3, none⟩ = some (.int .i64 f) ∧ w2.cell? ⟨w.heap.size, 4, none⟩ = some (.int .i64 s) := by
        refine ⟨?_, ?_, ?_, ?_, ?_⟩ <;> (refine cell_below hb2 ?_; repeat (first | (with_reducible assumption) | (with_reducible refine cell_drew ?_) | (with_reducible refine cell_drewN ?_ _) | (with_reducible refine cell_below (by assumption) ?_) | ((with_reducible refine cell_new ?_ ?_); (· (simp; done)); (· rfl)) | (with_reducible refine cell_alloc ?_ _) | ((with_reducible refine cell_set ?_ ?_ _); (· first | (simp; done) | (simp; omega) | omega))))
      have zf8 : w.heap.size < w2.heap.size := World.block_lt_of_cell? _ _ f8
      obtain ⟨⟨m13a, m13b⟩, ⟨m14a, m14b⟩⟩ : (w2.cell? ⟨w.heap.size + 1, 0, none⟩ = some (cellV w2 ⟨w.heap.size + 1, 0, none⟩) ∧ w2.frozen? ⟨w.heap.size + 1, 0, none⟩ = false) ∧ (w2.cell? ⟨w.heap.size + 1, 1, none⟩ = some (cellV w2 ⟨w.heap.size + 1, 1, none⟩) ∧ w2.frozen? ⟨w.heap.size + 1, 1, none⟩ = false) := by
        refine ⟨?_, ?_⟩ <;> (refine mine_below hb2 ?_; repeat (first | (with_reducible exact ⟨by assumption, by assumption⟩) | (with_reducible refine mine_drew ?_) | (with_reducible refine mine_drewN ?_ _) | (with_reducible refine mine_below (by assumption) ?_) | ((with_reducible refine mine_new ?_ ?_); (· (simp; done)); (· rfl)) | (with_reducible refine mine_alloc ?_ _) | (with_reducible refine mine_set ?_ _ _)))
      have zm13 : w.heap.size + 1 < w2.heap.size := World.block_lt_of_cell? _ _ m13a
      clear f1 zf1 f2 f3 f4 f5 m6a m6b zm6 m7a m7b
      go_wp2_with (go_at_call 135; refine (SD _).mono ?_; rintro e w' ⟨rfl, rfl⟩)
      refine (RY _).mono ?_
      rintro e w3 ⟨rfl, hb3⟩
      obtain ⟨f15, f16, f17, f18, f19⟩ : w3.cell? ⟨w.heap.size, 0, none⟩ = some (.int .i64 cx) ∧ w3.cell? ⟨w.heap.size, 1, none⟩ = some (.int .i64 cy) ∧ w3.cell? ⟨w.heap.size, 2, none⟩ = some (.int .i64 r) ∧ w3.cell? ⟨w.heap.size, 3, none⟩ = some (.int .i64 f) ∧ w3.cell? ⟨w.heap.size, 4, none⟩ = some (.int .i64 s) := by
        refine ⟨?_, ?_, ?_, ?_, ?_⟩ <;> (refine cell_below hb3 ?_; repeat (first | (with_reducible assumption) | (with_reducible refine cell_drew ?_) | (with_reducible refine cell_drewN ?_ _) | (with_reducible refine cell_below (by assumption) ?_) | ((with_reducible refine cell_new ?_ ?_); (· (simp; done)); (· rfl)) | (with_reducible refine cell_alloc ?_ _) | ((with_reducible refine cell_set ?_ ?_ _); (· first | (simp; done) | (simp; omega) | omega))))
      have zf15 : w.heap.size < w3.heap.size := World.block_lt_of_cell? _ _ f15
      obtain ⟨⟨m20a, m20b⟩, ⟨m21a, m21b⟩⟩ : (w3.cell? ⟨w.heap.size + 1, 0, none⟩ = some (cellV w3 ⟨w.heap.size + 1, 0, none⟩) ∧ w3.frozen? ⟨w.heap.size + 1, 0, none⟩ = false) ∧ (w3.cell? ⟨w.heap.size + 1, 1, none⟩ = some (cellV w3 ⟨w.heap.size + 1, 1, none⟩) ∧ w3.frozen? ⟨w.heap.size + 1, 1, none⟩ = false) := by
        refine ⟨?_, ?_⟩ <;> (refine mine_below hb3 ?_; repeat (first | (with_reducible exact ⟨by assumption, by assumption⟩) | (with_reducible refine mine_drew ?_) | (with_reducible refine mine_drewN ?_ _) | (with_reducible refine mine_below (by assumption) ?_) | ((with_reducible refine mine_new ?_ ?_); (· (simp; done)); (· rfl)) | (with_reducible refine mine_alloc ?_ _) | (with_reducible refine mine_set ?_ _ _)))
      have zm20 : w.heap.size + 1 < w3.heap.size := World.block_lt_of_cell? _ _ m20a
      clear f8 zf8 f9 f10 f11 f12 m13a m13b zm13 m14a m14b
      go_wp2_with fail
      exact bodyPost_ret (v := .tuple #[.agg #[.int .i64 0, .int .i64 0], .int .i64 0, .int .i64 2]) (by simp [results, Tryz.results85, go_sem, *]) rfl ⟨rfl, by (repeat (with_reducible (first | assumption | exact Below.refl _ _ | refine Below.drew ?_ | refine below_drewN ?_ _ | refine below_set ?_ (by simp; try omega) _ | refine below_alloc ?_ (Nat.le_refl _) _ | refine below_sub (by assumption) ?_)))⟩
end Go.Proofs.YtjjdojokkmfbmaaGreatDoor
