/-
  The walks of Meet, of the program and of the reference.
-/
import Derived.Test.YtjjdojokkmfbmaaGreatDoorMLineB
import Derived.Deep.DeepCutAuto
namespace Go.Proofs.YtjjdojokkmfbmaaGreatDoor
open Go.RowKit
set_option linter.unusedVariables false
set_option linter.unusedSimpArgs false
set_option maxHeartbeats 2000000 in
theorem meet_any (ax ay bx b_y cx cy dx dy : Int) (w : World) (R : Int × Int × Int) (hR : R = meetF ax ay bx b_y cx cy dx dy) :
    Calls Tryz.prog 69 #[.agg #[.int .i64 ax, .int .i64 ay], .agg #[.int .i64 bx, .int .i64 b_y], .agg #[.int .i64 cx, .int .i64 cy], .agg #[.int .i64 dx, .int .i64 dy]] w fun e w' => e = .returned (.tuple #[.agg #[.int .i64 R.1, .int .i64 R.2.1], .int .i64 R.2.2]) ∧ Below w.heap.size w w' := by
  unfold meetF at hR
  rcases hv : (vldB ax ay && vldB bx b_y && vldB cx cy && vldB dx dy) with _ | _
  · rw [hv, if_pos (by simp)] at hR
    subst hR
    have HV := hide hv
    clear hv
    go_enter Tryz.func69, Tryz.ntmps69
    go_wp2_with fail
    refine (valid4_any ax ay bx b_y cx cy dx dy _ _ _ (new_at _ _ _ (by simp))).mono ?_
    rintro e w1 ⟨rfl, hb⟩
    rw [HV.out]
    have k_0 := cell_below hb (b := w.heap.size) (o := 0) (v := .int .i64 ax) (by simp [go_sem])
    have k_1 := cell_below hb (b := w.heap.size) (o := 1) (v := .int .i64 ay) (by simp [go_sem])
    have k_2 := cell_below hb (b := w.heap.size + 1) (o := 0) (v := .int .i64 bx) (by simp [go_sem])
    have k_3 := cell_below hb (b := w.heap.size + 1) (o := 1) (v := .int .i64 b_y) (by simp [go_sem])
    have k_4 := cell_below hb (b := w.heap.size + 1 + 1) (o := 0) (v := .int .i64 cx) (by simp [go_sem])
    have k_5 := cell_below hb (b := w.heap.size + 1 + 1) (o := 1) (v := .int .i64 cy) (by simp [go_sem])
    have k_6 := cell_below hb (b := w.heap.size + 1 + 1 + 1) (o := 0) (v := .int .i64 dx) (by simp [go_sem])
    have k_7 := cell_below hb (b := w.heap.size + 1 + 1 + 1) (o := 1) (v := .int .i64 dy) (by simp [go_sem])
    have m_0 := mine_below hb (a := ⟨w.heap.size + 1 + 1 + 1 + 1, 0, none⟩) (mine_of (v := .int .i64 0) (by simp [go_sem]) (by simp [go_sem]))
    have m_1 := mine_below hb (a := ⟨w.heap.size + 1 + 1 + 1 + 1, 1, none⟩) (mine_of (v := .int .i64 0) (by simp [go_sem]) (by simp [go_sem]))
    obtain ⟨m_0a, m_0b⟩ := m_0
    obtain ⟨m_1a, m_1b⟩ := m_1
    go_wp2_with fail
    exact bodyPost_ret (v := .tuple #[.agg #[.int .i64 0, .int .i64 0], .int .i64 1]) (by simp [results, Tryz.results69, go_sem, *]) rfl ⟨rfl, by (repeat (with_reducible (first | assumption | exact Below.refl _ _ | refine Below.drew ?_ | refine below_drewN ?_ _ | refine below_set ?_ (by simp; try omega) _ | refine below_alloc ?_ (Nat.le_refl _) _ | refine below_sub (by assumption) ?_)))⟩
  rw [hv, if_neg (by simp)] at hR
  have hv' : ((vldB ax ay = true ∧ vldB bx b_y = true) ∧ vldB cx cy = true) ∧ vldB dx dy = true := by simpa using hv
  have b1 := vldB_bd hv'.1.1.1
  have b2 := vldB_bd hv'.1.1.2
  have b3 := vldB_bd hv'.1.2
  have b4 := vldB_bd hv'.2
  have HV := hide hv
  clear hv hv'
  have d1 := (dot_in (a := bx - ax) (b := b_y - ay) (c := dx - cx) (d := dy - cy) (by omega) (by omega) (by omega) (by omega) (by omega) (by omega) (by omega) (by omega)).2
  have d2 := (dot_in (a := cx - ax) (b := cy - ay) (c := dx - cx) (d := dy - cy) (by omega) (by omega) (by omega) (by omega) (by omega) (by omega) (by omega) (by omega)).2
  have i1 : I64 ax := by unfold I64; omega
  have i2 : I64 ay := by unfold I64; omega
  have i3 : I64 (bx - ax) := by unfold I64; omega
  have i4 : I64 (b_y - ay) := by unfold I64; omega
  have HR := hide hR
  clear hR
  go_enter Tryz.func69, Tryz.ntmps69
  go_wp2_with fail
  refine (valid4_any ax ay bx b_y cx cy dx dy _ _ _ (new_at _ _ _ (by simp))).mono ?_
  rintro e w1 ⟨rfl, hb⟩
  rw [HV.out]
  have k_0 := cell_below hb (b := w.heap.size) (o := 0) (v := .int .i64 ax) (by simp [go_sem])
  have k_1 := cell_below hb (b := w.heap.size) (o := 1) (v := .int .i64 ay) (by simp [go_sem])
  have k_2 := cell_below hb (b := w.heap.size + 1) (o := 0) (v := .int .i64 bx) (by simp [go_sem])
  have k_3 := cell_below hb (b := w.heap.size + 1) (o := 1) (v := .int .i64 b_y) (by simp [go_sem])
  have k_4 := cell_below hb (b := w.heap.size + 1 + 1) (o := 0) (v := .int .i64 cx) (by simp [go_sem])
  have k_5 := cell_below hb (b := w.heap.size + 1 + 1) (o := 1) (v := .int .i64 cy) (by simp [go_sem])
  have k_6 := cell_below hb (b := w.heap.size + 1 + 1 + 1) (o := 0) (v := .int .i64 dx) (by simp [go_sem])
  have k_7 := cell_below hb (b := w.heap.size + 1 + 1 + 1) (o := 1) (v := .int .i64 dy) (by simp [go_sem])
  have m_0 := mine_below hb (a := ⟨w.heap.size + 1 + 1 + 1 + 1, 0, none⟩) (mine_of (v := .int .i64 0) (by simp [go_sem]) (by simp [go_sem]))
  have m_1 := mine_below hb (a := ⟨w.heap.size + 1 + 1 + 1 + 1, 1, none⟩) (mine_of (v := .int .i64 0) (by simp [go_sem]) (by simp [go_sem]))
  obtain ⟨m_0a, m_0b⟩ := m_0
  obtain ⟨m_1a, m_1b⟩ := m_1
  have hz := hb.size
  simp at hz
  have hz1 : w.heap.size + 1 + 1 + 1 + 1 < w1.heap.size := by omega
  go_wp2_with fail
  go_cut [10, 11] (fun s10 s11 wx => ∃ g h : Nat, s10 = .pointer (some ⟨g, 0, none⟩) ∧ s11 = .pointer (some ⟨h, 0, none⟩) ∧ (wx.cell? ⟨g, 0, none⟩ = some (.int .i64 (bx - ax)) ∧ wx.cell? ⟨g, 1, none⟩ = some (.int .i64 (b_y - ay)) ∧ wx.cell? ⟨h, 0, none⟩ = some (.int .i64 (dx - cx)) ∧ wx.cell? ⟨h, 1, none⟩ = some (.int .i64 (dy - cy))) ∧ (w1.heap.size ≤ g ∧ w1.heap.size ≤ h) ∧ Below w1.heap.size w1 wx)
  case first =>
    go_region_held3 (fun w' => w'.cell? ⟨w.heap.size, 0, none⟩ = some (.int .i64 ax) ∧ w'.cell? ⟨w.heap.size, 1, none⟩ = some (.int .i64 ay) ∧ w'.cell? ⟨w.heap.size + 1, 0, none⟩ = some (.int .i64 bx) ∧ w'.cell? ⟨w.heap.size + 1, 1, none⟩ = some (.int .i64 b_y) ∧ w'.cell? ⟨w.heap.size + 1 + 1, 0, none⟩ = some (.int .i64 cx) ∧ w'.cell? ⟨w.heap.size + 1 + 1, 1, none⟩ = some (.int .i64 cy) ∧ w'.cell? ⟨w.heap.size + 1 + 1 + 1, 0, none⟩ = some (.int .i64 dx) ∧ w'.cell? ⟨w.heap.size + 1 + 1 + 1, 1, none⟩ = some (.int .i64 dy)) ((go_split_ands; refine ⟨?_, ?_, ?_, ?_, ?_, ?_, ?_, ?_⟩ <;> (repeat (first | (with_reducible assumption) | (with_reducible refine cell_drew ?_) | (with_reducible refine cell_drewN ?_ _) | (with_reducible refine cell_below (by assumption) ?_) | ((with_reducible refine cell_new ?_ ?_); (· (simp; done)); (· rfl)) | (with_reducible refine cell_alloc ?_ _) | ((with_reducible refine cell_set ?_ ?_ _); (· first | (simp; done) | (simp; omega) | omega))))))
      (first | (go_at_call 47; (with_reducible refine (vector_any _ _ _ _ (by omega) (by omega) (by omega) (by omega) _).mono ?_); rintro e w' ⟨rfl, rfl⟩))
    all_goals
      go_wp2_with fail
      go_meet
      refine ⟨_, _, rfl, rfl, ?_, ?_, ?_⟩
      · simp [go_sem]
      · constructor <;> (first | omega | (simp; omega))
      · (repeat (with_reducible (first | assumption | exact Below.refl _ _ | refine Below.drew ?_ | refine below_drewN ?_ _ | refine below_set ?_ (by simp; try omega) _ | refine below_alloc ?_ (Nat.le_refl _) _ | refine below_sub (by assumption) ?_)))
  case rest =>
    obtain ⟨g, h, rfl, rfl, ⟨c1, c2, c3, c4⟩, ⟨hg, hh⟩, hbc⟩ := hcut
    have hz2 := hbc.size
    have hR := HR.out
    by_cases h0 : (bx - ax) * (dy - cy) - (b_y - ay) * (dx - cx) = 0
    · rw [if_pos h0] at hR
      subst hR
      have T : ((bx - ax) * (dy - cy) - (b_y - ay) * (dx - cx) == 0) = true := by rw [h0]; rfl
      have H0 := hide h0
      clear h0
      go_wp2_with fail
      refine (cross_b _ _ _ _ (by omega) (by omega) (by omega) (by omega) (by omega) (by omega) (by omega) (by omega) _).mono ?_
      rintro e w3 ⟨rfl, hb3⟩
      obtain ⟨q0, q0'⟩ := mine_below hb3 (mine_below hbc ⟨m_0a, m_0b⟩)
      obtain ⟨q1, q1'⟩ := mine_below hb3 (mine_below hbc ⟨m_1a, m_1b⟩)
      go_wp2_with fail
      exact bodyPost_ret (v := .tuple #[.agg #[.int .i64 0, .int .i64 0], .int .i64 10]) (by simp [results, Tryz.results69, go_sem, *]) rfl ⟨rfl, by (repeat (with_reducible (first | assumption | exact Below.refl _ _ | refine Below.drew ?_ | refine below_drewN ?_ _ | refine below_set ?_ (by simp; try omega) _ | refine below_alloc ?_ (Nat.le_refl _) _ | refine below_sub (by assumption) ?_)))⟩
    · rw [if_neg h0] at hR
      have T : ((bx - ax) * (dy - cy) - (b_y - ay) * (dx - cx) == 0) = false := by simpa using h0
      clear h0 HR
      have HR := hide hR
      clear hR
      go_wp2_with fail
      refine (cross_b _ _ _ _ (by omega) (by omega) (by omega) (by omega) (by omega) (by omega) (by omega) (by omega) _).mono ?_
      rintro e w3 ⟨rfl, hb3⟩
      have hz3 := hb3.size
      obtain ⟨q0, q0'⟩ := mine_below hb3 (mine_below hbc ⟨m_0a, m_0b⟩)
      obtain ⟨q1, q1'⟩ := mine_below hb3 (mine_below hbc ⟨m_1a, m_1b⟩)
      have e0 := cell_below hb3 (cell_below hbc k_0)
      have e1 := cell_below hb3 (cell_below hbc k_1)
      have e4 := cell_below hb3 (cell_below hbc k_4)
      have e5 := cell_below hb3 (cell_below hbc k_5)
      have e11 := cell_below hb3 c1
      have e12 := cell_below hb3 c2
      have e13 := cell_below hb3 c3
      have e14 := cell_below hb3 c4
      go_wp2_with fail
      go_region_held3 (fun w' => w'.cell? ⟨w.heap.size, 0, none⟩ = some (.int .i64 ax) ∧ w'.cell? ⟨w.heap.size, 1, none⟩ = some (.int .i64 ay) ∧ w'.cell? ⟨w.heap.size + 1 + 1, 0, none⟩ = some (.int .i64 cx) ∧ w'.cell? ⟨w.heap.size + 1 + 1, 1, none⟩ = some (.int .i64 cy) ∧ w'.cell? ⟨g, 0, none⟩ = some (.int .i64 (bx - ax)) ∧ w'.cell? ⟨g, 1, none⟩ = some (.int .i64 (b_y - ay)) ∧ w'.cell? ⟨h, 0, none⟩ = some (.int .i64 (dx - cx)) ∧ w'.cell? ⟨h, 1, none⟩ = some (.int .i64 (dy - cy)) ∧ (w'.cell? ⟨w.heap.size + 1 + 1 + 1 + 1, 0, none⟩ = some (cellV w' ⟨w.heap.size + 1 + 1 + 1 + 1, 0, none⟩) ∧ w'.frozen? ⟨w.heap.size + 1 + 1 + 1 + 1, 0, none⟩ = false) ∧ (w'.cell? ⟨w.heap.size + 1 + 1 + 1 + 1, 1, none⟩ = some (cellV w' ⟨w.heap.size + 1 + 1 + 1 + 1, 1, none⟩) ∧ w'.frozen? ⟨w.heap.size + 1 + 1 + 1 + 1, 1, none⟩ = false)) ((go_split_ands; refine ⟨?_, ?_, ?_, ?_, ?_, ?_, ?_, ?_, ?_, ?_⟩; (· (repeat (first | (with_reducible assumption) | (with_reducible refine cell_drew ?_) | (with_reducible refine cell_drewN ?_ _) | (with_reducible refine cell_below (by assumption) ?_) | ((with_reducible refine cell_new ?_ ?_); (· (simp; done)); (· rfl)) | (with_reducible refine cell_alloc ?_ _) | ((with_reducible refine cell_set ?_ ?_ _); (· first | (simp; done) | (simp; omega) | omega))))); (· (repeat (first | (with_reducible assumption) | (with_reducible refine cell_drew ?_) | (with_reducible refine cell_drewN ?_ _) | (with_reducible refine cell_below (by assumption) ?_) | ((with_reducible refine cell_new ?_ ?_); (· (simp; done)); (· rfl)) | (with_reducible refine cell_alloc ?_ _) | ((with_reducible refine cell_set ?_ ?_ _); (· first | (simp; done) | (simp; omega) | omega))))); (· (repeat (first | (with_reducible assumption) | (with_reducible refine cell_drew ?_) | (with_reducible refine cell_drewN ?_ _) | (with_reducible refine cell_below (by assumption) ?_) | ((with_reducible refine cell_new ?_ ?_); (· (simp; done)); (· rfl)) | (with_reducible refine cell_alloc ?_ _) | ((with_reducible refine cell_set ?_ ?_ _); (· first | (simp; done) | (simp; omega) | omega))))); (· (repeat (first | (with_reducible assumption) | (with_reducible refine cell_drew ?_) | (with_reducible refine cell_drewN ?_ _) | (with_reducible refine cell_below (by assumption) ?_) | ((with_reducible refine cell_new ?_ ?_); (· (simp; done)); (· rfl)) | (with_reducible refine cell_alloc ?_ _) | ((with_reducible refine cell_set ?_ ?_ _); (· first | (simp; done) | (simp; omega) | omega))))); (· (repeat (first | (with_reducible assumption) | (with_reducible refine cell_drew ?_) | (with_reducible refine cell_drewN ?_ _) | (with_reducible refine cell_below (by assumption) ?_) | ((with_reducible refine cell_new ?_ ?_); (· (simp; done)); (· rfl)) | (with_reducible refine cell_alloc ?_ _) | ((with_reducible refine cell_set ?_ ?_ _); (· first | (simp; done) | (simp; omega) | omega))))); (· (repeat (first | (with_reducible assumption) | (with_reducible refine cell_drew ?_) | (with_reducible refine cell_drewN ?_ _) | (with_reducible refine cell_below (by assumption) ?_) | ((with_reducible refine cell_new ?_ ?_); (· (simp; done)); (· rfl)) | (with_reducible refine cell_alloc ?_ _) | ((with_reducible refine cell_set ?_ ?_ _); (· first | (simp; done) | (simp; omega) | omega))))); (· (repeat (first | (with_reducible assumption) | (with_reducible refine cell_drew ?_) | (with_reducible refine cell_drewN ?_ _) | (with_reducible refine cell_below (by assumption) ?_) | ((with_reducible refine cell_new ?_ ?_); (· (simp; done)); (· rfl)) | (with_reducible refine cell_alloc ?_ _) | ((with_reducible refine cell_set ?_ ?_ _); (· first | (simp; done) | (simp; omega) | omega))))); (· (repeat (first | (with_reducible assumption) | (with_reducible refine cell_drew ?_) | (with_reducible refine cell_drewN ?_ _) | (with_reducible refine cell_below (by assumption) ?_) | ((with_reducible refine cell_new ?_ ?_); (· (simp; done)); (· rfl)) | (with_reducible refine cell_alloc ?_ _) | ((with_reducible refine cell_set ?_ ?_ _); (· first | (simp; done) | (simp; omega) | omega))))); (· (repeat (first | (with_reducible exact ⟨by assumption, by assumption⟩) | (with_reducible refine mine_drew ?_) | (with_reducible refine mine_drewN ?_ _) | (with_reducible refine mine_below (by assumption) ?_) | ((with_reducible refine mine_new ?_ ?_); (· (simp; done)); (· rfl)) | (with_reducible refine mine_alloc ?_ _) | (with_reducible refine mine_set ?_ _ _)))); (· (repeat (first | (with_reducible exact ⟨by assumption, by assumption⟩) | (with_reducible refine mine_drew ?_) | (with_reducible refine mine_drewN ?_ _) | (with_reducible refine mine_below (by assumption) ?_) | ((with_reducible refine mine_new ?_ ?_); (· (simp; done)); (· rfl)) | (with_reducible refine mine_alloc ?_ _) | (with_reducible refine mine_set ?_ _ _))))))
        (first | (go_at_call 47; (with_reducible refine (vector_b _ _ _ _ (by omega) (by omega) (by omega) (by omega) _).mono ?_); rintro e w' ⟨rfl, hb'⟩) | (go_at_call 112; (with_reducible refine (cross_b _ _ _ _ (by omega) (by omega) (by omega) (by omega) (by omega) (by omega) (by omega) (by omega) _).mono ?_); rintro e w' ⟨rfl, hb'⟩) | (go_at_call 113; (with_reducible refine (at_any _ _ _ _ _ _ (by assumption) (by assumption) (by assumption) (by assumption) (by assumption) (by assumption) _ R HR.out).mono ?_); rintro e w' ⟨rfl, hb'⟩))
      all_goals
        rename_i hH
        clear hH
        obtain ⟨q0, q0'⟩ : w'.cell? ⟨w.heap.size + 1 + 1 + 1 + 1, 0, none⟩ = some (cellV w' ⟨w.heap.size + 1 + 1 + 1 + 1, 0, none⟩) ∧ w'.frozen? ⟨w.heap.size + 1 + 1 + 1 + 1, 0, none⟩ = false := by (repeat (first | (with_reducible exact ⟨by assumption, by assumption⟩) | (with_reducible refine mine_drew ?_) | (with_reducible refine mine_drewN ?_ _) | (with_reducible refine mine_below (by assumption) ?_) | ((with_reducible refine mine_new ?_ ?_); (· (simp; done)); (· rfl)) | (with_reducible refine mine_alloc ?_ _) | (with_reducible refine mine_set ?_ _ _)))
        obtain ⟨q1, q1'⟩ : w'.cell? ⟨w.heap.size + 1 + 1 + 1 + 1, 1, none⟩ = some (cellV w' ⟨w.heap.size + 1 + 1 + 1 + 1, 1, none⟩) ∧ w'.frozen? ⟨w.heap.size + 1 + 1 + 1 + 1, 1, none⟩ = false := by (repeat (first | (with_reducible exact ⟨by assumption, by assumption⟩) | (with_reducible refine mine_drew ?_) | (with_reducible refine mine_drewN ?_ _) | (with_reducible refine mine_below (by assumption) ?_) | ((with_reducible refine mine_new ?_ ?_); (· (simp; done)); (· rfl)) | (with_reducible refine mine_alloc ?_ _) | (with_reducible refine mine_set ?_ _ _)))
        go_wp2_with fail
        exact bodyPost_ret (v := .tuple #[.agg #[.int .i64 R.1, .int .i64 R.2.1], .int .i64 R.2.2]) (by simp [results, Tryz.results69, go_sem, *]) rfl ⟨rfl, by (repeat (with_reducible (first | assumption | exact Below.refl _ _ | refine Below.drew ?_ | refine below_drewN ?_ _ | refine below_set ?_ (by simp; try omega) _ | refine below_alloc ?_ (Nat.le_refl _) _ | refine below_sub (by assumption) ?_)))⟩
end Go.Proofs.YtjjdojokkmfbmaaGreatDoor
/-
  The walk of the reference's Meet.
-/
namespace Go.Proofs.YtjjdojokkmfbmaaGreatDoor
open Go.RowKit
set_option linter.unusedVariables false
set_option linter.unusedSimpArgs false
theorem rpvalid_d (x y : Int) (v : Bool) (h : vldB x y = v) (w : World) : Calls Tryz.prog 36 #[.agg #[.int .i64 x, .int .i64 y]] w fun e w' => e = .returned (.bool v) ∧ Below w.heap.size w w' := by
  rw [← h]; exact rpvalid_b x y w
set_option maxHeartbeats 2000000 in
theorem rmeet_any (ax ay bx b_y cx cy dx dy : Int) (w : World) (R : Int × Int × Int) (hR : R = meetF ax ay bx b_y cx cy dx dy) :
    Calls Tryz.prog 88 #[.agg #[.int .i64 ax, .int .i64 ay], .agg #[.int .i64 bx, .int .i64 b_y], .agg #[.int .i64 cx, .int .i64 cy], .agg #[.int .i64 dx, .int .i64 dy]] w fun e w' => e = .returned (.tuple #[.agg #[.int .i64 R.1, .int .i64 R.2.1], .int .i64 R.2.2]) ∧ Below w.heap.size w w' := by
  unfold meetF at hR
  rcases hv : (vldB ax ay && vldB bx b_y && vldB cx cy) with _ | _
  · rw [hv, if_pos (by simp)] at hR
    subst hR
    have HV := hide hv
    clear hv
    go_enter Tryz.func88, Tryz.ntmps88
    go_wp2_with fail
    refine (rvalid_any ax ay bx b_y cx cy _).mono ?_
    rintro e w1 ⟨rfl, hb⟩
    rw [HV.out]
    have k_0 := cell_below hb (b := w.heap.size) (o := 0) (v := .int .i64 ax) (by simp [go_sem])
    have k_1 := cell_below hb (b := w.heap.size) (o := 1) (v := .int .i64 ay) (by simp [go_sem])
    have k_2 := cell_below hb (b := w.heap.size + 1) (o := 0) (v := .int .i64 bx) (by simp [go_sem])
    have k_3 := cell_below hb (b := w.heap.size + 1) (o := 1) (v := .int .i64 b_y) (by simp [go_sem])
    have k_4 := cell_below hb (b := w.heap.size + 1 + 1) (o := 0) (v := .int .i64 cx) (by simp [go_sem])
    have k_5 := cell_below hb (b := w.heap.size + 1 + 1) (o := 1) (v := .int .i64 cy) (by simp [go_sem])
    have k_6 := cell_below hb (b := w.heap.size + 1 + 1 + 1) (o := 0) (v := .int .i64 dx) (by simp [go_sem])
    have k_7 := cell_below hb (b := w.heap.size + 1 + 1 + 1) (o := 1) (v := .int .i64 dy) (by simp [go_sem])
    have m_0 := mine_below hb (a := ⟨w.heap.size + 1 + 1 + 1 + 1, 0, none⟩) (mine_of (v := .int .i64 0) (by simp [go_sem]) (by simp [go_sem]))
    have m_1 := mine_below hb (a := ⟨w.heap.size + 1 + 1 + 1 + 1, 1, none⟩) (mine_of (v := .int .i64 0) (by simp [go_sem]) (by simp [go_sem]))
    obtain ⟨m_0a, m_0b⟩ := m_0
    obtain ⟨m_1a, m_1b⟩ := m_1
    go_wp2_with fail
    refine (rvalid_any ax ay bx b_y cx cy _).mono ?_
    rintro e w2 ⟨rfl, hb2⟩
    rw [HV.out]
    have l_0 := cell_below hb2 k_0
    have l_1 := cell_below hb2 k_1
    have l_2 := cell_below hb2 k_2
    have l_3 := cell_below hb2 k_3
    have l_4 := cell_below hb2 k_4
    have l_5 := cell_below hb2 k_5
    have l_6 := cell_below hb2 k_6
    have l_7 := cell_below hb2 k_7
    obtain ⟨n_0a, n_0b⟩ := mine_below hb2 ⟨m_0a, m_0b⟩
    obtain ⟨n_1a, n_1b⟩ := mine_below hb2 ⟨m_1a, m_1b⟩
    go_wp2_with fail
    exact bodyPost_ret (v := .tuple #[.agg #[.int .i64 0, .int .i64 0], .int .i64 1]) (by simp [results, Tryz.results88, go_sem, *]) rfl ⟨rfl, by (repeat (with_reducible (first | assumption | exact Below.refl _ _ | refine Below.drew ?_ | refine below_drewN ?_ _ | refine below_set ?_ (by simp; try omega) _ | refine below_alloc ?_ (Nat.le_refl _) _ | refine below_sub (by assumption) ?_)))⟩
  rcases hd : vldB dx dy with _ | _
  · rw [hv, hd, if_pos (by simp)] at hR
    subst hR
    have HV := hide hv
    have HD := hide hd
    clear hv hd
    go_enter Tryz.func88, Tryz.ntmps88
    go_wp2_with fail
    refine (rvalid_any ax ay bx b_y cx cy _).mono ?_
    rintro e w1 ⟨rfl, hb⟩
    rw [HV.out]
    have k_0 := cell_below hb (b := w.heap.size) (o := 0) (v := .int .i64 ax) (by simp [go_sem])
    have k_1 := cell_below hb (b := w.heap.size) (o := 1) (v := .int .i64 ay) (by simp [go_sem])
    have k_2 := cell_below hb (b := w.heap.size + 1) (o := 0) (v := .int .i64 bx) (by simp [go_sem])
    have k_3 := cell_below hb (b := w.heap.size + 1) (o := 1) (v := .int .i64 b_y) (by simp [go_sem])
    have k_4 := cell_below hb (b := w.heap.size + 1 + 1) (o := 0) (v := .int .i64 cx) (by simp [go_sem])
    have k_5 := cell_below hb (b := w.heap.size + 1 + 1) (o := 1) (v := .int .i64 cy) (by simp [go_sem])
    have k_6 := cell_below hb (b := w.heap.size + 1 + 1 + 1) (o := 0) (v := .int .i64 dx) (by simp [go_sem])
    have k_7 := cell_below hb (b := w.heap.size + 1 + 1 + 1) (o := 1) (v := .int .i64 dy) (by simp [go_sem])
    have m_0 := mine_below hb (a := ⟨w.heap.size + 1 + 1 + 1 + 1, 0, none⟩) (mine_of (v := .int .i64 0) (by simp [go_sem]) (by simp [go_sem]))
    have m_1 := mine_below hb (a := ⟨w.heap.size + 1 + 1 + 1 + 1, 1, none⟩) (mine_of (v := .int .i64 0) (by simp [go_sem]) (by simp [go_sem]))
    obtain ⟨m_0a, m_0b⟩ := m_0
    obtain ⟨m_1a, m_1b⟩ := m_1
    go_wp2_with fail
    refine (rpvalid_d _ _ false HD.out _).mono ?_
    rintro e w2 ⟨rfl, hb2⟩
    have l_0 := cell_below hb2 k_0
    have l_1 := cell_below hb2 k_1
    have l_2 := cell_below hb2 k_2
    have l_3 := cell_below hb2 k_3
    have l_4 := cell_below hb2 k_4
    have l_5 := cell_below hb2 k_5
    have l_6 := cell_below hb2 k_6
    have l_7 := cell_below hb2 k_7
    obtain ⟨n_0a, n_0b⟩ := mine_below hb2 ⟨m_0a, m_0b⟩
    obtain ⟨n_1a, n_1b⟩ := mine_below hb2 ⟨m_1a, m_1b⟩
    go_wp2_with fail
    refine (rvalid_any ax ay bx b_y cx cy _).mono ?_
    rintro e w3 ⟨rfl, hb3⟩
    rw [HV.out]
    have o_0 := cell_below hb3 l_0
    have o_1 := cell_below hb3 l_1
    have o_2 := cell_below hb3 l_2
    have o_3 := cell_below hb3 l_3
    have o_4 := cell_below hb3 l_4
    have o_5 := cell_below hb3 l_5
    have o_6 := cell_below hb3 l_6
    have o_7 := cell_below hb3 l_7
    obtain ⟨p_0a, p_0b⟩ := mine_below hb3 ⟨n_0a, n_0b⟩
    obtain ⟨p_1a, p_1b⟩ := mine_below hb3 ⟨n_1a, n_1b⟩
    go_wp2_with fail
    refine (rpvalid_d _ _ false HD.out _).mono ?_
    rintro e w4 ⟨rfl, hb4⟩
    have r_0 := cell_below hb4 o_0
    have r_1 := cell_below hb4 o_1
    have r_2 := cell_below hb4 o_2
    have r_3 := cell_below hb4 o_3
    have r_4 := cell_below hb4 o_4
    have r_5 := cell_below hb4 o_5
    have r_6 := cell_below hb4 o_6
    have r_7 := cell_below hb4 o_7
    obtain ⟨s_0a, s_0b⟩ := mine_below hb4 ⟨p_0a, p_0b⟩
    obtain ⟨s_1a, s_1b⟩ := mine_below hb4 ⟨p_1a, p_1b⟩
    go_wp2_with fail
    exact bodyPost_ret (v := .tuple #[.agg #[.int .i64 0, .int .i64 0], .int .i64 1]) (by simp [results, Tryz.results88, go_sem, *]) rfl ⟨rfl, by (repeat (with_reducible (first | assumption | exact Below.refl _ _ | refine Below.drew ?_ | refine below_drewN ?_ _ | refine below_set ?_ (by simp; try omega) _ | refine below_alloc ?_ (Nat.le_refl _) _ | refine below_sub (by assumption) ?_)))⟩
  rw [hv, hd, if_neg (by simp)] at hR
  have hv' : (vldB ax ay = true ∧ vldB bx b_y = true) ∧ vldB cx cy = true := by simpa using hv
  have b1 := vldB_bd hv'.1.1
  have b2 := vldB_bd hv'.1.2
  have b3 := vldB_bd hv'.2
  have b4 := vldB_bd hd
  have HV := hide hv
  have HD := hide hd
  clear hv hv' hd
  have d1 := (dot_in (a := bx - ax) (b := b_y - ay) (c := dx - cx) (d := dy - cy) (by omega) (by omega) (by omega) (by omega) (by omega) (by omega) (by omega) (by omega)).2
  have d2 := (dot_in (a := cx - ax) (b := cy - ay) (c := dx - cx) (d := dy - cy) (by omega) (by omega) (by omega) (by omega) (by omega) (by omega) (by omega) (by omega)).2
  have i1 : I64 ax := by unfold I64; omega
  have i2 : I64 ay := by unfold I64; omega
  by_cases h0 : (bx - ax) * (dy - cy) - (b_y - ay) * (dx - cx) = 0
  · rw [if_pos h0] at hR
    subst hR
    have T : ((bx - ax) * (dy - cy) - (b_y - ay) * (dx - cx) == 0) = true := by rw [h0]; rfl
    have H0 := hide h0
    clear h0
    go_enter Tryz.func88, Tryz.ntmps88
    go_wp2_with fail
    refine (rvalid_any ax ay bx b_y cx cy _).mono ?_
    rintro e w1 ⟨rfl, hb⟩
    rw [HV.out]
    have k_0 := cell_below hb (b := w.heap.size) (o := 0) (v := .int .i64 ax) (by simp [go_sem])
    have k_1 := cell_below hb (b := w.heap.size) (o := 1) (v := .int .i64 ay) (by simp [go_sem])
    have k_2 := cell_below hb (b := w.heap.size + 1) (o := 0) (v := .int .i64 bx) (by simp [go_sem])
    have k_3 := cell_below hb (b := w.heap.size + 1) (o := 1) (v := .int .i64 b_y) (by simp [go_sem])
    have k_4 := cell_below hb (b := w.heap.size + 1 + 1) (o := 0) (v := .int .i64 cx) (by simp [go_sem])
    have k_5 := cell_below hb (b := w.heap.size + 1 + 1) (o := 1) (v := .int .i64 cy) (by simp [go_sem])
    have k_6 := cell_below hb (b := w.heap.size + 1 + 1 + 1) (o := 0) (v := .int .i64 dx) (by simp [go_sem])
    have k_7 := cell_below hb (b := w.heap.size + 1 + 1 + 1) (o := 1) (v := .int .i64 dy) (by simp [go_sem])
    have m_0 := mine_below hb (a := ⟨w.heap.size + 1 + 1 + 1 + 1, 0, none⟩) (mine_of (v := .int .i64 0) (by simp [go_sem]) (by simp [go_sem]))
    have m_1 := mine_below hb (a := ⟨w.heap.size + 1 + 1 + 1 + 1, 1, none⟩) (mine_of (v := .int .i64 0) (by simp [go_sem]) (by simp [go_sem]))
    obtain ⟨m_0a, m_0b⟩ := m_0
    obtain ⟨m_1a, m_1b⟩ := m_1
    go_wp2_with fail
    refine (rpvalid_d _ _ true HD.out _).mono ?_
    rintro e w2 ⟨rfl, hb2⟩
    have l_0 := cell_below hb2 k_0
    have l_1 := cell_below hb2 k_1
    have l_2 := cell_below hb2 k_2
    have l_3 := cell_below hb2 k_3
    have l_4 := cell_below hb2 k_4
    have l_5 := cell_below hb2 k_5
    have l_6 := cell_below hb2 k_6
    have l_7 := cell_below hb2 k_7
    obtain ⟨n_0a, n_0b⟩ := mine_below hb2 ⟨m_0a, m_0b⟩
    obtain ⟨n_1a, n_1b⟩ := mine_below hb2 ⟨m_1a, m_1b⟩
    go_wp2_with fail
    refine (rcross_b _ _ _ _ _ _ _ _ (by omega) (by omega) (by omega) (by omega) (by omega) (by omega) (by omega) (by omega) _).mono ?_
    rintro e w3 ⟨rfl, hb3⟩
    have o_0 := cell_below hb3 l_0
    have o_1 := cell_below hb3 l_1
    have o_2 := cell_below hb3 l_2
    have o_3 := cell_below hb3 l_3
    have o_4 := cell_below hb3 l_4
    have o_5 := cell_below hb3 l_5
    have o_6 := cell_below hb3 l_6
    have o_7 := cell_below hb3 l_7
    obtain ⟨p_0a, p_0b⟩ := mine_below hb3 ⟨n_0a, n_0b⟩
    obtain ⟨p_1a, p_1b⟩ := mine_below hb3 ⟨n_1a, n_1b⟩
    go_wp2_with fail
    refine (rvalid_any ax ay bx b_y cx cy _).mono ?_
    rintro e w4 ⟨rfl, hb4⟩
    rw [HV.out]
    have r_0 := cell_below hb4 o_0
    have r_1 := cell_below hb4 o_1
    have r_2 := cell_below hb4 o_2
    have r_3 := cell_below hb4 o_3
    have r_4 := cell_below hb4 o_4
    have r_5 := cell_below hb4 o_5
    have r_6 := cell_below hb4 o_6
    have r_7 := cell_below hb4 o_7
    obtain ⟨s_0a, s_0b⟩ := mine_below hb4 ⟨p_0a, p_0b⟩
    obtain ⟨s_1a, s_1b⟩ := mine_below hb4 ⟨p_1a, p_1b⟩
    go_wp2_with fail
    refine (rpvalid_d _ _ true HD.out _).mono ?_
    rintro e w5 ⟨rfl, hb5⟩
    have t_0 := cell_below hb5 r_0
    have t_1 := cell_below hb5 r_1
    have t_2 := cell_below hb5 r_2
    have t_3 := cell_below hb5 r_3
    have t_4 := cell_below hb5 r_4
    have t_5 := cell_below hb5 r_5
    have t_6 := cell_below hb5 r_6
    have t_7 := cell_below hb5 r_7
    obtain ⟨u_0a, u_0b⟩ := mine_below hb5 ⟨s_0a, s_0b⟩
    obtain ⟨u_1a, u_1b⟩ := mine_below hb5 ⟨s_1a, s_1b⟩
    go_wp2_with fail
    exact bodyPost_ret (v := .tuple #[.agg #[.int .i64 0, .int .i64 0], .int .i64 10]) (by simp [results, Tryz.results88, go_sem, *]) rfl ⟨rfl, by (repeat (with_reducible (first | assumption | exact Below.refl _ _ | refine Below.drew ?_ | refine below_drewN ?_ _ | refine below_set ?_ (by simp; try omega) _ | refine below_alloc ?_ (Nat.le_refl _) _ | refine below_sub (by assumption) ?_)))⟩
  · rw [if_neg h0] at hR
    have T : ((bx - ax) * (dy - cy) - (b_y - ay) * (dx - cx) == 0) = false := by simpa using h0
    have HR := hide hR
    clear h0 hR
    go_enter Tryz.func88, Tryz.ntmps88
    go_wp2_with fail
    refine (rvalid_any ax ay bx b_y cx cy _).mono ?_
    rintro e w1 ⟨rfl, hb⟩
    rw [HV.out]
    have k_0 := cell_below hb (b := w.heap.size) (o := 0) (v := .int .i64 ax) (by simp [go_sem])
    have k_1 := cell_below hb (b := w.heap.size) (o := 1) (v := .int .i64 ay) (by simp [go_sem])
    have k_2 := cell_below hb (b := w.heap.size + 1) (o := 0) (v := .int .i64 bx) (by simp [go_sem])
    have k_3 := cell_below hb (b := w.heap.size + 1) (o := 1) (v := .int .i64 b_y) (by simp [go_sem])
    have k_4 := cell_below hb (b := w.heap.size + 1 + 1) (o := 0) (v := .int .i64 cx) (by simp [go_sem])
    have k_5 := cell_below hb (b := w.heap.size + 1 + 1) (o := 1) (v := .int .i64 cy) (by simp [go_sem])
    have k_6 := cell_below hb (b := w.heap.size + 1 + 1 + 1) (o := 0) (v := .int .i64 dx) (by simp [go_sem])
    have k_7 := cell_below hb (b := w.heap.size + 1 + 1 + 1) (o := 1) (v := .int .i64 dy) (by simp [go_sem])
    have m_0 := mine_below hb (a := ⟨w.heap.size + 1 + 1 + 1 + 1, 0, none⟩) (mine_of (v := .int .i64 0) (by simp [go_sem]) (by simp [go_sem]))
    have m_1 := mine_below hb (a := ⟨w.heap.size + 1 + 1 + 1 + 1, 1, none⟩) (mine_of (v := .int .i64 0) (by simp [go_sem]) (by simp [go_sem]))
    obtain ⟨m_0a, m_0b⟩ := m_0
    obtain ⟨m_1a, m_1b⟩ := m_1
    go_wp2_with fail
    refine (rpvalid_d _ _ true HD.out _).mono ?_
    rintro e w2 ⟨rfl, hb2⟩
    have l_0 := cell_below hb2 k_0
    have l_1 := cell_below hb2 k_1
    have l_2 := cell_below hb2 k_2
    have l_3 := cell_below hb2 k_3
    have l_4 := cell_below hb2 k_4
    have l_5 := cell_below hb2 k_5
    have l_6 := cell_below hb2 k_6
    have l_7 := cell_below hb2 k_7
    obtain ⟨n_0a, n_0b⟩ := mine_below hb2 ⟨m_0a, m_0b⟩
    obtain ⟨n_1a, n_1b⟩ := mine_below hb2 ⟨m_1a, m_1b⟩
    go_wp2_with fail
    refine (rcross_b _ _ _ _ _ _ _ _ (by omega) (by omega) (by omega) (by omega) (by omega) (by omega) (by omega) (by omega) _).mono ?_
    rintro e w3 ⟨rfl, hb3⟩
    have o_0 := cell_below hb3 l_0
    have o_1 := cell_below hb3 l_1
    have o_2 := cell_below hb3 l_2
    have o_3 := cell_below hb3 l_3
    have o_4 := cell_below hb3 l_4
    have o_5 := cell_below hb3 l_5
    have o_6 := cell_below hb3 l_6
    have o_7 := cell_below hb3 l_7
    obtain ⟨p_0a, p_0b⟩ := mine_below hb3 ⟨n_0a, n_0b⟩
    obtain ⟨p_1a, p_1b⟩ := mine_below hb3 ⟨n_1a, n_1b⟩
    go_wp2_with fail
    refine (rvalid_any ax ay bx b_y cx cy _).mono ?_
    rintro e w4 ⟨rfl, hb4⟩
    rw [HV.out]
    have r_0 := cell_below hb4 o_0
    have r_1 := cell_below hb4 o_1
    have r_2 := cell_below hb4 o_2
    have r_3 := cell_below hb4 o_3
    have r_4 := cell_below hb4 o_4
    have r_5 := cell_below hb4 o_5
    have r_6 := cell_below hb4 o_6
    have r_7 := cell_below hb4 o_7
    obtain ⟨s_0a, s_0b⟩ := mine_below hb4 ⟨p_0a, p_0b⟩
    obtain ⟨s_1a, s_1b⟩ := mine_below hb4 ⟨p_1a, p_1b⟩
    go_wp2_with fail
    refine (rpvalid_d _ _ true HD.out _).mono ?_
    rintro e w5 ⟨rfl, hb5⟩
    have t_0 := cell_below hb5 r_0
    have t_1 := cell_below hb5 r_1
    have t_2 := cell_below hb5 r_2
    have t_3 := cell_below hb5 r_3
    have t_4 := cell_below hb5 r_4
    have t_5 := cell_below hb5 r_5
    have t_6 := cell_below hb5 r_6
    have t_7 := cell_below hb5 r_7
    obtain ⟨u_0a, u_0b⟩ := mine_below hb5 ⟨s_0a, s_0b⟩
    obtain ⟨u_1a, u_1b⟩ := mine_below hb5 ⟨s_1a, s_1b⟩
    have hz := hb.size
    simp at hz
    have hz2 := hb2.size
    have hz3 := hb3.size
    have hz4 := hb4.size
    have hz5 := hb5.size
    have hz1 : w.heap.size + 1 + 1 + 1 + 1 < w5.heap.size := by omega
    go_wp2_with fail
    go_region_held3 (fun w' => w'.cell? ⟨w.heap.size, 0, none⟩ = some (.int .i64 ax) ∧ w'.cell? ⟨w.heap.size, 1, none⟩ = some (.int .i64 ay) ∧ w'.cell? ⟨w.heap.size + 1, 0, none⟩ = some (.int .i64 bx) ∧ w'.cell? ⟨w.heap.size + 1, 1, none⟩ = some (.int .i64 b_y) ∧ w'.cell? ⟨w.heap.size + 1 + 1, 0, none⟩ = some (.int .i64 cx) ∧ w'.cell? ⟨w.heap.size + 1 + 1, 1, none⟩ = some (.int .i64 cy) ∧ w'.cell? ⟨w.heap.size + 1 + 1 + 1, 0, none⟩ = some (.int .i64 dx) ∧ w'.cell? ⟨w.heap.size + 1 + 1 + 1, 1, none⟩ = some (.int .i64 dy) ∧ (w'.cell? ⟨w.heap.size + 1 + 1 + 1 + 1, 0, none⟩ = some (cellV w' ⟨w.heap.size + 1 + 1 + 1 + 1, 0, none⟩) ∧ w'.frozen? ⟨w.heap.size + 1 + 1 + 1 + 1, 0, none⟩ = false) ∧ (w'.cell? ⟨w.heap.size + 1 + 1 + 1 + 1, 1, none⟩ = some (cellV w' ⟨w.heap.size + 1 + 1 + 1 + 1, 1, none⟩) ∧ w'.frozen? ⟨w.heap.size + 1 + 1 + 1 + 1, 1, none⟩ = false)) ((go_split_ands; refine ⟨?_, ?_, ?_, ?_, ?_, ?_, ?_, ?_, ?_, ?_⟩; (· (repeat (first | (with_reducible assumption) | (with_reducible refine cell_drew ?_) | (with_reducible refine cell_drewN ?_ _) | (with_reducible refine cell_below (by assumption) ?_) | ((with_reducible refine cell_new ?_ ?_); (· (simp; done)); (· rfl)) | (with_reducible refine cell_alloc ?_ _) | ((with_reducible refine cell_set ?_ ?_ _); (· first | (simp; done) | (simp; omega) | omega))))); (· (repeat (first | (with_reducible assumption) | (with_reducible refine cell_drew ?_) | (with_reducible refine cell_drewN ?_ _) | (with_reducible refine cell_below (by assumption) ?_) | ((with_reducible refine cell_new ?_ ?_); (· (simp; done)); (· rfl)) | (with_reducible refine cell_alloc ?_ _) | ((with_reducible refine cell_set ?_ ?_ _); (· first | (simp; done) | (simp; omega) | omega))))); (· (repeat (first | (with_reducible assumption) | (with_reducible refine cell_drew ?_) | (with_reducible refine cell_drewN ?_ _) | (with_reducible refine cell_below (by assumption) ?_) | ((with_reducible refine cell_new ?_ ?_); (· (simp; done)); (· rfl)) | (with_reducible refine cell_alloc ?_ _) | ((with_reducible refine cell_set ?_ ?_ _); (· first | (simp; done) | (simp; omega) | omega))))); (· (repeat (first | (with_reducible assumption) | (with_reducible refine cell_drew ?_) | (with_reducible refine cell_drewN ?_ _) | (with_reducible refine cell_below (by assumption) ?_) | ((with_reducible refine cell_new ?_ ?_); (· (simp; done)); (· rfl)) | (with_reducible refine cell_alloc ?_ _) | ((with_reducible refine cell_set ?_ ?_ _); (· first | (simp; done) | (simp; omega) | omega))))); (· (repeat (first | (with_reducible assumption) | (with_reducible refine cell_drew ?_) | (with_reducible refine cell_drewN ?_ _) | (with_reducible refine cell_below (by assumption) ?_) | ((with_reducible refine cell_new ?_ ?_); (· (simp; done)); (· rfl)) | (with_reducible refine cell_alloc ?_ _) | ((with_reducible refine cell_set ?_ ?_ _); (· first | (simp; done) | (simp; omega) | omega))))); (· (repeat (first | (with_reducible assumption) | (with_reducible refine cell_drew ?_) | (with_reducible refine cell_drewN ?_ _) | (with_reducible refine cell_below (by assumption) ?_) | ((with_reducible refine cell_new ?_ ?_); (· (simp; done)); (· rfl)) | (with_reducible refine cell_alloc ?_ _) | ((with_reducible refine cell_set ?_ ?_ _); (· first | (simp; done) | (simp; omega) | omega))))); (· (repeat (first | (with_reducible assumption) | (with_reducible refine cell_drew ?_) | (with_reducible refine cell_drewN ?_ _) | (with_reducible refine cell_below (by assumption) ?_) | ((with_reducible refine cell_new ?_ ?_); (· (simp; done)); (· rfl)) | (with_reducible refine cell_alloc ?_ _) | ((with_reducible refine cell_set ?_ ?_ _); (· first | (simp; done) | (simp; omega) | omega))))); (· (repeat (first | (with_reducible assumption) | (with_reducible refine cell_drew ?_) | (with_reducible refine cell_drewN ?_ _) | (with_reducible refine cell_below (by assumption) ?_) | ((with_reducible refine cell_new ?_ ?_); (· (simp; done)); (· rfl)) | (with_reducible refine cell_alloc ?_ _) | ((with_reducible refine cell_set ?_ ?_ _); (· first | (simp; done) | (simp; omega) | omega))))); (· (repeat (first | (with_reducible exact ⟨by assumption, by assumption⟩) | (with_reducible refine mine_drew ?_) | (with_reducible refine mine_drewN ?_ _) | (with_reducible refine mine_below (by assumption) ?_) | ((with_reducible refine mine_new ?_ ?_); (· (simp; done)); (· rfl)) | (with_reducible refine mine_alloc ?_ _) | (with_reducible refine mine_set ?_ _ _)))); (· (repeat (first | (with_reducible exact ⟨by assumption, by assumption⟩) | (with_reducible refine mine_drew ?_) | (with_reducible refine mine_drewN ?_ _) | (with_reducible refine mine_below (by assumption) ?_) | ((with_reducible refine mine_new ?_ ?_); (· (simp; done)); (· rfl)) | (with_reducible refine mine_alloc ?_ _) | (with_reducible refine mine_set ?_ _ _))))))
      (first | (go_at_call 129; (with_reducible refine (rcross_b _ _ _ _ _ _ _ _ (by omega) (by omega) (by omega) (by omega) (by omega) (by omega) (by omega) (by omega) _).mono ?_); rintro e w' ⟨rfl, hb'⟩) | (go_at_call 130; (with_reducible refine (rat_any _ _ _ _ _ _ (by assumption) (by assumption) (by omega) (by omega) (by omega) (by omega) (by assumption) (by assumption) _ R HR.out).mono ?_); rintro e w' ⟨rfl, hb'⟩))
    all_goals
      rename_i hH
      clear hH
      obtain ⟨q0, q0'⟩ : w'.cell? ⟨w.heap.size + 1 + 1 + 1 + 1, 0, none⟩ = some (cellV w' ⟨w.heap.size + 1 + 1 + 1 + 1, 0, none⟩) ∧ w'.frozen? ⟨w.heap.size + 1 + 1 + 1 + 1, 0, none⟩ = false := by (repeat (first | (with_reducible exact ⟨by assumption, by assumption⟩) | (with_reducible refine mine_drew ?_) | (with_reducible refine mine_drewN ?_ _) | (with_reducible refine mine_below (by assumption) ?_) | ((with_reducible refine mine_new ?_ ?_); (· (simp; done)); (· rfl)) | (with_reducible refine mine_alloc ?_ _) | (with_reducible refine mine_set ?_ _ _)))
      obtain ⟨q1, q1'⟩ : w'.cell? ⟨w.heap.size + 1 + 1 + 1 + 1, 1, none⟩ = some (cellV w' ⟨w.heap.size + 1 + 1 + 1 + 1, 1, none⟩) ∧ w'.frozen? ⟨w.heap.size + 1 + 1 + 1 + 1, 1, none⟩ = false := by (repeat (first | (with_reducible exact ⟨by assumption, by assumption⟩) | (with_reducible refine mine_drew ?_) | (with_reducible refine mine_drewN ?_ _) | (with_reducible refine mine_below (by assumption) ?_) | ((with_reducible refine mine_new ?_ ?_); (· (simp; done)); (· rfl)) | (with_reducible refine mine_alloc ?_ _) | (with_reducible refine mine_set ?_ _ _)))
      go_wp2_with fail
      exact bodyPost_ret (v := .tuple #[.agg #[.int .i64 R.1, .int .i64 R.2.1], .int .i64 R.2.2]) (by simp [results, Tryz.results88, go_sem, *]) rfl ⟨rfl, by (repeat (with_reducible (first | assumption | exact Below.refl _ _ | refine Below.drew ?_ | refine below_drewN ?_ _ | refine below_set ?_ (by simp; try omega) _ | refine below_alloc ?_ (Nat.le_refl _) _ | refine below_sub (by assumption) ?_)))⟩
end Go.Proofs.YtjjdojokkmfbmaaGreatDoor
