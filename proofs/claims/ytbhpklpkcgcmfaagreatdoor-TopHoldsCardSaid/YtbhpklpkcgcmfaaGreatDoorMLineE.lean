/-
  The walks of Offset, of the program and of the reference.
-/
import Derived.Test.YtbhpklpkcgcmfaaGreatDoorMLineB
import Derived.Test.YtbhpklpkcgcmfaaGreatDoorMWi
import Derived.Test.YtbhpklpkcgcmfaaGreatDoorMWide
namespace Go.Proofs.YtbhpklpkcgcmfaaGreatDoor
open Go.RowKit
set_option linter.unusedVariables false
set_option linter.unusedSimpArgs false
set_option maxHeartbeats 2000000 in
theorem off_any (ax ay bx b_y px py : Int) (w : World) (R : Int × Int × Int) (hR : R = offF ax ay bx b_y px py) :
 Calls Tryz.prog 19 #[.agg #[.int .i64 ax, .int .i64 ay], .agg #[.int .i64 bx, .int .i64 b_y], .agg #[.int .i64 px, .int .i64 py]] w fun e w' => e = .returned (.tuple #[.int .i64 R.1, .int .i64 R.2.1, .int .i64 R.2.2]) ∧ Below w.heap.size w w' := by
 unfold offF at hR
 rcases hv : (vldB ax ay && vldB bx b_y && vldB px py) with _ | _
 · rw [hv, if_pos (by simp)] at hR
   subst hR
   have HV := hide hv
   clear hv
   go_enter Tryz.func19, Tryz.ntmps19
   go_wp2_with fail
   refine (valid3_any ax ay bx b_y px py _ _ _ (new_at _ _ _ (by simp))).mono ?_
   rintro e w1 ⟨rfl, hb⟩
   rw [HV.out]
   go_wp2_with fail
   go_ret3
   exact ⟨rfl, by (repeat (with_reducible (first | assumption | exact Below.refl _ _ | refine Below.drew ?_ | refine below_drewN ?_ _ | refine below_set ?_ (by simp; try omega) _ | refine below_alloc ?_ (Nat.le_refl _) _ | refine below_sub (by assumption) ?_)))⟩
 have hv' : (vldB ax ay = true ∧ vldB bx b_y = true) ∧ vldB px py = true := by simpa using hv
 rw [hv, if_neg (by simp)] at hR
 by_cases he : ax = bx ∧ ay = b_y
 · rw [if_pos he] at hR
   subst hR
   have HV := hide hv
   clear hv hv'
   obtain ⟨rfl, rfl⟩ := he
   go_enter Tryz.func19, Tryz.ntmps19
   go_wp2_with fail
   refine (valid3_any ax ay ax ay px py _ _ _ (new_at _ _ _ (by simp))).mono ?_
   rintro e w1 ⟨rfl, hb⟩
   rw [HV.out]
   have k_0 := cell_below hb (b := w.heap.size) (o := 0) (v := .int .i64 ax) (by simp [go_sem])
   have k_1 := cell_below hb (b := w.heap.size) (o := 1) (v := .int .i64 ay) (by simp [go_sem])
   have k_2 := cell_below hb (b := w.heap.size + 1) (o := 0) (v := .int .i64 ax) (by simp [go_sem])
   have k_3 := cell_below hb (b := w.heap.size + 1) (o := 1) (v := .int .i64 ay) (by simp [go_sem])
   have k_4 := cell_below hb (b := w.heap.size + 1 + 1) (o := 0) (v := .int .i64 px) (by simp [go_sem])
   have k_5 := cell_below hb (b := w.heap.size + 1 + 1) (o := 1) (v := .int .i64 py) (by simp [go_sem])
   go_wp2_with fail
   go_ret3
   exact ⟨rfl, by (repeat (with_reducible (first | assumption | exact Below.refl _ _ | refine Below.drew ?_ | refine below_drewN ?_ _ | refine below_set ?_ (by simp; try omega) _ | refine below_alloc ?_ (Nat.le_refl _) _ | refine below_sub (by assumption) ?_)))⟩
 rw [if_neg he] at hR
 have s0 := dist2_pos he
 have s1 := dist2_bd hv'.1.1 hv'.1.2
 have b1 := vldB_bd hv'.1.1
 have b2 := vldB_bd hv'.1.2
 have b3 := vldB_bd hv'.2
 have l1 := crs_le (px - ax) (py - ay) (bx - ax) (b_y - ay)
 have l2 := dot_le (px - ax) (py - ay) (bx - ax) (b_y - ay)
 have v1 := sq_bd (a := px - ax) (m := 4000000) (by omega) (by omega)
 have v2 := sq_bd (a := py - ay) (m := 4000000) (by omega) (by omega)
 have HV := hide hv
 have T : ((ax == bx) = true ∧ (ay == b_y) = false) ∨ (ax == bx) = false := by
  by_cases hx0 : ax = bx
  · left; simp [hx0]; intro hy0; exact he ⟨hx0, hy0⟩
  · right; simp [hx0]
 clear he hv hv'
 unfold dist2 at *
 have d1 := dot_in (a := bx - ax) (b := b_y - ay) (c := px - ax) (d := py - ay) (by omega) (by omega) (by omega) (by omega) (by omega) (by omega) (by omega) (by omega)
 have p1 := prod_bd (a := bx - ax) (b := py - ay) (by omega) (by omega) (by omega) (by omega)
 have p2 := prod_bd (a := b_y - ay) (b := px - ax) (by omega) (by omega) (by omega) (by omega)
 have p3 := prod_bd (a := bx - ax) (b := px - ax) (by omega) (by omega) (by omega) (by omega)
 have p4 := prod_bd (a := b_y - ay) (b := py - ay) (by omega) (by omega) (by omega) (by omega)
 have D1 := fun W => dot_b (bx - ax) (b_y - ay) (bx - ax) (b_y - ay) (by omega) (by omega) (by omega) (by omega) (by omega) (by omega) (by omega) (by omega) W
 have D2 := fun W => dot_b (bx - ax) (b_y - ay) (px - ax) (py - ay) (by omega) (by omega) (by omega) (by omega) (by omega) (by omega) (by omega) (by omega) W
 have CR := fun W => cross_b (bx - ax) (b_y - ay) (px - ax) (py - ay) (by omega) (by omega) (by omega) (by omega) (by omega) (by omega) (by omega) (by omega) W
 have L1 := fun W => length_any (-((bx - ax) * (py - ay) - (b_y - ay) * (px - ax))) ((bx - ax) * (bx - ax) + (b_y - ay) * (b_y - ay)) (by omega) (by omega) s0 (by omega) W
 have L2 := fun W => length_any ((bx - ax) * (px - ax) + (b_y - ay) * (py - ay)) ((bx - ax) * (bx - ax) + (b_y - ay) * (b_y - ay)) (by omega) (by omega) s0 (by omega) W
 have wn := wi' (x := -((bx - ax) * (py - ay) - (b_y - ay) * (px - ax))) (by omega) (by omega)
 clear p1 p2 p3 p4 d1 l1 l2 v1 v2 s0 s1
 generalize (bx - ax) * (bx - ax) + (b_y - ay) * (b_y - ay) = s at *
 generalize (bx - ax) * (py - ay) - (b_y - ay) * (px - ax) = X at *
 generalize (bx - ax) * (px - ax) + (b_y - ay) * (py - ay) = Y at *
 generalize lenF (-X) s = LX at *
 generalize lenF Y s = LY at *
 subst hR
 rcases T with ⟨t1, t2⟩ | t1
 all_goals
  go_enter Tryz.func19, Tryz.ntmps19
  go_wp2_with fail
  refine (valid3_any ax ay bx b_y px py _ _ _ (new_at _ _ _ (by simp))).mono ?_
  rintro e w1 ⟨rfl, hb⟩
  rw [HV.out]
  have k_0 := cell_below hb (b := w.heap.size) (o := 0) (v := .int .i64 ax) (by simp [go_sem])
  have k_1 := cell_below hb (b := w.heap.size) (o := 1) (v := .int .i64 ay) (by simp [go_sem])
  have k_2 := cell_below hb (b := w.heap.size + 1) (o := 0) (v := .int .i64 bx) (by simp [go_sem])
  have k_3 := cell_below hb (b := w.heap.size + 1) (o := 1) (v := .int .i64 b_y) (by simp [go_sem])
  have k_4 := cell_below hb (b := w.heap.size + 1 + 1) (o := 0) (v := .int .i64 px) (by simp [go_sem])
  have k_5 := cell_below hb (b := w.heap.size + 1 + 1) (o := 1) (v := .int .i64 py) (by simp [go_sem])
  have hz := hb.size
  simp at hz
  have hz1 : w.heap.size + 1 + 1 < w1.heap.size := by omega
  go_wp2_with fail
  go_cut [9, 10] (fun s9 s10 wx => ∃ g h : Nat, s9 = .pointer (some ⟨g, 0, none⟩) ∧ s10 = .pointer (some ⟨h, 0, none⟩) ∧ (wx.cell? ⟨g, 0, none⟩ = some (.int .i64 (bx - ax)) ∧ wx.cell? ⟨g, 1, none⟩ = some (.int .i64 (b_y - ay)) ∧ wx.cell? ⟨h, 0, none⟩ = some (.int .i64 (px - ax)) ∧ wx.cell? ⟨h, 1, none⟩ = some (.int .i64 (py - ay))) ∧ (w1.heap.size ≤ g ∧ w1.heap.size ≤ h) ∧ Below w1.heap.size w1 wx)
  case first =>
   go_region_held3 (fun w' => w'.cell? ⟨w.heap.size, 0, none⟩ = some (.int .i64 ax) ∧ w'.cell? ⟨w.heap.size, 1, none⟩ = some (.int .i64 ay) ∧ w'.cell? ⟨w.heap.size + 1, 0, none⟩ = some (.int .i64 bx) ∧ w'.cell? ⟨w.heap.size + 1, 1, none⟩ = some (.int .i64 b_y) ∧ w'.cell? ⟨w.heap.size + 1 + 1, 0, none⟩ = some (.int .i64 px) ∧ w'.cell? ⟨w.heap.size + 1 + 1, 1, none⟩ = some (.int .i64 py)) ((go_split_ands; refine ⟨?_, ?_, ?_, ?_, ?_, ?_⟩ <;> (repeat (first | (with_reducible assumption) | (with_reducible refine cell_drew ?_) | (with_reducible refine cell_drewN ?_ _) | (with_reducible refine cell_below (by assumption) ?_) | ((with_reducible refine cell_new ?_ ?_); (· (simp; done)); (· rfl)) | (with_reducible refine cell_alloc ?_ _) | ((with_reducible refine cell_set ?_ ?_ _); (· first | (simp; done) | (simp; omega) | omega))))))
    (first | (go_at_call 41; (with_reducible refine (vector_any _ _ _ _ (by omega) (by omega) (by omega) (by omega) _).mono ?_); rintro e w' ⟨rfl, rfl⟩))
   all_goals
    go_wp2_with fail
    go_meet
    refine ⟨_, _, rfl, rfl, ?_, ?_, ?_⟩
    · simp [go_sem]
    · constructor <;> (first | omega | (simp; omega))
    · (repeat (with_reducible (first | assumption | exact Below.refl _ _ | refine Below.drew ?_ | refine below_drewN ?_ _ | refine below_set ?_ (by simp; try omega) _ | refine below_alloc ?_ (Nat.le_refl _) _ | refine below_sub (by assumption) ?_)))
  case rest =>
   obtain ⟨g, h, rfl, rfl, ⟨c1, c2, c3, c4⟩, ⟨hg, hh⟩, hbc⟩ := hcut
   have hz2 := hbc.size
   go_wp2_with fail
   refine (D1 _).mono ?_
   rintro e w3 ⟨rfl, hb3⟩
   have e1 := cell_below hb3 c1
   have e2 := cell_below hb3 c2
   have e3 := cell_below hb3 c3
   have e4 := cell_below hb3 c4
   clear c1 c2 c3 c4
   go_wp2_with fail
   go_region_held3 (fun w' => w'.cell? ⟨g, 0, none⟩ = some (.int .i64 (bx - ax)) ∧ w'.cell? ⟨g, 1, none⟩ = some (.int .i64 (b_y - ay)) ∧ w'.cell? ⟨h, 0, none⟩ = some (.int .i64 (px - ax)) ∧ w'.cell? ⟨h, 1, none⟩ = some (.int .i64 (py - ay))) ((go_split_ands; refine ⟨?_, ?_, ?_, ?_⟩ <;> (repeat (first | (with_reducible assumption) | (with_reducible refine cell_drew ?_) | (with_reducible refine cell_drewN ?_ _) | (with_reducible refine cell_below (by assumption) ?_) | ((with_reducible refine cell_new ?_ ?_); (· (simp; done)); (· rfl)) | (with_reducible refine cell_alloc ?_ _) | ((with_reducible refine cell_set ?_ ?_ _); (· first | (simp; done) | (simp; omega) | omega))))))
    (first | (go_at_call 45; refine (CR _).mono ?_; rintro e w' ⟨rfl, hb'⟩) | (go_at_call 43; refine (D2 _).mono ?_; rintro e w' ⟨rfl, hb'⟩) | (go_at_call_of 44 (Value.int IntKind.i64 (-X)); refine (L1 _).mono ?_; rintro e w' ⟨rfl, hb'⟩) | (go_at_call_of 44 (Value.int IntKind.i64 Y); refine (L2 _).mono ?_; rintro e w' ⟨rfl, hb'⟩))
   all_goals
    go_wp2_with fail
    go_ret3
    exact ⟨rfl, by (repeat (with_reducible (first | assumption | exact Below.refl _ _ | refine Below.drew ?_ | refine below_drewN ?_ _ | refine below_set ?_ (by simp; try omega) _ | refine below_alloc ?_ (Nat.le_refl _) _ | refine below_sub (by assumption) ?_)))⟩
end Go.Proofs.YtbhpklpkcgcmfaaGreatDoor
