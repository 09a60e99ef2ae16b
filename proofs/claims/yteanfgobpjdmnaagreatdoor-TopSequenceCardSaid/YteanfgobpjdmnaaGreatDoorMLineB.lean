/-
  The walks of at, of the program and of the reference.
-/
import Derived.Test.YteanfgobpjdmnaaGreatDoorMLineA
import Derived.Deep.DeepCutAuto
namespace Go.Proofs.YteanfgobpjdmnaaGreatDoor
open Go.RowKit
set_option linter.unusedVariables false
set_option linter.unusedSimpArgs false
theorem zMLineB1 {P : Prop} (h : P := by (repeat (first | (with_reducible exact ⟨by assumption, by assumption⟩) | (with_reducible refine vh ?_) | (with_reducible refine yD ?_ _) | (with_reducible refine qw (by assumption) ?_) | ((with_reducible refine uw ?_ ?_); (· (simp; done)); (· rfl)) | (with_reducible refine jE ?_ _) | (with_reducible refine vZ ?_ _ _)))) : P := h
theorem zMLineB0 {P : Prop} (h : P := by (repeat (first | (with_reducible assumption) | (with_reducible refine qC ?_) | (with_reducible refine qu ?_ _) | (with_reducible refine qa (by assumption) ?_) | ((with_reducible refine qG ?_ ?_); (· (simp; done)); (· rfl)) | (with_reducible refine qt ?_ _) | ((with_reducible refine qK ?_ ?_ _); (· first | (simp; done) | (simp; omega) | omega))))) : P := h
theorem Uj (m : Nat) (a b c : Int) : qH (qM m a b c).1 := by
 unfold qM
 unfold qH
 split
 · omega
 · split
   · rename_i h
     unfold Zj at h
     simpa using h
   · omega
theorem wN {ax ay vx vy n d X Y E F : Int} (h1 : qM 2 vx n d = (X, E)) (h2 : qM 2 vy n d = (Y, F)) (h : ¬ (E = 0 ∧ F = 0)) : ul ax ay vx vy n d = (0, 0, 2) := by
 unfold ul
 rw [h1, h2, if_neg h]
theorem wO {ax ay vx vy n d X Y : Int} (h1 : qM 2 vx n d = (X, 0)) (h2 : qM 2 vy n d = (Y, 0)) (h : qf (sat (ax + X)) (sat (ay + Y)) = false) : ul ax ay vx vy n d = (0, 0, 2) := by
 unfold ul
 rw [h1, h2, if_pos ⟨rfl, rfl⟩, if_neg (by simp [h])]
theorem cZ {ax ay vx vy n d X Y : Int} (h1 : qM 2 vx n d = (X, 0)) (h2 : qM 2 vy n d = (Y, 0)) (h : qf (sat (ax + X)) (sat (ay + Y)) = true) : ul ax ay vx vy n d = (sat (ax + X), sat (ay + Y), 0) := by
 unfold ul
 rw [h1, h2, if_pos ⟨rfl, rfl⟩, if_pos h]
set_option maxHeartbeats 1000000 in
theorem av (ax ay vx vy n d : Int) (ha : qH ax) (hb : qH ay) (hx : qH vx) (hy : qH vy) (hn : qH n) (hd : qH d) (w : World) (R : Int × Int × Int) (hR : R = ul ax ay vx vy n d) :
 Calls Tryz.prog 116 #[.agg #[.int .i64 ax, .int .i64 ay], .agg #[.int .i64 vx, .int .i64 vy], .int .i64 n, .int .i64 d] w fun e w' => e = .returned (.tuple #[.agg #[.int .i64 R.1, .int .i64 R.2.1], .int .i64 R.2.2]) ∧ Below w.heap.size w w' := by
 have M1 := fun w => yZ vx n d hx hn hd w
 have M2 := fun w => yZ vy n d hy hn hd w
 have i1 := Uj 2 vx n d
 have i2 := Uj 2 vy n d
 have A1 := fun X Y E F => wN (ax := ax) (ay := ay) (vx := vx) (vy := vy) (n := n) (d := d) (X := X) (Y := Y) (E := E) (F := F)
 have A2 := fun X Y => wO (ax := ax) (ay := ay) (vx := vx) (vy := vy) (n := n) (d := d) (X := X) (Y := Y)
 have A3 := fun X Y => cZ (ax := ax) (ay := ay) (vx := vx) (vy := vy) (n := n) (d := d) (X := X) (Y := Y)
 generalize qM 2 vx n d = m1 at *
 generalize qM 2 vy n d = m2 at *
 rw [← hR] at A1 A2 A3
 clear hR
 obtain ⟨X, E⟩ := m1
 obtain ⟨Y, F⟩ := m2
 by_cases hE : E = 0 ∧ F = 0
 · obtain ⟨rfl, rfl⟩ := hE
   have A2 := A2 X Y rfl rfl
   have A3 := A3 X Y rfl rfl
   clear A1
   rcases hv : qf (sat (ax + X)) (sat (ay + Y)) with _ | _
   all_goals
    have HV := hide hv
   · obtain rfl := A2 hv
     clear hv A3 A2
     go_enter Tryz.func116, Tryz.ntmps116
     go_wp2_with fail
     refine (M1 _).mono ?_
     rintro e w' ⟨rfl, n1, rfl⟩
     go_wp2_with fail
     refine (M2 _).mono ?_
     rintro e w' ⟨rfl, n2, rfl⟩
     go_wp2_with fail
     go_region_held3 (fun w' => w'.cell? ⟨w.heap.size, 0, none⟩ = some (.int .i64 ax) ∧ w'.cell? ⟨w.heap.size, 1, none⟩ = some (.int .i64 ay)) ((go_split_ands; refine ⟨?_, ?_⟩ <;> (repeat (first | (with_reducible assumption) | (with_reducible refine qC ?_) | (with_reducible refine qu ?_ _) | (with_reducible refine qa (by assumption) ?_) | ((with_reducible refine qG ?_ ?_); (· (simp; done)); (· rfl)) | (with_reducible refine qt ?_ _)))))
      (first | (go_at_call 126; (with_reducible refine (dm _ _ (by assumption) (by assumption) _).mono ?_); rintro e w' ⟨rfl, rfl⟩))
     all_goals
      go_wp2_with (go_at_call 16; refine (kH _ _ _ HV.out _).mono ?_; rintro e w' ⟨rfl, rfl⟩)
      exact bodyPost_ret (v := .tuple #[.agg #[.int .i64 0, .int .i64 0], .int .i64 2]) (by simp [results, Tryz.results116, go_sem]) rfl ⟨rfl, by (repeat (with_reducible (first | assumption | exact Below.refl _ _ | refine Below.drew ?_ | refine below_drewN ?_ _ | refine qj ?_ (by simp; try omega) _ | refine qe ?_ (Nat.le_refl _) _ | refine qi (by assumption) ?_)))⟩
   · obtain rfl := A3 hv
     clear hv A3 A2
     go_enter Tryz.func116, Tryz.ntmps116
     go_wp2_with fail
     refine (M1 _).mono ?_
     rintro e w' ⟨rfl, n1, rfl⟩
     go_wp2_with fail
     refine (M2 _).mono ?_
     rintro e w' ⟨rfl, n2, rfl⟩
     go_wp2_with fail
     go_region_held3 (fun w' => w'.cell? ⟨w.heap.size, 0, none⟩ = some (.int .i64 ax) ∧ w'.cell? ⟨w.heap.size, 1, none⟩ = some (.int .i64 ay)) ((go_split_ands; refine ⟨?_, ?_⟩ <;> (repeat (first | (with_reducible assumption) | (with_reducible refine qC ?_) | (with_reducible refine qu ?_ _) | (with_reducible refine qa (by assumption) ?_) | ((with_reducible refine qG ?_ ?_); (· (simp; done)); (· rfl)) | (with_reducible refine qt ?_ _)))))
      (first | (go_at_call 126; (with_reducible refine (dm _ _ (by assumption) (by assumption) _).mono ?_); rintro e w' ⟨rfl, rfl⟩))
     all_goals
      go_wp2_with (go_at_call 16; refine (kH _ _ _ HV.out _).mono ?_; rintro e w' ⟨rfl, rfl⟩)
      exact bodyPost_ret (v := .tuple #[.agg #[.int .i64 (sat (ax + X)), .int .i64 (sat (ay + Y))], .int .i64 0]) (by simp [results, Tryz.results116, go_sem]) rfl ⟨rfl, by (repeat (with_reducible (first | assumption | exact Below.refl _ _ | refine Below.drew ?_ | refine below_drewN ?_ _ | refine qj ?_ (by simp; try omega) _ | refine qe ?_ (Nat.le_refl _) _ | refine qi (by assumption) ?_)))⟩
 · obtain rfl := A1 X Y E F rfl rfl hE
   have T : (E != 0) = true ∨ ((E != 0) = false ∧ (F != 0) = true) := by
    by_cases hE0 : E = 0
    · right; exact ⟨by simp [hE0], by rw [bne_iff_ne]; intro hF; exact hE ⟨hE0, hF⟩⟩
    · left; rw [bne_iff_ne]; exact hE0
   clear A1 A2 A3 hE
   rcases T with t1 | ⟨t1, t2⟩
   all_goals
    go_enter Tryz.func116, Tryz.ntmps116
    go_wp2_with fail
    refine (M1 _).mono ?_
    rintro e w' ⟨rfl, n1, rfl⟩
    go_wp2_with fail
    refine (M2 _).mono ?_
    rintro e w' ⟨rfl, n2, rfl⟩
    go_wp2_with fail
    exact bodyPost_ret (v := .tuple #[.agg #[.int .i64 0, .int .i64 0], .int .i64 2]) (by simp [results, Tryz.results116, go_sem]) rfl ⟨rfl, by (repeat (with_reducible (first | assumption | exact Below.refl _ _ | refine Below.drew ?_ | refine below_drewN ?_ _ | refine qj ?_ (by simp; try omega) _ | refine qe ?_ (Nat.le_refl _) _ | refine qi (by assumption) ?_)))⟩
theorem VA {a b c d : Int} (h1 : -4000000 ≤ a) (h2 : a ≤ 4000000) (h3 : -4000000 ≤ b) (h4 : b ≤ 4000000) (h5 : -4000000 ≤ c) (h6 : c ≤ 4000000) (h7 : -4000000 ≤ d) (h8 : d ≤ 4000000) : qH (a * c + b * d) ∧ qH (a * d - b * c) := by
 have p1 := vw h1 h2 h5 h6
 have p2 := vw h3 h4 h7 h8
 have p3 := vw h1 h2 h7 h8
 have p4 := vw h3 h4 h5 h6
 unfold qH
 omega
set_option maxHeartbeats 1000000 in
theorem GL (ax ay bx b_y px py : Int) (w : World) (R : Int × Int × Int) (hR : R = VT ax ay bx b_y px py) :
 Calls Tryz.prog 93 #[.agg #[.int .i64 ax, .int .i64 ay], .agg #[.int .i64 bx, .int .i64 b_y], .agg #[.int .i64 px, .int .i64 py]] w fun e w' => e = .returned (.tuple #[.agg #[.int .i64 R.1, .int .i64 R.2.1], .int .i64 R.2.2]) ∧ Below w.heap.size w w' := by
 unfold VT at hR
 rcases hv : (qf ax ay && qf bx b_y && qf px py) with _ | _
 · rw [hv, if_pos (by simp)] at hR
   subst hR
   have HV := hide hv
   clear hv
   go_enter Tryz.func93, Tryz.ntmps93
   go_wp2_with fail
   refine (vE ax ay bx b_y px py _ _ _ (kv _ _ _ (by simp))).mono ?_
   rintro e w1 ⟨rfl, hb⟩
   rw [HV.out]
   have k_0 := qa hb (b := w.heap.size) (o := 0) (v := .int .i64 ax) (by simp [go_sem])
   have k_1 := qa hb (b := w.heap.size) (o := 1) (v := .int .i64 ay) (by simp [go_sem])
   have k_2 := qa hb (b := w.heap.size + 1) (o := 0) (v := .int .i64 bx) (by simp [go_sem])
   have k_3 := qa hb (b := w.heap.size + 1) (o := 1) (v := .int .i64 b_y) (by simp [go_sem])
   have k_4 := qa hb (b := w.heap.size + 1 + 1) (o := 0) (v := .int .i64 px) (by simp [go_sem])
   have k_5 := qa hb (b := w.heap.size + 1 + 1) (o := 1) (v := .int .i64 py) (by simp [go_sem])
   have m_0 := qw hb (a := ⟨w.heap.size + 1 + 1 + 1, 0, none⟩) (ja (v := .int .i64 0) (by simp [go_sem]) (by simp [go_sem]))
   have m_1 := qw hb (a := ⟨w.heap.size + 1 + 1 + 1, 1, none⟩) (ja (v := .int .i64 0) (by simp [go_sem]) (by simp [go_sem]))
   obtain ⟨m_0a, m_0b⟩ := m_0
   obtain ⟨m_1a, m_1b⟩ := m_1
   go_wp2_with fail
   exact bodyPost_ret (v := .tuple #[.agg #[.int .i64 0, .int .i64 0], .int .i64 1]) (by simp [results, Tryz.results93, go_sem, *]) rfl ⟨rfl, by (repeat (with_reducible (first | assumption | exact Below.refl _ _ | refine Below.drew ?_ | refine below_drewN ?_ _ | refine qj ?_ (by simp; try omega) _ | refine qe ?_ (Nat.le_refl _) _ | refine qi (by assumption) ?_)))⟩
 rw [hv, if_neg (by simp)] at hR
 have hv' : (qf ax ay = true ∧ qf bx b_y = true) ∧ qf px py = true := by simpa using hv
 have b1 := jo hv'.1.1
 have b2 := jo hv'.1.2
 have b3 := jo hv'.2
 have HV := hide hv
 clear hv hv'
 by_cases he : ax = bx ∧ ay = b_y
 · rw [if_pos he] at hR
   subst hR
   obtain ⟨rfl, rfl⟩ := he
   go_enter Tryz.func93, Tryz.ntmps93
   go_wp2_with fail
   refine (vE ax ay ax ay px py _ _ _ (kv _ _ _ (by simp))).mono ?_
   rintro e w1 ⟨rfl, hb⟩
   rw [HV.out]
   have k_0 := qa hb (b := w.heap.size) (o := 0) (v := .int .i64 ax) (by simp [go_sem])
   have k_1 := qa hb (b := w.heap.size) (o := 1) (v := .int .i64 ay) (by simp [go_sem])
   have k_2 := qa hb (b := w.heap.size + 1) (o := 0) (v := .int .i64 ax) (by simp [go_sem])
   have k_3 := qa hb (b := w.heap.size + 1) (o := 1) (v := .int .i64 ay) (by simp [go_sem])
   have k_4 := qa hb (b := w.heap.size + 1 + 1) (o := 0) (v := .int .i64 px) (by simp [go_sem])
   have k_5 := qa hb (b := w.heap.size + 1 + 1) (o := 1) (v := .int .i64 py) (by simp [go_sem])
   have m_0 := qw hb (a := ⟨w.heap.size + 1 + 1 + 1, 0, none⟩) (ja (v := .int .i64 0) (by simp [go_sem]) (by simp [go_sem]))
   have m_1 := qw hb (a := ⟨w.heap.size + 1 + 1 + 1, 1, none⟩) (ja (v := .int .i64 0) (by simp [go_sem]) (by simp [go_sem]))
   obtain ⟨m_0a, m_0b⟩ := m_0
   obtain ⟨m_1a, m_1b⟩ := m_1
   go_wp2_with fail
   exact bodyPost_ret (v := .tuple #[.agg #[.int .i64 0, .int .i64 0], .int .i64 10]) (by simp [results, Tryz.results93, go_sem, *]) rfl ⟨rfl, by (repeat (with_reducible (first | assumption | exact Below.refl _ _ | refine Below.drew ?_ | refine below_drewN ?_ _ | refine qj ?_ (by simp; try omega) _ | refine qe ?_ (Nat.le_refl _) _ | refine qi (by assumption) ?_)))⟩
 rw [if_neg he] at hR
 unfold jv at hR
 have HR := hide hR
 clear hR
 have d1 := (VA (a := bx - ax) (b := b_y - ay) (c := px - ax) (d := py - ay) (by omega) (by omega) (by omega) (by omega) (by omega) (by omega) (by omega) (by omega)).1
 have d2 := (VA (a := bx - ax) (b := b_y - ay) (c := bx - ax) (d := b_y - ay) (by omega) (by omega) (by omega) (by omega) (by omega) (by omega) (by omega) (by omega)).1
 have i1 : qH ax := by unfold qH; omega
 have i2 : qH ay := by unfold qH; omega
 have i3 : qH (bx - ax) := by unfold qH; omega
 have i4 : qH (b_y - ay) := by unfold qH; omega
 have T : ((ax == bx) = true ∧ (ay == b_y) = false) ∨ (ax == bx) = false := by
  by_cases hx0 : ax = bx
  · left; simp [hx0]; intro hy0; exact he ⟨hx0, hy0⟩
  · right; simp [hx0]
 clear he
 rcases T with ⟨t1, t2⟩ | t1
 all_goals
  go_enter Tryz.func93, Tryz.ntmps93
  go_wp2_with fail
  refine (vE ax ay bx b_y px py _ _ _ (kv _ _ _ (by simp))).mono ?_
  rintro e w1 ⟨rfl, hb⟩
  rw [HV.out]
  have k_0 := qa hb (b := w.heap.size) (o := 0) (v := .int .i64 ax) (by simp [go_sem])
  have k_1 := qa hb (b := w.heap.size) (o := 1) (v := .int .i64 ay) (by simp [go_sem])
  have k_2 := qa hb (b := w.heap.size + 1) (o := 0) (v := .int .i64 bx) (by simp [go_sem])
  have k_3 := qa hb (b := w.heap.size + 1) (o := 1) (v := .int .i64 b_y) (by simp [go_sem])
  have k_4 := qa hb (b := w.heap.size + 1 + 1) (o := 0) (v := .int .i64 px) (by simp [go_sem])
  have k_5 := qa hb (b := w.heap.size + 1 + 1) (o := 1) (v := .int .i64 py) (by simp [go_sem])
  have m_0 := qw hb (a := ⟨w.heap.size + 1 + 1 + 1, 0, none⟩) (ja (v := .int .i64 0) (by simp [go_sem]) (by simp [go_sem]))
  have m_1 := qw hb (a := ⟨w.heap.size + 1 + 1 + 1, 1, none⟩) (ja (v := .int .i64 0) (by simp [go_sem]) (by simp [go_sem]))
  obtain ⟨m_0a, m_0b⟩ := m_0
  obtain ⟨m_1a, m_1b⟩ := m_1
  have hz := hb.size
  simp at hz
  have hz1 : w.heap.size + 1 + 1 + 1 < w1.heap.size := by omega
  have HB := hide hb
  go_wp2_with fail
  refine (tF _ _ _ _ (by omega) (by omega) (by omega) (by omega) _).mono ?_
  rintro e w2 ⟨rfl, hb2⟩
  have hz2 := hb2.size
  go_wp2_with fail
  go_region_held3 (fun w' => w'.cell? ⟨w.heap.size, 0, none⟩ = some (.int .i64 ax) ∧ w'.cell? ⟨w.heap.size, 1, none⟩ = some (.int .i64 ay) ∧ w'.cell? ⟨w.heap.size + 1, 0, none⟩ = some (.int .i64 bx) ∧ w'.cell? ⟨w.heap.size + 1, 1, none⟩ = some (.int .i64 b_y) ∧ w'.cell? ⟨w.heap.size + 1 + 1, 0, none⟩ = some (.int .i64 px) ∧ w'.cell? ⟨w.heap.size + 1 + 1, 1, none⟩ = some (.int .i64 py) ∧ w'.cell? ⟨w2.heap.size, 0, none⟩ = some (.int .i64 (bx - ax)) ∧ w'.cell? ⟨w2.heap.size, 1, none⟩ = some (.int .i64 (b_y - ay)) ∧ (w'.cell? ⟨w.heap.size + 1 + 1 + 1, 0, none⟩ = some (jr w' ⟨w.heap.size + 1 + 1 + 1, 0, none⟩) ∧ w'.frozen? ⟨w.heap.size + 1 + 1 + 1, 0, none⟩ = false) ∧ (w'.cell? ⟨w.heap.size + 1 + 1 + 1, 1, none⟩ = some (jr w' ⟨w.heap.size + 1 + 1 + 1, 1, none⟩) ∧ w'.frozen? ⟨w.heap.size + 1 + 1 + 1, 1, none⟩ = false)) ((go_split_ands; refine ⟨?_, ?_, ?_, ?_, ?_, ?_, ?_, ?_, ?_, ?_⟩; (· exact zMLineB0); (· exact zMLineB0); (· exact zMLineB0); (· exact zMLineB0); (· exact zMLineB0); (· exact zMLineB0); (· exact zMLineB0); (· exact zMLineB0); (· exact zMLineB1); (· exact zMLineB1)))
   (first | (go_at_call 20; (with_reducible refine (tF _ _ _ _ (by omega) (by omega) (by omega) (by omega) _).mono ?_); rintro e w' ⟨rfl, hb'⟩) | (go_at_call 66; (with_reducible refine (Gx _ _ _ _ (by omega) (by omega) (by omega) (by omega) (by omega) (by omega) (by omega) (by omega) _).mono ?_); rintro e w' ⟨rfl, hb'⟩) | (go_at_call 116; (with_reducible refine (av _ _ _ _ _ _ (by assumption) (by assumption) (by assumption) (by assumption) (by assumption) (by assumption) _ R HR.out).mono ?_); rintro e w' ⟨rfl, hb'⟩))
  all_goals
   rename_i hH
   clear hH
   obtain ⟨q0, q0'⟩ : w'.cell? ⟨w.heap.size + 1 + 1 + 1, 0, none⟩ = some (jr w' ⟨w.heap.size + 1 + 1 + 1, 0, none⟩) ∧ w'.frozen? ⟨w.heap.size + 1 + 1 + 1, 0, none⟩ = false := by (repeat (first | (with_reducible exact ⟨by assumption, by assumption⟩) | (with_reducible refine vh ?_) | (with_reducible refine yD ?_ _) | (with_reducible refine qw (by assumption) ?_) | ((with_reducible refine uw ?_ ?_); (· (simp; done)); (· rfl)) | (with_reducible refine jE ?_ _) | (with_reducible refine vZ ?_ _ _)))
   obtain ⟨q1, q1'⟩ : w'.cell? ⟨w.heap.size + 1 + 1 + 1, 1, none⟩ = some (jr w' ⟨w.heap.size + 1 + 1 + 1, 1, none⟩) ∧ w'.frozen? ⟨w.heap.size + 1 + 1 + 1, 1, none⟩ = false := by (repeat (first | (with_reducible exact ⟨by assumption, by assumption⟩) | (with_reducible refine vh ?_) | (with_reducible refine yD ?_ _) | (with_reducible refine qw (by assumption) ?_) | ((with_reducible refine uw ?_ ?_); (· (simp; done)); (· rfl)) | (with_reducible refine jE ?_ _) | (with_reducible refine vZ ?_ _ _)))
   go_wp2_with fail
   exact bodyPost_ret (v := .tuple #[.agg #[.int .i64 R.1, .int .i64 R.2.1], .int .i64 R.2.2]) (by simp [results, Tryz.results93, go_sem, *]) rfl ⟨rfl, by (repeat (with_reducible (first | assumption | exact Below.refl _ _ | refine Below.drew ?_ | refine below_drewN ?_ _ | refine qj ?_ (by simp; try omega) _ | refine qe ?_ (Nat.le_refl _) _ | refine qi (by assumption) ?_)))⟩
set_option maxHeartbeats 2000000 in
theorem xY (ax ay bx b_y cx cy dx dy : Int) (w : World) (R : Int × Int × Int) (hR : R = Yg ax ay bx b_y cx cy dx dy) :
 Calls Tryz.prog 95 #[.agg #[.int .i64 ax, .int .i64 ay], .agg #[.int .i64 bx, .int .i64 b_y], .agg #[.int .i64 cx, .int .i64 cy], .agg #[.int .i64 dx, .int .i64 dy]] w fun e w' => e = .returned (.tuple #[.agg #[.int .i64 R.1, .int .i64 R.2.1], .int .i64 R.2.2]) ∧ Below w.heap.size w w' := by
 unfold Yg at hR
 rcases hv : (qf ax ay && qf bx b_y && qf cx cy && qf dx dy) with _ | _
 · rw [hv, if_pos (by simp)] at hR
   subst hR
   have HV := hide hv
   clear hv
   go_enter Tryz.func95, Tryz.ntmps95
   go_wp2_with fail
   refine (Vq ax ay bx b_y cx cy dx dy _ _ _ (kv _ _ _ (by simp))).mono ?_
   rintro e w1 ⟨rfl, hb⟩
   rw [HV.out]
   have k_0 := qa hb (b := w.heap.size) (o := 0) (v := .int .i64 ax) (by simp [go_sem])
   have k_1 := qa hb (b := w.heap.size) (o := 1) (v := .int .i64 ay) (by simp [go_sem])
   have k_2 := qa hb (b := w.heap.size + 1) (o := 0) (v := .int .i64 bx) (by simp [go_sem])
   have k_3 := qa hb (b := w.heap.size + 1) (o := 1) (v := .int .i64 b_y) (by simp [go_sem])
   have k_4 := qa hb (b := w.heap.size + 1 + 1) (o := 0) (v := .int .i64 cx) (by simp [go_sem])
   have k_5 := qa hb (b := w.heap.size + 1 + 1) (o := 1) (v := .int .i64 cy) (by simp [go_sem])
   have k_6 := qa hb (b := w.heap.size + 1 + 1 + 1) (o := 0) (v := .int .i64 dx) (by simp [go_sem])
   have k_7 := qa hb (b := w.heap.size + 1 + 1 + 1) (o := 1) (v := .int .i64 dy) (by simp [go_sem])
   have m_0 := qw hb (a := ⟨w.heap.size + 1 + 1 + 1 + 1, 0, none⟩) (ja (v := .int .i64 0) (by simp [go_sem]) (by simp [go_sem]))
   have m_1 := qw hb (a := ⟨w.heap.size + 1 + 1 + 1 + 1, 1, none⟩) (ja (v := .int .i64 0) (by simp [go_sem]) (by simp [go_sem]))
   obtain ⟨m_0a, m_0b⟩ := m_0
   obtain ⟨m_1a, m_1b⟩ := m_1
   go_wp2_with fail
   exact bodyPost_ret (v := .tuple #[.agg #[.int .i64 0, .int .i64 0], .int .i64 1]) (by simp [results, Tryz.results95, go_sem, *]) rfl ⟨rfl, by (repeat (with_reducible (first | assumption | exact Below.refl _ _ | refine Below.drew ?_ | refine below_drewN ?_ _ | refine qj ?_ (by simp; try omega) _ | refine qe ?_ (Nat.le_refl _) _ | refine qi (by assumption) ?_)))⟩
 rw [hv, if_neg (by simp)] at hR
 have hv' : ((qf ax ay = true ∧ qf bx b_y = true) ∧ qf cx cy = true) ∧ qf dx dy = true := by simpa using hv
 have b1 := jo hv'.1.1.1
 have b2 := jo hv'.1.1.2
 have b3 := jo hv'.1.2
 have b4 := jo hv'.2
 have HV := hide hv
 clear hv hv'
 have d1 := (VA (a := bx - ax) (b := b_y - ay) (c := dx - cx) (d := dy - cy) (by omega) (by omega) (by omega) (by omega) (by omega) (by omega) (by omega) (by omega)).2
 have d2 := (VA (a := cx - ax) (b := cy - ay) (c := dx - cx) (d := dy - cy) (by omega) (by omega) (by omega) (by omega) (by omega) (by omega) (by omega) (by omega)).2
 have i1 : qH ax := by unfold qH; omega
 have i2 : qH ay := by unfold qH; omega
 have i3 : qH (bx - ax) := by unfold qH; omega
 have i4 : qH (b_y - ay) := by unfold qH; omega
 have HR := hide hR
 clear hR
 go_enter Tryz.func95, Tryz.ntmps95
 go_wp2_with fail
 refine (Vq ax ay bx b_y cx cy dx dy _ _ _ (kv _ _ _ (by simp))).mono ?_
 rintro e w1 ⟨rfl, hb⟩
 rw [HV.out]
 have k_0 := qa hb (b := w.heap.size) (o := 0) (v := .int .i64 ax) (by simp [go_sem])
 have k_1 := qa hb (b := w.heap.size) (o := 1) (v := .int .i64 ay) (by simp [go_sem])
 have k_2 := qa hb (b := w.heap.size + 1) (o := 0) (v := .int .i64 bx) (by simp [go_sem])
 have k_3 := qa hb (b := w.heap.size + 1) (o := 1) (v := .int .i64 b_y) (by simp [go_sem])
 have k_4 := qa hb (b := w.heap.size + 1 + 1) (o := 0) (v := .int .i64 cx) (by simp [go_sem])
 have k_5 := qa hb (b := w.heap.size + 1 + 1) (o := 1) (v := .int .i64 cy) (by simp [go_sem])
 have k_6 := qa hb (b := w.heap.size + 1 + 1 + 1) (o := 0) (v := .int .i64 dx) (by simp [go_sem])
 have k_7 := qa hb (b := w.heap.size + 1 + 1 + 1) (o := 1) (v := .int .i64 dy) (by simp [go_sem])
 have m_0 := qw hb (a := ⟨w.heap.size + 1 + 1 + 1 + 1, 0, none⟩) (ja (v := .int .i64 0) (by simp [go_sem]) (by simp [go_sem]))
 have m_1 := qw hb (a := ⟨w.heap.size + 1 + 1 + 1 + 1, 1, none⟩) (ja (v := .int .i64 0) (by simp [go_sem]) (by simp [go_sem]))
 obtain ⟨m_0a, m_0b⟩ := m_0
 obtain ⟨m_1a, m_1b⟩ := m_1
 have hz := hb.size
 simp at hz
 have hz1 : w.heap.size + 1 + 1 + 1 + 1 < w1.heap.size := by omega
 go_wp2_with fail
 go_cut [10, 11] (fun s10 s11 wx => ∃ g h : Nat, s10 = .pointer (some ⟨g, 0, none⟩) ∧ s11 = .pointer (some ⟨h, 0, none⟩) ∧ (wx.cell? ⟨g, 0, none⟩ = some (.int .i64 (bx - ax)) ∧ wx.cell? ⟨g, 1, none⟩ = some (.int .i64 (b_y - ay)) ∧ wx.cell? ⟨h, 0, none⟩ = some (.int .i64 (dx - cx)) ∧ wx.cell? ⟨h, 1, none⟩ = some (.int .i64 (dy - cy))) ∧ (w1.heap.size ≤ g ∧ w1.heap.size ≤ h) ∧ Below w1.heap.size w1 wx)
 case first =>
  go_region_held3 (fun w' => w'.cell? ⟨w.heap.size, 0, none⟩ = some (.int .i64 ax) ∧ w'.cell? ⟨w.heap.size, 1, none⟩ = some (.int .i64 ay) ∧ w'.cell? ⟨w.heap.size + 1, 0, none⟩ = some (.int .i64 bx) ∧ w'.cell? ⟨w.heap.size + 1, 1, none⟩ = some (.int .i64 b_y) ∧ w'.cell? ⟨w.heap.size + 1 + 1, 0, none⟩ = some (.int .i64 cx) ∧ w'.cell? ⟨w.heap.size + 1 + 1, 1, none⟩ = some (.int .i64 cy) ∧ w'.cell? ⟨w.heap.size + 1 + 1 + 1, 0, none⟩ = some (.int .i64 dx) ∧ w'.cell? ⟨w.heap.size + 1 + 1 + 1, 1, none⟩ = some (.int .i64 dy)) ((go_split_ands; refine ⟨?_, ?_, ?_, ?_, ?_, ?_, ?_, ?_⟩ <;> (repeat (first | (with_reducible assumption) | (with_reducible refine qC ?_) | (with_reducible refine qu ?_ _) | (with_reducible refine qa (by assumption) ?_) | ((with_reducible refine qG ?_ ?_); (· (simp; done)); (· rfl)) | (with_reducible refine qt ?_ _) | ((with_reducible refine qK ?_ ?_ _); (· first | (simp; done) | (simp; omega) | omega))))))
   (first | (go_at_call 20; (with_reducible refine (Zb _ _ _ _ (by omega) (by omega) (by omega) (by omega) _).mono ?_); rintro e w' ⟨rfl, rfl⟩))
  all_goals
   go_wp2_with fail
   go_meet
   refine ⟨_, _, rfl, rfl, ?_, ?_, ?_⟩
   · simp [go_sem]
   · constructor <;> (first | omega | (simp; omega))
   · (repeat (with_reducible (first | assumption | exact Below.refl _ _ | refine Below.drew ?_ | refine below_drewN ?_ _ | refine qj ?_ (by simp; try omega) _ | refine qe ?_ (Nat.le_refl _) _ | refine qi (by assumption) ?_)))
 case rest =>
  obtain ⟨g, h, rfl, rfl, ⟨c1, c2, c3, c4⟩, ⟨hg, hh⟩, hbc⟩ := hcut
  have hz2 := hbc.size
  have hR := HR.out
  by_cases h0 : (bx - ax) * (dy - cy) - (b_y - ay) * (dx - cx) = 0
  · rw [if_pos h0] at hR
    subst hR
    have T : ((bx - ax) * (dy - cy) - (b_y - ay) * (dx - cx) == 0) = true := by rw [h0]; rfl
    have H0 := hide h0
    clear h0
    go_wp2_with fail
    refine (YC _ _ _ _ (by omega) (by omega) (by omega) (by omega) (by omega) (by omega) (by omega) (by omega) _).mono ?_
    rintro e w3 ⟨rfl, hb3⟩
    obtain ⟨q0, q0'⟩ := qw hb3 (qw hbc ⟨m_0a, m_0b⟩)
    obtain ⟨q1, q1'⟩ := qw hb3 (qw hbc ⟨m_1a, m_1b⟩)
    go_wp2_with fail
    exact bodyPost_ret (v := .tuple #[.agg #[.int .i64 0, .int .i64 0], .int .i64 10]) (by simp [results, Tryz.results95, go_sem, *]) rfl ⟨rfl, by (repeat (with_reducible (first | assumption | exact Below.refl _ _ | refine Below.drew ?_ | refine below_drewN ?_ _ | refine qj ?_ (by simp; try omega) _ | refine qe ?_ (Nat.le_refl _) _ | refine qi (by assumption) ?_)))⟩
  · rw [if_neg h0] at hR
    have T : ((bx - ax) * (dy - cy) - (b_y - ay) * (dx - cx) == 0) = false := by simpa using h0
    clear h0 HR
    have HR := hide hR
    clear hR
    go_wp2_with fail
    refine (YC _ _ _ _ (by omega) (by omega) (by omega) (by omega) (by omega) (by omega) (by omega) (by omega) _).mono ?_
    rintro e w3 ⟨rfl, hb3⟩
    have hz3 := hb3.size
    obtain ⟨q0, q0'⟩ := qw hb3 (qw hbc ⟨m_0a, m_0b⟩)
    obtain ⟨q1, q1'⟩ := qw hb3 (qw hbc ⟨m_1a, m_1b⟩)
    have e0 := qa hb3 (qa hbc k_0)
    have e1 := qa hb3 (qa hbc k_1)
    have e4 := qa hb3 (qa hbc k_4)
    have e5 := qa hb3 (qa hbc k_5)
    have e11 := qa hb3 c1
    have e12 := qa hb3 c2
    have e13 := qa hb3 c3
    have e14 := qa hb3 c4
    go_wp2_with fail
    go_region_held3 (fun w' => w'.cell? ⟨w.heap.size, 0, none⟩ = some (.int .i64 ax) ∧ w'.cell? ⟨w.heap.size, 1, none⟩ = some (.int .i64 ay) ∧ w'.cell? ⟨w.heap.size + 1 + 1, 0, none⟩ = some (.int .i64 cx) ∧ w'.cell? ⟨w.heap.size + 1 + 1, 1, none⟩ = some (.int .i64 cy) ∧ w'.cell? ⟨g, 0, none⟩ = some (.int .i64 (bx - ax)) ∧ w'.cell? ⟨g, 1, none⟩ = some (.int .i64 (b_y - ay)) ∧ w'.cell? ⟨h, 0, none⟩ = some (.int .i64 (dx - cx)) ∧ w'.cell? ⟨h, 1, none⟩ = some (.int .i64 (dy - cy)) ∧ (w'.cell? ⟨w.heap.size + 1 + 1 + 1 + 1, 0, none⟩ = some (jr w' ⟨w.heap.size + 1 + 1 + 1 + 1, 0, none⟩) ∧ w'.frozen? ⟨w.heap.size + 1 + 1 + 1 + 1, 0, none⟩ = false) ∧ (w'.cell? ⟨w.heap.size + 1 + 1 + 1 + 1, 1, none⟩ = some (jr w' ⟨w.heap.size + 1 + 1 + 1 + 1, 1, none⟩) ∧ w'.frozen? ⟨w.heap.size + 1 + 1 + 1 + 1, 1, none⟩ = false)) ((go_split_ands; refine ⟨?_, ?_, ?_, ?_, ?_, ?_, ?_, ?_, ?_, ?_⟩; (· exact zMLineB0); (· exact zMLineB0); (· exact zMLineB0); (· exact zMLineB0); (· exact zMLineB0); (· exact zMLineB0); (· exact zMLineB0); (· exact zMLineB0); (· exact zMLineB1); (· exact zMLineB1)))
     (first | (go_at_call 20; (with_reducible refine (tF _ _ _ _ (by omega) (by omega) (by omega) (by omega) _).mono ?_); rintro e w' ⟨rfl, hb'⟩) | (go_at_call 115; (with_reducible refine (YC _ _ _ _ (by omega) (by omega) (by omega) (by omega) (by omega) (by omega) (by omega) (by omega) _).mono ?_); rintro e w' ⟨rfl, hb'⟩) | (go_at_call 116; (with_reducible refine (av _ _ _ _ _ _ (by assumption) (by assumption) (by assumption) (by assumption) (by assumption) (by assumption) _ R HR.out).mono ?_); rintro e w' ⟨rfl, hb'⟩))
    all_goals
     rename_i hH
     clear hH
     obtain ⟨q0, q0'⟩ : w'.cell? ⟨w.heap.size + 1 + 1 + 1 + 1, 0, none⟩ = some (jr w' ⟨w.heap.size + 1 + 1 + 1 + 1, 0, none⟩) ∧ w'.frozen? ⟨w.heap.size + 1 + 1 + 1 + 1, 0, none⟩ = false := by (repeat (first | (with_reducible exact ⟨by assumption, by assumption⟩) | (with_reducible refine vh ?_) | (with_reducible refine yD ?_ _) | (with_reducible refine qw (by assumption) ?_) | ((with_reducible refine uw ?_ ?_); (· (simp; done)); (· rfl)) | (with_reducible refine jE ?_ _) | (with_reducible refine vZ ?_ _ _)))
     obtain ⟨q1, q1'⟩ : w'.cell? ⟨w.heap.size + 1 + 1 + 1 + 1, 1, none⟩ = some (jr w' ⟨w.heap.size + 1 + 1 + 1 + 1, 1, none⟩) ∧ w'.frozen? ⟨w.heap.size + 1 + 1 + 1 + 1, 1, none⟩ = false := by (repeat (first | (with_reducible exact ⟨by assumption, by assumption⟩) | (with_reducible refine vh ?_) | (with_reducible refine yD ?_ _) | (with_reducible refine qw (by assumption) ?_) | ((with_reducible refine uw ?_ ?_); (· (simp; done)); (· rfl)) | (with_reducible refine jE ?_ _) | (with_reducible refine vZ ?_ _ _)))
     go_wp2_with fail
     exact bodyPost_ret (v := .tuple #[.agg #[.int .i64 R.1, .int .i64 R.2.1], .int .i64 R.2.2]) (by simp [results, Tryz.results95, go_sem, *]) rfl ⟨rfl, by (repeat (with_reducible (first | assumption | exact Below.refl _ _ | refine Below.drew ?_ | refine below_drewN ?_ _ | refine qj ?_ (by simp; try omega) _ | refine qe ?_ (Nat.le_refl _) _ | refine qi (by assumption) ?_)))⟩
end Go.Proofs.YteanfgobpjdmnaaGreatDoor
