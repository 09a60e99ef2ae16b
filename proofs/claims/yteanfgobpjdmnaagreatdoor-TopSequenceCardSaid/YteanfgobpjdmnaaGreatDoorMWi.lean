/-
  MWi
-/
import Derived.Test.YteanfgobpjdmnaaGreatDoorMLineA
import Derived.Deep.DeepCutAuto
namespace Go.Proofs.YteanfgobpjdmnaaGreatDoor
open Go.RowKit
set_option linter.unusedVariables false
set_option linter.unusedSimpArgs false
theorem zMWi0 {P : Prop} (h : P := by repeat (first | (with_reducible assumption) | (with_reducible refine qC ?_) | (with_reducible refine qu ?_ _) | (with_reducible refine qa (by assumption) ?_) | ((with_reducible refine qG ?_ ?_); (· (simp; done)); (· rfl)) | (with_reducible refine qt ?_ _) | ((with_reducible refine qK ?_ ?_ _); (· first | (simp; done) | (simp; omega) | omega)))) : P := h
theorem Ry {x : Int} (h1 : -9223372036854775808 ≤ x) (h2 : x ≤ 9223372036854775807) : IntKind.i64.wrap x = x := IntWalk.i64_in _ (by omega)
set_option maxRecDepth 100000
set_option maxHeartbeats 16000000
theorem UK {cx cy r f s : Int} (h : yX cx cy r f s = true) : qf cx cy = true ∧ (1 ≤ r ∧ r ≤ 8000000) ∧ (0 ≤ f ∧ f < 129600000) ∧ -129600000 ≤ s ∧ s ≤ 129600000 := by
 have := (vF _ _ _ _ _).1 h
 exact ⟨this.1, ⟨this.2.1, this.2.2.1⟩, ⟨this.2.2.2.1, this.2.2.2.2.1⟩, this.2.2.2.2.2⟩
theorem DG {r a : Int} (h1 : 1 ≤ r) (h2 : r ≤ 8000000) (h3 : 0 ≤ a) (h4 : a ≤ 129600000) : (0 ≤ r * a ∧ r * a ≤ 1036800000000000) ∧ qM 2 (r * a) 1 20626481 = (jG 2 (r * a) 20626481, 0) ∧ (0 ≤ jG 2 (r * a) 20626481 ∧ jG 2 (r * a) 20626481 ≤ 60000000) := by
 have e1 : 0 ≤ r * a := Int.mul_nonneg (by omega) h3
 have e2 : r * a ≤ 8000000 * 129600000 := Int.mul_le_mul h2 h4 h3 (by omega)
 have b : 0 ≤ jG 2 (r * a) 20626481 ∧ jG 2 (r * a) 20626481 ≤ 60000000 := by rw [JK]; omega
 refine ⟨by omega, ?_, b⟩
 unfold qM
 rw [if_neg (by omega), Int.mul_one, if_pos]
 unfold Zj
 generalize jG 2 (r * a) 20626481 = q at *
 exact decide_eq_true (by omega)
theorem xw (cx cy r f s : Int) (w : World) :
 Calls Tryz.prog 42 #[.agg #[.int .i64 cx, .int .i64 cy, .int .i64 r, .int .i64 f, .int .i64 s]] w fun e w' => e = .returned (.bool (yX cx cy r f s)) ∧ Below w.heap.size w w' := by
 rcases hv : qf cx cy with _ | _
 all_goals
  have HV := hide hv
  clear hv
  go_enter Tryz.func42, Tryz.ntmps42
  go_wp2_with (go_at_call 16; refine (kH _ _ _ HV.out _).mono ?_; rintro e w' ⟨rfl, rfl⟩)
 · go_ret
   exact ⟨yH (by unfold yX; rw [HV.out]; rfl), by (repeat (with_reducible (first | assumption | exact Below.refl _ _ | refine Below.drew ?_ | refine below_drewN ?_ _ | refine qj ?_ (by simp; try omega) _ | refine qe ?_ (Nat.le_refl _) _ | refine qi (by assumption) ?_)))⟩
 all_goals
  go_ret
  exact ⟨yH (by unfold yX; rw [HV.out, Bool.eq_iff_iff]; simp; try omega), by (repeat (with_reducible (first | assumption | exact Below.refl _ _ | refine Below.drew ?_ | refine below_drewN ?_ _ | refine qj ?_ (by simp; try omega) _ | refine qe ?_ (Nat.le_refl _) _ | refine qi (by assumption) ?_)))⟩
theorem JV (cx cy r f s x : Int) (h : -9000000000000000000 ≤ x) (h2 : x ≤ 9000000000000000000) (w : World) :
 Calls Tryz.prog 107 #[.agg #[.int .i64 cx, .int .i64 cy, .int .i64 r, .int .i64 f, .int .i64 s], .int .i64 x] w fun e w' => e = .returned (.int .i64 (zr s x)) ∧ Below w.heap.size w w' := by
 go_enter Tryz.func107, Tryz.ntmps107
 go_wp2
 all_goals
  go_ret
  exact ⟨qL (by unfold zr; split <;> omega), by (repeat (with_reducible (first | assumption | exact Below.refl _ _ | refine Below.drew ?_ | refine below_drewN ?_ _ | refine qj ?_ (by simp; try omega) _ | refine qe ?_ (Nat.le_refl _) _ | refine qi (by assumption) ?_)))⟩
theorem bR (cx cy r f s : Int) (w : World) :
 Calls Tryz.prog 33 #[.agg #[.int .i64 cx, .int .i64 cy, .int .i64 r, .int .i64 f, .int .i64 s]] w fun e w' => e = .returned (.int .i64 (qA cx cy r f s)) ∧ Below w.heap.size w w' := by
 rcases hB : yX cx cy r f s with _ | _
 · have HR : Hid (qA cx cy r f s = 0) := hide (by unfold qA; rw [hB]; rfl)
   have HB := hide hB
   clear hB
   generalize qA cx cy r f s = R at *
   obtain rfl : R = 0 := HR.out
   go_enter Tryz.func33, Tryz.ntmps33
   go_wp2_with fail
   refine (xw cx cy r f s _).mono ?_
   rintro e w1 ⟨rfl, hb1⟩
   rw [HB.out]
   have f1 := qa hb1 (b := w.heap.size) (o := 0) (v := .int .i64 cx) zMWi0
   have zf1 : w.heap.size < w1.heap.size := World.block_lt_of_cell? _ _ f1
   have f2 := qa hb1 (b := w.heap.size) (o := 1) (v := .int .i64 cy) zMWi0
   have f3 := qa hb1 (b := w.heap.size) (o := 2) (v := .int .i64 r) zMWi0
   have f4 := qa hb1 (b := w.heap.size) (o := 3) (v := .int .i64 f) zMWi0
   have f5 := qa hb1 (b := w.heap.size) (o := 4) (v := .int .i64 s) zMWi0
   go_wp2_with fail
   go_ret
   exact ⟨rfl, by (repeat (with_reducible (first | assumption | exact Below.refl _ _ | refine Below.drew ?_ | refine below_drewN ?_ _ | refine qj ?_ (by simp; try omega) _ | refine qe ?_ (Nat.le_refl _) _ | refine qi (by assumption) ?_)))⟩
 · have HR := hide (uh hB)
   have HB := hide hB
   obtain ⟨_, ⟨b1, b2⟩, _, b3, b4⟩ := UK hB
   have L := DG (a := (s.natAbs : Int)) b1 b2 (by omega) (by omega)
   have AB := fun W => kr s (by unfold qH; omega) (by omega) W
   have RD := fun W => QG (r * s.natAbs) 20626481 (by unfold qH; omega) (by unfold qH; omega) W
   rw [L.2.1] at RD
   have wn := Ry (x := r * s.natAbs) (by omega) (by omega)
   clear hB
   generalize qA cx cy r f s = R at *
   generalize (s.natAbs : Int) = a at *
   obtain ⟨⟨l1, l2⟩, _, l3, l4⟩ := L
   generalize jG 2 (r * a) 20626481 = q at *
   obtain rfl : R = q := HR.out
   go_enter Tryz.func33, Tryz.ntmps33
   go_wp2_with fail
   refine (xw cx cy r f s _).mono ?_
   rintro e w1 ⟨rfl, hb1⟩
   rw [HB.out]
   have f1 := qa hb1 (b := w.heap.size) (o := 0) (v := .int .i64 cx) zMWi0
   have zf1 : w.heap.size < w1.heap.size := World.block_lt_of_cell? _ _ f1
   have f2 := qa hb1 (b := w.heap.size) (o := 1) (v := .int .i64 cy) zMWi0
   have f3 := qa hb1 (b := w.heap.size) (o := 2) (v := .int .i64 r) zMWi0
   have f4 := qa hb1 (b := w.heap.size) (o := 3) (v := .int .i64 f) zMWi0
   have f5 := qa hb1 (b := w.heap.size) (o := 4) (v := .int .i64 s) zMWi0
   go_wp2_with fail
   go_region_held3 (fun w' => w'.cell? ⟨w.heap.size, 0, none⟩ = some (.int .i64 cx) ∧ w'.cell? ⟨w.heap.size, 1, none⟩ = some (.int .i64 cy) ∧ w'.cell? ⟨w.heap.size, 2, none⟩ = some (.int .i64 r) ∧ w'.cell? ⟨w.heap.size, 3, none⟩ = some (.int .i64 f) ∧ w'.cell? ⟨w.heap.size, 4, none⟩ = some (.int .i64 s)) ((go_split_ands; refine ⟨?_, ?_, ?_, ?_, ?_⟩ <;> (repeat (first | (with_reducible assumption) | (with_reducible refine qC ?_) | (with_reducible refine qu ?_ _) | (with_reducible refine qa (by assumption) ?_) | ((with_reducible refine qG ?_ ?_); (· (simp; done)); (· rfl)) | (with_reducible refine qt ?_ _) | ((with_reducible refine qK ?_ ?_ _); (· first | (simp; done) | (simp; omega) | omega))))))
    (first | (go_at_call 44; (with_reducible refine (AB _).mono ?_); rintro e w' ⟨rfl, rfl⟩) | (go_at_call 67; (with_reducible refine (RD _).mono ?_); rintro e w' ⟨rfl, n, rfl⟩))
   all_goals
    go_wp2_with fail
    go_ret
    exact ⟨rfl, by (repeat (with_reducible (first | assumption | exact Below.refl _ _ | refine Below.drew ?_ | refine below_drewN ?_ _ | refine qj ?_ (by simp; try omega) _ | refine qe ?_ (Nat.le_refl _) _ | refine qi (by assumption) ?_)))⟩
theorem DH {v b : Int} (h : ¬ (1 ≤ v ∧ v ≤ 1000 ∧ 1 ≤ b ∧ b ≤ 3000)) : bC v b = (0, 2) ∧ Nh v b = (0, 2) := by unfold bC Nh; rw [if_neg h, if_neg h]; exact ⟨rfl, rfl⟩
theorem PN {v b X E : Int} (h : 1 ≤ v ∧ v ≤ 1000 ∧ 1 ≤ b ∧ b ≤ 3000) (hm : qM 1 (v * v * 87431) (qX (b * 3600)) (1000000 * qV (b * 3600)) = (X, E)) : bC v b = if E = 0 ∧ X ≤ 8000000 then (X, 0) else (0, 2) := by unfold bC; rw [if_pos h, hm]
theorem Fu {v : Int} (h1 : 1 ≤ v) (h2 : v ≤ 1000) : 1 ≤ v * v ∧ v * v ≤ 1000000 := by
 have a : 1 * 1 ≤ v * v := Int.mul_le_mul h1 h1 (by omega) (by omega)
 have b : v * v ≤ 1000 * 1000 := Int.mul_le_mul h2 h2 (by omega) (by omega)
 omega
theorem PP {v c : Int} (h1 : 1 ≤ v) (h2 : v ≤ 1000) (h3 : -1073741824 ≤ c) (h4 : c ≤ 1073741824) : -93878321611341824 ≤ 87431 * v * c ∧ 87431 * v * c ≤ 93878321611341824 := by
 have := zj (x := 87431 * v) (X := 87431000) (v := c) (V := 1073741824) (by omega) ⟨h3, h4⟩
 omega
theorem UL (v b : Int) (w : World) :
 Calls Tryz.prog 27 #[.int .i64 v, .int .i64 b] w fun e w' => e = .returned (.bool (decide (1 ≤ v ∧ v ≤ 1000 ∧ 1 ≤ b ∧ b ≤ 3000))) ∧ w = w' := by
 go_enter Tryz.func27, Tryz.ntmps27
 go_wp2
 all_goals
  go_ret
  exact ⟨yH (by rw [Bool.eq_iff_iff]; simp; try omega), rfl⟩
theorem PQ (v b : Int) (w : World) :
 Calls Tryz.prog 10 #[.int .i64 v, .int .i64 b] w fun e w' => e = .returned (.tuple #[.int .i64 (bC v b).1, .int .i64 (bC v b).2]) ∧ Below w.heap.size w w' := by
 by_cases hin : 1 ≤ v ∧ v ≤ 1000 ∧ 1 ≤ b ∧ b ≤ 3000
 · have FL := fun W => UL v b W
   rw [decide_eq_true hin] at FL
   have sb := kJ (b * 3600)
   have cb := uj (b * 3600)
   have vv := Fu hin.1 hin.2.1
   have rb := PP hin.1 hin.2.1 cb.1 cb.2
   have SC := fun W => QJ (b * 3600) (by unfold qH; omega) W
   have CC := fun W => Jl (b * 3600) (by unfold qH; omega) W
   have MU := fun W => xq (v * v * 87431) (qX (b * 3600)) (1000000 * qV (b * 3600)) (by unfold qH; omega) (by unfold qH; omega) (by unfold qH; omega) W
   obtain ⟨m, hm⟩ : ∃ m, m = qM 1 (v * v * 87431) (qX (b * 3600)) (1000000 * qV (b * 3600)) := ⟨_, rfl⟩
   rw [← hm] at MU
   obtain ⟨X, E⟩ := m
   have HR := PN hin hm.symm
   obtain ⟨i1, i2, i3, i4⟩ := hin
   clear hm rb
   generalize bC v b = R at *
   generalize qV (b * 3600) = s at *
   generalize qX (b * 3600) = c at *
   by_cases h1 : E = 0
   · by_cases h2 : X ≤ 8000000
     · rw [if_pos ⟨h1, h2⟩] at HR
       subst h1 HR
       go_enter Tryz.func10, Tryz.ntmps10
       go_wp2_with (first | (go_at_call 27; refine (FL _).mono ?_; rintro e w' ⟨rfl, rfl⟩) | (go_at_call 28; refine (SC _).mono ?_; rintro e w' ⟨rfl, rfl⟩) | (go_at_call 29; refine (CC _).mono ?_; rintro e w' ⟨rfl, rfl⟩) | (go_at_call 30; refine (MU _).mono ?_; rintro e w' ⟨rfl, n, rfl⟩))
       go_ret2
       exact ⟨rfl, by (repeat (with_reducible (first | assumption | exact Below.refl _ _ | refine Below.drew ?_ | refine below_drewN ?_ _ | refine qj ?_ (by simp; try omega) _ | refine qe ?_ (Nat.le_refl _) _ | refine qi (by assumption) ?_)))⟩
     · rw [if_neg (fun h => h2 h.2)] at HR
       subst h1 HR
       go_enter Tryz.func10, Tryz.ntmps10
       go_wp2_with (first | (go_at_call 27; refine (FL _).mono ?_; rintro e w' ⟨rfl, rfl⟩) | (go_at_call 28; refine (SC _).mono ?_; rintro e w' ⟨rfl, rfl⟩) | (go_at_call 29; refine (CC _).mono ?_; rintro e w' ⟨rfl, rfl⟩) | (go_at_call 30; refine (MU _).mono ?_; rintro e w' ⟨rfl, n, rfl⟩))
       go_ret2
       exact ⟨rfl, by (repeat (with_reducible (first | assumption | exact Below.refl _ _ | refine Below.drew ?_ | refine below_drewN ?_ _ | refine qj ?_ (by simp; try omega) _ | refine qe ?_ (Nat.le_refl _) _ | refine qi (by assumption) ?_)))⟩
   · rw [if_neg (fun h => h1 h.1)] at HR
     subst HR
     have T : (E != 0) = true := by rw [bne_iff_ne]; exact h1
     clear h1
     go_enter Tryz.func10, Tryz.ntmps10
     go_wp2_with (first | (go_at_call 27; refine (FL _).mono ?_; rintro e w' ⟨rfl, rfl⟩) | (go_at_call 28; refine (SC _).mono ?_; rintro e w' ⟨rfl, rfl⟩) | (go_at_call 29; refine (CC _).mono ?_; rintro e w' ⟨rfl, rfl⟩) | (go_at_call 30; refine (MU _).mono ?_; rintro e w' ⟨rfl, n, rfl⟩))
     go_ret2
     exact ⟨rfl, by (repeat (with_reducible (first | assumption | exact Below.refl _ _ | refine Below.drew ?_ | refine below_drewN ?_ _ | refine qj ?_ (by simp; try omega) _ | refine qe ?_ (Nat.le_refl _) _ | refine qi (by assumption) ?_)))⟩
 · have FL := fun W => UL v b W
   rw [decide_eq_false hin] at FL
   rw [(DH hin).1]
   clear hin
   go_enter Tryz.func10, Tryz.ntmps10
   go_wp2_with (go_at_call 27; refine (FL _).mono ?_; rintro e w' ⟨rfl, rfl⟩)
   go_ret2
   exact ⟨rfl, Below.refl _ _⟩
theorem ld {cx cy r f s al : Int} (h : yX cx cy r f s = false) : qI cx cy r f s al = (0, 0, 0, 1) := by unfold qI; rw [h]; rfl
theorem fY {cx cy r f s al : Int} (h : yX cx cy r f s = true) (h2 : al < 0 ∨ al > qA cx cy r f s) : qI cx cy r f s al = (0, 0, 0, 2) := by unfold qI; rw [h, if_neg (by simp), if_pos h2]
theorem lf {cx cy r f s al X Y E : Int} (h : yX cx cy r f s = true) (h2 : ¬ (al < 0 ∨ al > qA cx cy r f s)) (hr : zi cx cy (jM f s (qA cx cy r f s) al) r = (X, Y, E)) :
 qI cx cy r f s al = if E = 0 then (X, Y, zg (jM f s (qA cx cy r f s) al) (zr s 32400000), 0) else (0, 0, 0, 2) := by unfold qI; rw [h, if_neg (by simp), if_neg h2, hr]
theorem dH {n s al : Int} (h0 : 0 < n) (h1 : 0 ≤ al) (h2 : al ≤ n) (h3 : n ≤ 60000000) (h4 : (s.natAbs : Int) ≤ 129600000) :
 qM 2 al s.natAbs n = (ba n s al, 0) ∧ 0 ≤ ba n s al ∧ ba n s al ≤ 129600000 := by
 have e : ba n s al = jG 2 (al * s.natAbs) n := by unfold ba; rw [if_pos h0]
 have p0 : 0 ≤ al * (s.natAbs : Int) := Int.mul_nonneg h1 (by omega)
 have p1 : al * (s.natAbs : Int) ≤ n * s.natAbs := Int.mul_le_mul_of_nonneg_right h2 (by omega)
 have b : 0 ≤ jG 2 (al * s.natAbs) n ∧ jG 2 (al * s.natAbs) n ≤ 129600000 := by
  unfold jG
  simp only [show (2 : Nat) ≠ 0 from by decide, show (2 : Nat) ≠ 1 from by decide, if_false]
  have f := ZW (2 * (al * s.natAbs) + n) (2 * n) (by omega)
  generalize (2 * (al * (s.natAbs : Int)) + n).fdiv (2 * n) = q at *
  constructor
  · apply Classical.byContradiction
    intro hq
    have : (q + 1) * (2 * n) ≤ 0 * (2 * n) := Int.mul_le_mul_of_nonneg_right (by omega) (by omega)
    have e2 : (q + 1) * (2 * n) = q * (2 * n) + 2 * n := by grind
    omega
  · apply Classical.byContradiction
    intro hq
    have h5 : ((s.natAbs : Int) + 1) * (2 * n) ≤ q * (2 * n) := Int.mul_le_mul_of_nonneg_right (by omega) (by omega)
    have e2 : ((s.natAbs : Int) + 1) * (2 * n) = 2 * (n * s.natAbs) + 2 * n := by grind
    omega
 rw [e]
 refine ⟨?_, b⟩
 unfold qM
 rw [if_neg (by omega), if_pos]
 unfold Zj
 generalize jG 2 (al * s.natAbs) n = q at *
 exact decide_eq_true (by omega)
end Go.Proofs.YteanfgobpjdmnaaGreatDoor
