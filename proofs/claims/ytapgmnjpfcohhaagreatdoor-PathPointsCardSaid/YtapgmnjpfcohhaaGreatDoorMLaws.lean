/-
  A point of an arc is found on it, at its length (chapter 12). No program.
-/
import Derived.Test.YtapgmnjpfcohhaaGreatDoorMPlain
import Derived.Test.YtapgmnjpfcohhaaGreatDoorMSeries
namespace Go.Proofs.YtapgmnjpfcohhaaGreatDoor
set_option linter.unusedVariables false

end Go.Proofs.YtapgmnjpfcohhaaGreatDoor

/-
  The ends of arcs around a center, and of fly-by turns (chapter 12). No program.
-/
namespace Go.Proofs.YtapgmnjpfcohhaaGreatDoor
set_option linter.unusedVariables false

/-! ### how fast they turn, at every angle -/
def Lip (a : Int) : Prop := (-84 ≤ Sin (a + 1) - Sin a ∧ Sin (a + 1) - Sin a ≤ 84) ∧ (-84 ≤ Cos (a + 1) - Cos a ∧ Cos (a + 1) - Cos a ≤ 84)
theorem Sin_lip_q {a : Int} (h : 0 ≤ a) (h2 : a < 32400000) : -84 ≤ Sin (a + 1) - Sin a ∧ Sin (a + 1) - Sin a ≤ 84 := by
  have hm := Sin_mono h (show a ≤ a + 1 by omega) (by omega)
  refine ⟨by omega, ?_⟩
  rw [Sin_q h (by omega), Sin_q (by omega) (by omega)]
  by_cases h3 : a < 16200000
  · have := (sine_rise h h3).1
    rw [qsin_lo (by omega), qsin_lo (by omega)]
    omega
  · have e1 := qsin_hi (x := 32400000 - a) (by omega) (by omega)
    have e2 := qsin_hi (x := 32400000 - (a + 1)) (by omega) (by omega)
    rw [show 32400000 - (32400000 - a) = a from by omega] at e1
    rw [show 32400000 - (32400000 - (a + 1)) = a + 1 from by omega] at e2
    rw [e1, e2]
    have := (sine_rise (a := 32400000 - (a + 1)) (by omega) (by omega)).2
    rw [show 32400000 - (a + 1) + 1 = 32400000 - a from by omega] at this
    exact this
theorem lip_q {a : Int} (h : 0 ≤ a) (h2 : a < 32400000) : Lip a := by
  refine ⟨Sin_lip_q h h2, ?_⟩
  have := Sin_lip_q (a := 32400000 - (a + 1)) (by omega) (by omega)
  rw [show 32400000 - (a + 1) + 1 = 32400000 - a from by omega, Sin_quarter_sub, Sin_quarter_sub] at this
  omega
theorem Lip.turn {a : Int} (h : Lip a) : Lip (a + 32400000) := by
  unfold Lip at *
  rw [show a + 32400000 + 1 = a + 1 + 32400000 from by omega, Sin_add_quarter, Sin_add_quarter, Cos_add_quarter, Cos_add_quarter]
  omega
theorem lip (a : Int) : Lip a := by
  have hb := norm_bd a
  have e : Lip (norm a) := by
    generalize norm a = n at *
    by_cases h1 : n < 32400000
    · exact lip_q hb.1 h1
    · by_cases h2 : n < 64800000
      · have := (lip_q (a := n - 32400000) (by omega) (by omega)).turn
        rwa [show n - 32400000 + 32400000 = n from by omega] at this
      · by_cases h3 : n < 97200000
        · have := (lip_q (a := n - 64800000) (by omega) (by omega)).turn.turn
          rwa [show n - 64800000 + 32400000 + 32400000 = n from by omega] at this
        · have := (lip_q (a := n - 97200000) (by omega) (by omega)).turn.turn.turn
          rwa [show n - 97200000 + 32400000 + 32400000 + 32400000 = n from by omega] at this
  unfold Lip at *
  rw [Sin_norm (norm a + 1) (a + 1) (by unfold norm; omega), Cos_norm (norm a + 1) (a + 1) (by unfold norm; omega), Sin_normed, Cos_normed] at e
  exact e
theorem lips : ∀ (k : Nat) (a : Int), (-(84 * (k : Int)) ≤ Sin (a + k) - Sin a ∧ Sin (a + k) - Sin a ≤ 84 * k) ∧ (-(84 * (k : Int)) ≤ Cos (a + k) - Cos a ∧ Cos (a + k) - Cos a ≤ 84 * k)
  | 0, a => by simp
  | k + 1, a => by
    have h := lips k a
    have h1 := lip (a + k)
    unfold Lip at h1
    rw [show a + ((k + 1 : Nat) : Int) = a + k + 1 from by omega]
    omega

/-! ### arcs around a center -/
/-! ### fly-by turns -/
theorem rnd1_spec (n d : Int) (hd : 0 < d) : (rnd 1 n d - 1) * d < n ∧ n ≤ rnd 1 n d * d := by
  unfold rnd
  simp only [show (1 : Nat) ≠ 0 from by decide, if_false, if_true]
  have := floor_bd (-n) d hd
  generalize (-n).fdiv d = k at *
  have e1 : (-k - 1) * d = -(k * d) - d := by grind
  have e2 : -k * d = -(k * d) := by grind
  omega
end Go.Proofs.YtapgmnjpfcohhaaGreatDoor

/-
  A tangent touches its circle: the center lies abeam of the tangent point, at the distance of the radius (chapter 12). No program.
-/
namespace Go.Proofs.YtapgmnjpfcohhaaGreatDoor
set_option linter.unusedVariables false

end Go.Proofs.YtapgmnjpfcohhaaGreatDoor

/-
  The rest of chapter 12 as plain functions: fly-by turns, tangents, arcs around a center; the laws of them. No program.
-/
namespace Go.Proofs.YtapgmnjpfcohhaaGreatDoor
set_option linter.unusedVariables false

/-- the distance of a turn's ends from its corner -/
def leadF (r d : Int) : Int := rnd 1 (r * Sin ((d.natAbs : Int) / 2)) (Cos ((d.natAbs : Int) / 2))
def zeros10 : List Int := [0, 0, 0, 0, 0, 0, 0, 0, 0, 0]
/-- a fly-by turn of the courses x and y, between lines of given lengths: center, radius, from, sweep, start, end, lead; the error -/
def flyGo (bx b_y x y r m n : Int) : List Int × Int :=
  if 54000000 < (diffF x y).natAbs then (zeros10, 10) else
  if leadF r (diffF x y) > m ∨ leadF r (diffF x y) > n then (zeros10, 10) else
  if (rayF bx b_y (turnF x 64800000) (leadF r (diffF x y))).2.2 ≠ 0 then (zeros10, 2) else
  if (rayF bx b_y y (leadF r (diffF x y))).2.2 ≠ 0 then (zeros10, 2) else
  if (rayF (rayF bx b_y (turnF x 64800000) (leadF r (diffF x y))).1 (rayF bx b_y (turnF x 64800000) (leadF r (diffF x y))).2.1 (turnF x (sideOf (diffF x y) 32400000)) r).2.2 ≠ 0 then (zeros10, 2) else
  ([(rayF (rayF bx b_y (turnF x 64800000) (leadF r (diffF x y))).1 (rayF bx b_y (turnF x 64800000) (leadF r (diffF x y))).2.1 (turnF x (sideOf (diffF x y) 32400000)) r).1,
    (rayF (rayF bx b_y (turnF x 64800000) (leadF r (diffF x y))).1 (rayF bx b_y (turnF x 64800000) (leadF r (diffF x y))).2.1 (turnF x (sideOf (diffF x y) 32400000)) r).2.1,
    r, turnF x (-sideOf (diffF x y) 32400000), diffF x y,
    (rayF bx b_y (turnF x 64800000) (leadF r (diffF x y))).1, (rayF bx b_y (turnF x 64800000) (leadF r (diffF x y))).2.1,
    (rayF bx b_y y (leadF r (diffF x y))).1, (rayF bx b_y y (leadF r (diffF x y))).2.1, leadF r (diffF x y)], 0)
def flyF (ax ay bx b_y cx cy r : Int) : List Int × Int :=
  if !(vldB ax ay && vldB bx b_y && vldB cx cy) then (zeros10, 1) else
  if r < 1 ∨ r > 8000000 then (zeros10, 2) else
  if (ax = bx ∧ ay = b_y) ∨ (bx = cx ∧ b_y = cy) then (zeros10, 10) else
  flyGo bx b_y (atan2F (bx - ax) (b_y - ay)) (atan2F (cx - bx) (cy - b_y)) r (distF ax ay bx b_y) (distF bx b_y cx cy)
/-! ### fly-by turns -/
theorem Cos_h_pos {h : Int} (h0 : 0 ≤ h) (h1 : h ≤ 27000000) : 277000000 ≤ Cos h := by
  rw [← Sin_quarter_sub]
  have := Sin_mono (a := 5400000) (b := 32400000 - h) (by omega) (by omega) (by omega)
  have e : 277000000 ≤ Sin 5400000 := by decide +kernel
  omega
theorem Sin_h_bd {h : Int} (h0 : 0 ≤ h) (h1 : h ≤ 32400000) : 0 ≤ Sin h ∧ Sin h ≤ 84 * h := by
  have := lips h.toNat 0
  have e : ((h.toNat : Nat) : Int) = h := by omega
  rw [e, Int.zero_add, show Sin 0 = 0 from by decide +kernel] at this
  have := qsin_bd h0 h1
  rw [Sin_q h0 h1]
  rw [Sin_q h0 h1] at *
  omega
theorem leadF_spec {r d : Int} (hr : 0 ≤ r) (hd : d.natAbs ≤ 54000000) :
    (leadF r d - 1) * Cos ((d.natAbs : Int) / 2) < r * Sin ((d.natAbs : Int) / 2) ∧ r * Sin ((d.natAbs : Int) / 2) ≤ leadF r d * Cos ((d.natAbs : Int) / 2) ∧ 0 ≤ leadF r d := by
  have hc := Cos_h_pos (h := (d.natAbs : Int) / 2) (by omega) (by omega)
  have hs := Sin_h_bd (h := (d.natAbs : Int) / 2) (by omega) (by omega)
  have h := rnd1_spec (r * Sin ((d.natAbs : Int) / 2)) (Cos ((d.natAbs : Int) / 2)) (by omega)
  refine ⟨h.1, h.2, ?_⟩
  unfold leadF
  have hp : 0 ≤ r * Sin ((d.natAbs : Int) / 2) := Int.mul_nonneg hr hs.1
  generalize rnd 1 (r * Sin ((d.natAbs : Int) / 2)) (Cos ((d.natAbs : Int) / 2)) = l at *
  apply Classical.byContradiction
  intro hn
  have : l * Cos ((d.natAbs : Int) / 2) ≤ (-1) * Cos ((d.natAbs : Int) / 2) := Int.mul_le_mul_of_nonneg_right (by omega) (by omega)
  omega
theorem leadF_hi {r d : Int} (hr : 0 ≤ r) (hr8 : r ≤ 8000000) (hd : d.natAbs ≤ 54000000) : leadF r d ≤ 40000000 := by
  have h := leadF_spec hr hd
  have hc := Cos_h_pos (h := (d.natAbs : Int) / 2) (by omega) (by omega)
  have hs := Sin_bd ((d.natAbs : Int) / 2)
  apply Classical.byContradiction
  intro hn
  have e1 : r * Sin ((d.natAbs : Int) / 2) ≤ 8000000 * 1073741824 := by
    have a := Int.mul_le_mul_of_nonneg_left hs.2 hr
    have b : r * 1073741824 ≤ 8000000 * 1073741824 := Int.mul_le_mul_of_nonneg_right hr8 (by omega)
    omega
  have e2 : 40000000 * Cos ((d.natAbs : Int) / 2) ≤ (leadF r d - 1) * Cos ((d.natAbs : Int) / 2) := Int.mul_le_mul_of_nonneg_right (by omega) (by omega)
  omega
theorem rnd2_mul (s n : Int) (hn : 0 < n) : rnd 2 (n * s) n = s := by
  unfold rnd
  simp only [show (2 : Nat) ≠ 0 from by decide, show (2 : Nat) ≠ 1 from by decide, if_false]
  have e : s * (2 * n) = 2 * (n * s) := by grind
  exact floor_of (by omega) (by omega) (by omega)
theorem arcLen_eq {cx cy r f s : Int} (h : arcB cx cy r f s = true) : arcLen cx cy r f s = rnd 2 (r * s.natAbs) 20626481 := by unfold arcLen; rw [if_pos h]
theorem arcB_iff (cx cy r f s : Int) : arcB cx cy r f s = true ↔ (vldB cx cy = true ∧ 1 ≤ r ∧ r ≤ 8000000 ∧ 0 ≤ f ∧ f < 129600000 ∧ -129600000 ≤ s ∧ s ≤ 129600000) := by
  unfold arcB
  rw [Bool.and_eq_true, decide_eq_true_iff]
theorem arcLen_bd (cx cy r f s : Int) : 0 ≤ arcLen cx cy r f s ∧ arcLen cx cy r f s ≤ 60000000 := by
  unfold arcLen
  split
  · rename_i h
    obtain ⟨_, h1, h2, _, _, h3, h4⟩ := (arcB_iff _ _ _ _ _).1 h
    rw [rndLen]
    have : 0 ≤ r * (s.natAbs : Int) := Int.mul_nonneg (by omega) (by omega)
    have : r * (s.natAbs : Int) ≤ 8000000 * 129600000 := Int.mul_le_mul h2 (by omega) (by omega) (by omega)
    omega
  · omega
/-- what a ray without an error comes to -/
theorem ray_ok {px py c d : Int} (h : (rayF px py c d).2.2 = 0) : vldB px py = true ∧ -8000000 ≤ d ∧ d ≤ 8000000 ∧ vldB (px + rayX d c) (py + rayY d c) = true ∧ (rayF px py c d).1 = px + rayX d c ∧ (rayF px py c d).2.1 = py + rayY d c := by
  unfold rayF at h ⊢
  by_cases h1 : vldB px py = true
  · rw [if_neg (by simp [h1])] at h ⊢
    by_cases h2 : d > 8000000 ∨ d < -8000000
    · rw [if_pos h2] at h
      exact absurd h (fun h => by cases h)
    · rw [if_neg h2] at h ⊢
      by_cases h3 : vldB (px + rayX d c) (py + rayY d c) = true
      · rw [if_pos h3]
        exact ⟨h1, by omega, by omega, h3, rfl, rfl⟩
      · rw [if_neg h3] at h
        exact absurd h (fun h => by cases h)
  · rw [if_pos (by simp [h1])] at h
    exact absurd h (fun h => by cases h)
/-- what the point at a length along an arc comes to -/
theorem arcAt_code {cx cy r f s al : Int} (hB : arcB cx cy r f s = true) (h0 : 0 ≤ al) (h1 : al ≤ arcLen cx cy r f s) : (arcAt cx cy r f s al).2.2.2 = 0 ∨ (arcAt cx cy r f s al).2.2.2 = 2 := by
  unfold arcAt
  rw [hB]
  simp only [Bool.not_true, Bool.false_eq_true, if_false]
  rw [if_neg (by omega)]
  split
  · exact .inl rfl
  · exact .inr rfl
end Go.Proofs.YtapgmnjpfcohhaaGreatDoor

/-
  Fly-by turns: the arc begins near its start and ends near its end. No program.
-/
namespace Go.Proofs.YtapgmnjpfcohhaaGreatDoor
set_option linter.unusedVariables false

end Go.Proofs.YtapgmnjpfcohhaaGreatDoor

/-
  Chapter 12: arcs and the points of them, tangents, arcs around a center. No program.
-/
namespace Go.Proofs.YtapgmnjpfcohhaaGreatDoor
set_option linter.unusedVariables false

def radF (v b : Int) : Int × Int :=
  if 1 ≤ v ∧ v ≤ 1000 ∧ 1 ≤ b ∧ b ≤ 3000 then
    (if (muldiv 1 (v * v * 87431) (Cos (b * 3600)) (1000000 * Sin (b * 3600))).2 = 0 ∧ (muldiv 1 (v * v * 87431) (Cos (b * 3600)) (1000000 * Sin (b * 3600))).1 ≤ 8000000 then
      ((muldiv 1 (v * v * 87431) (Cos (b * 3600)) (1000000 * Sin (b * 3600))).1, 0) else (0, 2))
  else (0, 2)
def rateF (v b : Int) : Int × Int :=
  if 1 ≤ v ∧ v ≤ 1000 ∧ 1 ≤ b ∧ b ≤ 3000 then muldiv 0 20626481000000 (Sin (b * 3600)) (87431 * v * Cos (b * 3600)) else (0, 2)

/-! ### tangents -/
/-! ### arcs around a center -/
end Go.Proofs.YtapgmnjpfcohhaaGreatDoor

/-
  The laws of chapter 11 on the plain functions. No program.
-/
namespace Go.Proofs.YtapgmnjpfcohhaaGreatDoor
set_option linter.unusedVariables false

theorem vld_bds {x y : Int} (h : vldB x y = true) : -2000000 ≤ x ∧ x ≤ 2000000 ∧ -2000000 ≤ y ∧ y ≤ 2000000 := (vldB_iff x y).1 h
end Go.Proofs.YtapgmnjpfcohhaaGreatDoor

/-
  The chapters' examples, reckoned. No program.
-/
namespace Go.Proofs.YtapgmnjpfcohhaaGreatDoor
set_option linter.unusedVariables false

theorem atan_x (m : Int) (h : 0 < m) : atanC m 0 = 0 := by
  unfold atanC
  rw [greatN_eq (atP m 0) n45 0 (Nat.zero_le _) (.inl rfl) ?_]
  · rfl
  · intro d h1 h2
    rw [n45_eq] at h2
    unfold atP
    refine decide_eq_false ?_
    rw [Int.mul_zero]
    have := Sin_mono (a := 1) (b := d) (by omega) (by omega) (by omega)
    have e : 0 < Sin 1 := by decide +kernel
    have := Int.mul_pos (show 0 < Sin d by omega) h
    omega
end Go.Proofs.YtapgmnjpfcohhaaGreatDoor
