/-
  A point of an arc is found on it, at its length (chapter 12). No program.
-/
import Derived.Test.YtbhpklpkcgcmfaaGreatDoorMSeries
namespace Go.Proofs.YtbhpklpkcgcmfaaGreatDoor
set_option linter.unusedVariables false
end Go.Proofs.YtbhpklpkcgcmfaaGreatDoor
/-
  The ends of arcs around a center, and of fly-by turns (chapter 12). No program.
-/
namespace Go.Proofs.YtbhpklpkcgcmfaaGreatDoor
set_option linter.unusedVariables false
def Lip (a : Int) : Prop := (-84 ≤ Sin (a + 1) - Sin a ∧ Sin (a + 1) - Sin a ≤ 84) ∧ (-84 ≤ Cos (a + 1) - Cos a ∧ Cos (a + 1) - Cos a ≤ 84)
theorem Sin_lip_q {a : Int} (h : 0 ≤ a) (h2 : a < 32400000) : -84 ≤ Sin (a + 1) - Sin a ∧ Sin (a + 1) - Sin a ≤ 84 := by
 have hm := Sin_mono h (show a ≤ a + 1 by omega) (by omega)
 refine ⟨by omega, ?_⟩
 rw [Sin_q h (by omega), Sin_q (by omega) (by omega)]
 by_cases h3 : a < 16200000
 · have := (sine_rise h h3).1
   rw [qsin_lo (by omega), qsin_lo (by omega)]
   omega
 · have e1 := qsin_hi (x := 32400000 - a) (by omega) (by omega)
   have e2 := qsin_hi (x := 32400000 - (a + 1)) (by omega) (by omega)
   rw [show 32400000 - (32400000 - a) = a from by omega] at e1
   rw [show 32400000 - (32400000 - (a + 1)) = a + 1 from by omega] at e2
   rw [e1, e2]
   have := (sine_rise (a := 32400000 - (a + 1)) (by omega) (by omega)).2
   rw [show 32400000 - (a + 1) + 1 = 32400000 - a from by omega] at this
   exact this
theorem lip_q {a : Int} (h : 0 ≤ a) (h2 : a < 32400000) : Lip a := by
 refine ⟨Sin_lip_q h h2, ?_⟩
 have := Sin_lip_q (a := 32400000 - (a + 1)) (by omega) (by omega)
 rw [show 32400000 - (a + 1) + 1 = 32400000 - a from by omega, Sin_quarter_sub, Sin_quarter_sub] at this
 omega
theorem Lip.turn {a : Int} (h : Lip a) : Lip (a + 32400000) := by
 unfold Lip at *
 rw [show a + 32400000 + 1 = a + 1 + 32400000 from by omega, Sin_add_quarter, Sin_add_quarter, Cos_add_quarter, Cos_add_quarter]
 omega
theorem lip (a : Int) : Lip a := by
 have hb := norm_bd a
 have e : Lip (norm a) := by
  generalize norm a = n at *
  by_cases h1 : n < 32400000
  · exact lip_q hb.1 h1
  · by_cases h2 : n < 64800000
    · have := (lip_q (a := n - 32400000) (by omega) (by omega)).turn
      rwa [show n - 32400000 + 32400000 = n from by omega] at this
    · by_cases h3 : n < 97200000
      · have := (lip_q (a := n - 64800000) (by omega) (by omega)).turn.turn
        rwa [show n - 64800000 + 32400000 + 32400000 = n from by omega] at this
      · have := (lip_q (a := n - 97200000) (by omega) (by omega)).turn.turn.turn
        rwa [show n - 97200000 + 32400000 + 32400000 + 32400000 = n from by omega] at this
 unfold Lip at *
 rw [Sin_norm (norm a + 1) (a + 1) (by unfold norm; omega), Cos_norm (norm a + 1) (a + 1) (by unfold norm; omega), Sin_normed, Cos_normed] at e
 exact e
theorem lips : ∀ (k : Nat) (a : Int), (-(84 * (k : Int)) ≤ Sin (a + k) - Sin a ∧ Sin (a + k) - Sin a ≤ 84 * k) ∧ (-(84 * (k : Int)) ≤ Cos (a + k) - Cos a ∧ Cos (a + k) - Cos a ≤ 84 * k)
 | 0, a => by simp
 | k + 1, a => by
   have h := lips k a
   have h1 := lip (a + k)
   unfold Lip at h1
   rw [show a + ((k + 1 : Nat) : Int) = a + k + 1 from by omega]
   omega
theorem rnd1_spec (n d : Int) (hd : 0 < d) : (rnd 1 n d - 1) * d < n ∧ n ≤ rnd 1 n d * d := by
 unfold rnd
 simp only [show (1 : Nat) ≠ 0 from by decide, if_false, if_true]
 have := floor_bd (-n) d hd
 generalize (-n).fdiv d = k at *
 have e1 : (-k - 1) * d = -(k * d) - d := by grind
 have e2 : -k * d = -(k * d) := by grind
 omega
end Go.Proofs.YtbhpklpkcgcmfaaGreatDoor
/-
  A tangent touches its circle: the center lies abeam of the tangent point, at the distance of the radius (chapter 12). No program.
-/
namespace Go.Proofs.YtbhpklpkcgcmfaaGreatDoor
set_option linter.unusedVariables false
end Go.Proofs.YtbhpklpkcgcmfaaGreatDoor
/-
  The rest of chapter 12 as plain functions: fly-by turns, tangents, arcs around a center; the laws of them. No program.
-/
namespace Go.Proofs.YtbhpklpkcgcmfaaGreatDoor
set_option linter.unusedVariables false
def leadF (r d : Int) : Int := rnd 1 (r * Sin ((d.natAbs : Int) / 2)) (Cos ((d.natAbs : Int) / 2))
def zeros10 : List Int := [0, 0, 0, 0, 0, 0, 0, 0, 0, 0]
def flyGo (bx b_y x y r m n : Int) : List Int × Int :=
 if 54000000 < (diffF x y).natAbs then (zeros10, 10) else
 if leadF r (diffF x y) > m ∨ leadF r (diffF x y) > n then (zeros10, 10) else
 if (rayF bx b_y (turnF x 64800000) (leadF r (diffF x y))).2.2 ≠ 0 then (zeros10, 2) else
 if (rayF bx b_y y (leadF r (diffF x y))).2.2 ≠ 0 then (zeros10, 2) else
 if (rayF (rayF bx b_y (turnF x 64800000) (leadF r (diffF x y))).1 (rayF bx b_y (turnF x 64800000) (leadF r (diffF x y))).2.1 (turnF x (sideOf (diffF x y) 32400000)) r).2.2 ≠ 0 then (zeros10, 2) else
 ([(rayF (rayF bx b_y (turnF x 64800000) (leadF r (diffF x y))).1 (rayF bx b_y (turnF x 64800000) (leadF r (diffF x y))).2.1 (turnF x (sideOf (diffF x y) 32400000)) r).1,
   (rayF (rayF bx b_y (turnF x 64800000) (leadF r (diffF x y))).1 (rayF bx b_y (turnF x 64800000) (leadF r (diffF x y))).2.1 (turnF x (sideOf (diffF x y) 32400000)) r).2.1,
   r, turnF x (-sideOf (diffF x y) 32400000), diffF x y,
   (rayF bx b_y (turnF x 64800000) (leadF r (diffF x y))).1, (rayF bx b_y (turnF x 64800000) (leadF r (diffF x y))).2.1,
   (rayF bx b_y y (leadF r (diffF x y))).1, (rayF bx b_y y (leadF r (diffF x y))).2.1, leadF r (diffF x y)], 0)
def flyF (ax ay bx b_y cx cy r : Int) : List Int × Int :=
 if !(vldB ax ay && vldB bx b_y && vldB cx cy) then (zeros10, 1) else
 if r < 1 ∨ r > 8000000 then (zeros10, 2) else
 if (ax = bx ∧ ay = b_y) ∨ (bx = cx ∧ b_y = cy) then (zeros10, 10) else
 flyGo bx b_y (atan2F (bx - ax) (b_y - ay)) (atan2F (cx - bx) (cy - b_y)) r (distF ax ay bx b_y) (distF bx b_y cx cy)
def tanDir (cx cy r px py : Int) (right : Bool) : Int :=
 turnF (atan2F (px - cx) (py - cy)) (if right then -atan2F (isq (dist2 cx cy px py - r * r).toNat) r else atan2F (isq (dist2 cx cy px py - r * r).toNat) r)
def tanF (cx cy r px py : Int) (right : Bool) : Int × Int × Int :=
 if !(vldB cx cy && vldB px py) then (0, 0, 1) else
 if r < 1 ∨ r > 8000000 then (0, 0, 2) else
 if dist2 cx cy px py ≤ r * r then (0, 0, 10) else
 if (rayF cx cy (tanDir cx cy r px py right) r).2.2 ≠ 0 then (0, 0, 2) else
 ((rayF cx cy (tanDir cx cy r px py right) r).1, (rayF cx cy (tanDir cx cy r px py right) r).2.1, 0)
def arSweep (right : Bool) (x y : Int) : Int := if right then (if sweepF true x y = 0 then 129600000 else sweepF true x y) else -(if sweepF false x y = 0 then 129600000 else sweepF false x y)
def zeros5 : List Int := [0, 0, 0, 0, 0]
def aroundF (ax ay cx cy bx b_y : Int) (right : Bool) : List Int × Int :=
 if !(vldB ax ay && vldB cx cy && vldB bx b_y) then (zeros5, 1) else
 if distF cx cy ax ay = 0 ∨ distF cx cy bx b_y = 0 ∨ distF cx cy ax ay - distF cx cy bx b_y > 8 ∨ distF cx cy bx b_y - distF cx cy ax ay > 8 then (zeros5, 10) else
 ([cx, cy, distF cx cy ax ay, atan2F (ax - cx) (ay - cy), arSweep right (atan2F (ax - cx) (ay - cy)) (atan2F (bx - cx) (b_y - cy))], 0)
theorem Cos_h_pos {h : Int} (h0 : 0 ≤ h) (h1 : h ≤ 27000000) : 277000000 ≤ Cos h := by
 rw [← Sin_quarter_sub]
 have := Sin_mono (a := 5400000) (b := 32400000 - h) (by omega) (by omega) (by omega)
 have e : 277000000 ≤ Sin 5400000 := by decide +kernel
 omega
theorem Sin_h_bd {h : Int} (h0 : 0 ≤ h) (h1 : h ≤ 32400000) : 0 ≤ Sin h ∧ Sin h ≤ 84 * h := by
 have := lips h.toNat 0
 have e : ((h.toNat : Nat) : Int) = h := by omega
 rw [e, Int.zero_add, show Sin 0 = 0 from by decide +kernel] at this
 have := qsin_bd h0 h1
 rw [Sin_q h0 h1]
 rw [Sin_q h0 h1] at *
 omega
theorem leadF_spec {r d : Int} (hr : 0 ≤ r) (hd : d.natAbs ≤ 54000000) :
 (leadF r d - 1) * Cos ((d.natAbs : Int) / 2) < r * Sin ((d.natAbs : Int) / 2) ∧ r * Sin ((d.natAbs : Int) / 2) ≤ leadF r d * Cos ((d.natAbs : Int) / 2) ∧ 0 ≤ leadF r d := by
 have hc := Cos_h_pos (h := (d.natAbs : Int) / 2) (by omega) (by omega)
 have hs := Sin_h_bd (h := (d.natAbs : Int) / 2) (by omega) (by omega)
 have h := rnd1_spec (r * Sin ((d.natAbs : Int) / 2)) (Cos ((d.natAbs : Int) / 2)) (by omega)
 refine ⟨h.1, h.2, ?_⟩
 unfold leadF
 have hp : 0 ≤ r * Sin ((d.natAbs : Int) / 2) := Int.mul_nonneg hr hs.1
 generalize rnd 1 (r * Sin ((d.natAbs : Int) / 2)) (Cos ((d.natAbs : Int) / 2)) = l at *
 apply Classical.byContradiction
 intro hn
 have : l * Cos ((d.natAbs : Int) / 2) ≤ (-1) * Cos ((d.natAbs : Int) / 2) := Int.mul_le_mul_of_nonneg_right (by omega) (by omega)
 omega
theorem leadF_hi {r d : Int} (hr : 0 ≤ r) (hr8 : r ≤ 8000000) (hd : d.natAbs ≤ 54000000) : leadF r d ≤ 40000000 := by
 have h := leadF_spec hr hd
 have hc := Cos_h_pos (h := (d.natAbs : Int) / 2) (by omega) (by omega)
 have hs := Sin_bd ((d.natAbs : Int) / 2)
 apply Classical.byContradiction
 intro hn
 have e1 : r * Sin ((d.natAbs : Int) / 2) ≤ 8000000 * 1073741824 := by
  have a := Int.mul_le_mul_of_nonneg_left hs.2 hr
  have b : r * 1073741824 ≤ 8000000 * 1073741824 := Int.mul_le_mul_of_nonneg_right hr8 (by omega)
  omega
 have e2 : 40000000 * Cos ((d.natAbs : Int) / 2) ≤ (leadF r d - 1) * Cos ((d.natAbs : Int) / 2) := Int.mul_le_mul_of_nonneg_right (by omega) (by omega)
 omega
theorem arcLen_eq {cx cy r f s : Int} (h : arcB cx cy r f s = true) : arcLen cx cy r f s = rnd 2 (r * s.natAbs) 20626481 := by unfold arcLen; rw [if_pos h]
theorem arcB_iff (cx cy r f s : Int) : arcB cx cy r f s = true ↔ (vldB cx cy = true ∧ 1 ≤ r ∧ r ≤ 8000000 ∧ 0 ≤ f ∧ f < 129600000 ∧ -129600000 ≤ s ∧ s ≤ 129600000) := by
 unfold arcB
 rw [Bool.and_eq_true, decide_eq_true_iff]
theorem arcLen_bd (cx cy r f s : Int) : 0 ≤ arcLen cx cy r f s ∧ arcLen cx cy r f s ≤ 60000000 := by
 unfold arcLen
 split
 · rename_i h
   obtain ⟨_, h1, h2, _, _, h3, h4⟩ := (arcB_iff _ _ _ _ _).1 h
   rw [rndLen]
   have : 0 ≤ r * (s.natAbs : Int) := Int.mul_nonneg (by omega) (by omega)
   have : r * (s.natAbs : Int) ≤ 8000000 * 129600000 := Int.mul_le_mul h2 (by omega) (by omega) (by omega)
   omega
 · omega
theorem ray_ok {px py c d : Int} (h : (rayF px py c d).2.2 = 0) : vldB px py = true ∧ -8000000 ≤ d ∧ d ≤ 8000000 ∧ vldB (px + rayX d c) (py + rayY d c) = true ∧ (rayF px py c d).1 = px + rayX d c ∧ (rayF px py c d).2.1 = py + rayY d c := by
 unfold rayF at h ⊢
 by_cases h1 : vldB px py = true
 · rw [if_neg (by simp [h1])] at h ⊢
   by_cases h2 : d > 8000000 ∨ d < -8000000
   · rw [if_pos h2] at h
     exact absurd h (fun h => by cases h)
   · rw [if_neg h2] at h ⊢
     by_cases h3 : vldB (px + rayX d c) (py + rayY d c) = true
     · rw [if_pos h3]
       exact ⟨h1, by omega, by omega, h3, rfl, rfl⟩
     · rw [if_neg h3] at h
       exact absurd h (fun h => by cases h)
 · rw [if_pos (by simp [h1])] at h
   exact absurd h (fun h => by cases h)
end Go.Proofs.YtbhpklpkcgcmfaaGreatDoor
/-
  Fly-by turns: the arc begins near its start and ends near its end. No program.
-/
namespace Go.Proofs.YtbhpklpkcgcmfaaGreatDoor
set_option linter.unusedVariables false
theorem fst0 {l : List Int} {c : Int} (hc : c ≠ 0) (h : ((l, c) : List Int × Int).2 = 0) : False := hc h
theorem flyGo_ok {bx b_y x y r m n : Int} (h : (flyGo bx b_y x y r m n).2 = 0) :
 (diffF x y).natAbs ≤ 54000000 ∧ leadF r (diffF x y) ≤ m ∧ leadF r (diffF x y) ≤ n ∧ ∃ cx cy sx sy ex ey,
   (flyGo bx b_y x y r m n).1 = [cx, cy, r, turnF x (-sideOf (diffF x y) 32400000), diffF x y, sx, sy, ex, ey, leadF r (diffF x y)] ∧
   sx = bx + rayX (leadF r (diffF x y)) (turnF x 64800000) ∧ sy = b_y + rayY (leadF r (diffF x y)) (turnF x 64800000) ∧
   ex = bx + rayX (leadF r (diffF x y)) y ∧ ey = b_y + rayY (leadF r (diffF x y)) y ∧
   cx = sx + rayX r (turnF x (sideOf (diffF x y) 32400000)) ∧ cy = sy + rayY r (turnF x (sideOf (diffF x y) 32400000)) ∧
   vldB cx cy = true ∧ vldB sx sy = true ∧ vldB ex ey = true := by
 unfold flyGo at h ⊢
 by_cases h1 : 54000000 < (diffF x y).natAbs
 · rw [if_pos h1] at h; exact (fst0 (by decide) h).elim
 rw [if_neg h1] at h ⊢
 by_cases h2 : leadF r (diffF x y) > m ∨ leadF r (diffF x y) > n
 · rw [if_pos h2] at h; exact (fst0 (by decide) h).elim
 rw [if_neg h2] at h ⊢
 by_cases h3 : (rayF bx b_y (turnF x 64800000) (leadF r (diffF x y))).2.2 ≠ 0
 · rw [if_pos h3] at h; exact (fst0 (by decide) h).elim
 rw [if_neg h3] at h ⊢
 by_cases h4 : (rayF bx b_y y (leadF r (diffF x y))).2.2 ≠ 0
 · rw [if_pos h4] at h; exact (fst0 (by decide) h).elim
 rw [if_neg h4] at h ⊢
 by_cases h5 : (rayF (rayF bx b_y (turnF x 64800000) (leadF r (diffF x y))).1 (rayF bx b_y (turnF x 64800000) (leadF r (diffF x y))).2.1 (turnF x (sideOf (diffF x y) 32400000)) r).2.2 ≠ 0
 · rw [if_pos h5] at h; exact (fst0 (by decide) h).elim
 rw [if_neg h5]
 obtain ⟨a1, a2, a3, a4, a5, a6⟩ := ray_ok (Decidable.of_not_not h3)
 obtain ⟨b1, b2, b3, b4, b5, b6⟩ := ray_ok (Decidable.of_not_not h4)
 obtain ⟨c1, c2, c3, c4, c5, c6⟩ := ray_ok (Decidable.of_not_not h5)
 rw [a5, a6] at c1 c4 c5 c6
 rw [a5, a6, b5, b6, c5, c6]
 exact ⟨by omega, by omega, by omega, _, _, _, _, _, _, rfl, rfl, rfl, rfl, rfl, rfl, rfl, c4, a4, b4⟩
theorem fly_arc {ax ay bx b_y cx cy r v0 v1 v2 v3 v4 v5 v6 v7 v8 v9 : Int} (h : flyF ax ay bx b_y cx cy r = ([v0, v1, v2, v3, v4, v5, v6, v7, v8, v9], 0)) : arcB v0 v1 v2 v3 v4 = true := by
 have h0 : (flyF ax ay bx b_y cx cy r).2 = 0 := by rw [h]
 have h := h.symm
 unfold flyF at h h0
 by_cases h1 : (!(vldB ax ay && vldB bx b_y && vldB cx cy)) = true
 · rw [if_pos h1] at h0; exact (fst0 (by decide) h0).elim
 rw [if_neg h1] at h h0
 by_cases h2 : r < 1 ∨ r > 8000000
 · rw [if_pos h2] at h0; exact (fst0 (by decide) h0).elim
 rw [if_neg h2] at h h0
 by_cases h3 : (ax = bx ∧ ay = b_y) ∨ (bx = cx ∧ b_y = cy)
 · rw [if_pos h3] at h0; exact (fst0 (by decide) h0).elim
 rw [if_neg h3] at h h0
 obtain ⟨g1, g2, g3, X, Y, sx, sy, ex, ey, g4, q1, q2, q3, q4, q5, q6, q7, q8, q9⟩ := flyGo_ok h0
 rw [← h] at g4
 simp only [List.cons.injEq, and_true] at g4
 obtain ⟨rfl, rfl, rfl, rfl, rfl, rfl, rfl, rfl, rfl, rfl⟩ := g4
 have hfb := norm_bd (courseF ax ay bx b_y).1
 exact (arcB_iff _ _ _ _ _).2 ⟨q7, by omega, by omega, (norm_bd _).1, (norm_bd _).2, by omega, by omega⟩
end Go.Proofs.YtbhpklpkcgcmfaaGreatDoor
/-
  Chapter 12: arcs and the points of them, tangents, arcs around a center. No program.
-/
namespace Go.Proofs.YtbhpklpkcgcmfaaGreatDoor
set_option linter.unusedVariables false
def radF (v b : Int) : Int × Int :=
 if 1 ≤ v ∧ v ≤ 1000 ∧ 1 ≤ b ∧ b ≤ 3000 then
  (if (muldiv 1 (v * v * 87431) (Cos (b * 3600)) (1000000 * Sin (b * 3600))).2 = 0 ∧ (muldiv 1 (v * v * 87431) (Cos (b * 3600)) (1000000 * Sin (b * 3600))).1 ≤ 8000000 then
    ((muldiv 1 (v * v * 87431) (Cos (b * 3600)) (1000000 * Sin (b * 3600))).1, 0) else (0, 2))
 else (0, 2)
def rateF (v b : Int) : Int × Int :=
 if 1 ≤ v ∧ v ≤ 1000 ∧ 1 ≤ b ∧ b ≤ 3000 then muldiv 0 20626481000000 (Sin (b * 3600)) (87431 * v * Cos (b * 3600)) else (0, 2)
end Go.Proofs.YtbhpklpkcgcmfaaGreatDoor
/-
  The laws of chapter 11 on the plain functions. No program.
-/
namespace Go.Proofs.YtbhpklpkcgcmfaaGreatDoor
set_option linter.unusedVariables false
end Go.Proofs.YtbhpklpkcgcmfaaGreatDoor
/-
  The chapters' examples, reckoned. No program.
-/
namespace Go.Proofs.YtbhpklpkcgcmfaaGreatDoor
set_option linter.unusedVariables false
end Go.Proofs.YtbhpklpkcgcmfaaGreatDoor
/-
  The examples of chapter 12, reckoned; arcs that are split; bank angles. No program.
-/
namespace Go.Proofs.YtbhpklpkcgcmfaaGreatDoor
set_option linter.unusedVariables false
end Go.Proofs.YtbhpklpkcgcmfaaGreatDoor
/-
  What the laws of chapter 12 ask of the plain functions. No program.
-/
namespace Go.Proofs.YtbhpklpkcgcmfaaGreatDoor
set_option linter.unusedVariables false
theorem fly_no {ax ay bx b_y cx cy r : Int} (h : (vldB ax ay && vldB bx b_y && vldB cx cy) = false) : flyF ax ay bx b_y cx cy r = (zeros10, 1) := by unfold flyF; rw [h]; rfl
theorem fly_rng {ax ay bx b_y cx cy r : Int} (h : (vldB ax ay && vldB bx b_y && vldB cx cy) = true) (h2 : r < 1 ∨ r > 8000000) : flyF ax ay bx b_y cx cy r = (zeros10, 2) := by unfold flyF; rw [h, if_neg (by simp), if_pos h2]
theorem fly_same {ax ay bx b_y cx cy r : Int} (h : (vldB ax ay && vldB bx b_y && vldB cx cy) = true) (h2 : ¬ (r < 1 ∨ r > 8000000)) (h3 : (ax = bx ∧ ay = b_y) ∨ (bx = cx ∧ b_y = cy)) : flyF ax ay bx b_y cx cy r = (zeros10, 10) := by
 unfold flyF; rw [h, if_neg (by simp), if_neg h2, if_pos h3]
theorem course_off {ax ay bx b_y : Int} (h1 : vldB ax ay = true) (h2 : vldB bx b_y = true) (h : ¬ (ax = bx ∧ ay = b_y)) : courseF ax ay bx b_y = (atan2F (bx - ax) (b_y - ay), 0) := by
 unfold courseF
 rw [h1, h2, if_neg (by simp), if_neg h]
theorem course_same {ax ay bx b_y : Int} (h1 : vldB ax ay = true) (h2 : vldB bx b_y = true) (h : ax = bx ∧ ay = b_y) : courseF ax ay bx b_y = (0, 10) := by
 unfold courseF
 rw [h1, h2, if_neg (by simp), if_pos h]
theorem fly_in {ax ay bx b_y cx cy r : Int} (h0 : vldB ax ay = true) (h1 : vldB bx b_y = true) (hc : vldB cx cy = true) (h2 : ¬ (r < 1 ∨ r > 8000000)) (h3 : ¬ (ax = bx ∧ ay = b_y)) (h4 : ¬ (bx = cx ∧ b_y = cy)) :
 flyF ax ay bx b_y cx cy r = flyGo bx b_y (courseF ax ay bx b_y).1 (courseF bx b_y cx cy).1 r (distF ax ay bx b_y) (distF bx b_y cx cy) := by
 rw [course_off h0 h1 h3, course_off h1 hc h4]
 unfold flyF
 rw [h0, h1, hc, if_neg (by simp), if_neg h2, if_neg (by omega)]
theorem flyGo_far {bx b_y x y r m n d : Int} (hd : d = diffF x y) (h : 54000000 < d.natAbs) : flyGo bx b_y x y r m n = (zeros10, 10) := by
 unfold flyGo; rw [← hd, if_pos h]
theorem flyGo_lead {bx b_y x y r m n d l : Int} (hd : d = diffF x y) (h : ¬ 54000000 < d.natAbs) (hl : l = leadF r d) (h2 : l > m ∨ l > n) : flyGo bx b_y x y r m n = (zeros10, 10) := by
 unfold flyGo; rw [← hd, ← hl, if_neg h, if_pos h2]
theorem flyGo_rest {bx b_y x y r m n d l sx sy e1 ex ey e2 kx ky e3 : Int} (hd : d = diffF x y) (h : ¬ 54000000 < d.natAbs) (hl : l = leadF r d) (h2 : ¬ (l > m ∨ l > n))
 (h3 : (sx, sy, e1) = rayF bx b_y (turnF x 64800000) l) (h4 : (ex, ey, e2) = rayF bx b_y y l) (h5 : (kx, ky, e3) = rayF sx sy (turnF x (sideOf d 32400000)) r) :
 flyGo bx b_y x y r m n = if e1 ≠ 0 then (zeros10, 2) else if e2 ≠ 0 then (zeros10, 2) else if e3 ≠ 0 then (zeros10, 2) else ([kx, ky, r, turnF x (-sideOf d 32400000), d, sx, sy, ex, ey, l], 0) := by
 unfold flyGo
 rw [← hd, ← hl, if_neg h, if_neg h2, ← h3, ← h4]
 simp only
 rw [← h5]
theorem lead_md {r d l : Int} (hr : 1 ≤ r) (hr8 : r ≤ 8000000) (hd : d.natAbs ≤ 54000000) (hl : l = leadF r d) : muldiv 1 r (Sin ((d.natAbs : Int) / 2)) (Cos ((d.natAbs : Int) / 2)) = (l, 0) ∧ 0 ≤ l ∧ l ≤ 40000000 := by
 have a := leadF_spec (r := r) (d := d) (by omega) hd
 have b := leadF_hi (r := r) (d := d) (by omega) hr8 hd
 have hc := Cos_h_pos (h := (d.natAbs : Int) / 2) (by omega) (by omega)
 rw [← hl] at a b
 refine ⟨?_, a.2.2, b⟩
 unfold leadF at hl
 unfold muldiv
 rw [← hl, if_neg (by omega), if_pos]
 unfold in64
 exact decide_eq_true (by omega)
end Go.Proofs.YtbhpklpkcgcmfaaGreatDoor
