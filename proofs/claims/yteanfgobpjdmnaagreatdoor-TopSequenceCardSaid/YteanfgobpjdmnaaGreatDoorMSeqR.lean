/-
  Where a point lies that is ahead of the end of an arc: its direction from the center. No program.
-/
import Derived.Test.YteanfgobpjdmnaaGreatDoorMBuildV
namespace Go.Proofs.YteanfgobpjdmnaaGreatDoor
set_option linter.unusedVariables false
theorem Ai {vx vy wx wy r t p : Int} (h0 : ¬ (vx = 0 ∧ vy = 0)) (hr1 : p * p ≤ vx * vx + vy * vy) (hr2 : vx * vx + vy * vy < (p + 1) * (p + 1)) (hp : 1 ≤ p) (hp8 : p ≤ 6000000)
 (hx : vx = zQ r t + wx) (hy : vy = zR r t + wy) :
 (-(5764607600000000000 + 13958643712 * p) ≤ 1073741824 * (p * qV (qZ vx vy - t)) - 1073741824 * (wx * qX t - wy * qV t) ∧
   1073741824 * (p * qV (qZ vx vy - t)) - 1073741824 * (wx * qX t - wy * qV t) ≤ 5764607600000000000 + 13958643712 * p) ∧
 (-(5764607600000000000 + 13958643712 * p) ≤ 1073741824 * (p * qX (qZ vx vy - t)) - 1073741824 * (wx * qV t + wy * qX t) - r * (qV t * qV t + qX t * qX t) ∧
   1073741824 * (p * qX (qZ vx vy - t)) - 1073741824 * (wx * qV t + wy * qX t) - r * (qV t * qV t + qX t * qX t) ≤ 5764607600000000000 + 13958643712 * p) := by
 have ha := Rx h0 hr1 hr2 hp hp8
 have hs := subs (qZ vx vy) t
 have r1 := zO (r * qV t)
 have r2 := zO (r * qX t)
 have bS := kJ t
 have bC := uj t
 have e1 : zQ r t = jG 2 (r * qV t) 1073741824 := rfl
 have e2 : zR r t = jG 2 (r * qX t) 1073741824 := rfl
 rw [← e1] at r1
 rw [← e2] at r2
 generalize zQ r t = rx at *
 generalize zR r t = ry at *
 generalize qV (qZ vx vy - t) = SZ at *
 generalize qX (qZ vx vy - t) = CZ at *
 generalize qV (qZ vx vy) = S1 at *
 generalize qX (qZ vx vy) = C1 at *
 generalize qV t = S at *
 generalize qX t = C at *
 obtain ⟨a, ha'⟩ : ∃ a, a = p * S1 - 1073741824 * vx + (rx * 1073741824 - r * S) := ⟨_, rfl⟩
 obtain ⟨b, hb'⟩ : ∃ b, b = p * C1 - 1073741824 * vy + (ry * 1073741824 - r * C) := ⟨_, rfl⟩
 obtain ⟨d1, hd1⟩ : ∃ d1, d1 = S1 * C - C1 * S - 1073741824 * SZ := ⟨_, rfl⟩
 obtain ⟨d2, hd2⟩ : ∃ d2, d2 = C1 * C + S1 * S - 1073741824 * CZ := ⟨_, rfl⟩
 rw [← hd1, ← hd2] at hs
 have ba : -2684354560 ≤ a ∧ a ≤ 2684354560 := by omega
 have bb : -2684354560 ≤ b ∧ b ≤ 2684354560 := by omega
 have k1 := zj (x := a) (X := 2684354560) ba bC
 have k2 := zj (x := b) (X := 2684354560) bb bS
 have k3 := zj (x := a) (X := 2684354560) ba bS
 have k4 := zj (x := b) (X := 2684354560) bb bC
 have k5 := zj (x := p) (X := p) ⟨by omega, by omega⟩ hs.1
 have k6 := zj (x := p) (X := p) ⟨by omega, by omega⟩ hs.2
 have i1 : 1073741824 * (p * SZ) - 1073741824 * (wx * C - wy * S) = a * C - b * S - p * d1 := by subst ha' hb' hd1 hx hy; grind
 have i2 : 1073741824 * (p * CZ) - 1073741824 * (wx * S + wy * C) - r * (S * S + C * C) = a * S + b * C - p * d2 := by subst ha' hb' hd2 hx hy; grind
 rw [i1, i2]
 omega
theorem AK {vx vy wx wy r t p g : Int} (h0 : ¬ (vx = 0 ∧ vy = 0)) (hr1 : p * p ≤ vx * vx + vy * vy) (hr2 : vx * vx + vy * vy < (p + 1) * (p + 1)) (hp : 1 ≤ p) (hp8 : p ≤ 6000000)
 (hx : vx = zQ r t + wx) (hy : vy = zR r t + wy) (hg : g = 1 ∨ g = -1) (hr : 100 ≤ r) (hr8 : r ≤ 8000000)
 (hW : 42949672960 ≤ g * (wx * qX t - wy * qV t)) (hV : 0 ≤ 32 * (1000000000 * r + (wx * qV t + wy * qX t)) + g * (wx * qX t - wy * qV t)) :
 ∃ d : Int, norm (t + g * d) = norm (qZ vx vy) ∧ 0 < d ∧ d ≤ 37000000 := by
 have hc := Ai h0 hr1 hr2 hp hp8 hx hy
 have hu := iF t
 obtain ⟨d0, e0, b1, b2⟩ := Ah (qZ vx vy - t)
 rw [ve _ _ e0.symm, kR _ _ e0.symm] at hc
 generalize wx * qX t - wy * qV t = W at *
 generalize wx * qV t + wy * qX t = V at *
 have hN := Int.mul_le_mul_of_nonneg_left (show 1152921488500719616 ≤ qV t * qV t + qX t * qX t by omega) (show (0 : Int) ≤ r by omega)
 generalize r * (qV t * qV t + qX t * qX t) = RN at *
 -- the kW of the turn is positive, its jB no less than a sixth of it
 have key : ∀ d : Int, -64800000 < d → d ≤ 64800000 → 0 < p * qV d → 0 ≤ 100 * (p * qX d) + 20 * (p * qV d) → 0 < d ∧ d ≤ 37000000 := by
  intro d h1 h2 h3 h4
  have hs : 0 < qV d := by
   rcases Int.lt_or_le 0 (qV d) with h | h
   · exact h
   · have := Int.mul_le_mul_of_nonneg_left h (show (0 : Int) ≤ p by omega)
     omega
  have hpos : 0 < d := by
   rcases Int.lt_or_le 0 d with h | h
   · exact h
   · exfalso
     have e := Ji (-d)
     rw [Int.neg_neg] at e
     have : 0 ≤ qV (-d) := by
      rcases Int.le_total (-d) 32400000 with h5 | h5
      · rw [QS (by omega) h5]; exact (Qz (by omega) h5).1
      · rw [iM h5 (by omega)]; exact (Qz (by omega) (by omega)).1
     omega
  refine ⟨hpos, ?_⟩
  rcases Int.lt_or_le 37000000 d with h | h
  · exfalso
    have e1 : qX d = -qV (d - 32400000) := by
     have := jS (d - 32400000)
     rw [show d - 32400000 + 32400000 = d by omega] at this
     exact this
    have m := Jj (a := 4600000) (b := d - 32400000) (by omega) (by omega) (by omega)
    have e2 : 237000000 ≤ qV 4600000 := by decide +kernel
    have b3 := (kJ d).2
    have h5 : 0 ≤ p * (100 * qX d + 20 * qV d) := by
     have e : p * (100 * qX d + 20 * qV d) = 100 * (p * qX d) + 20 * (p * qV d) := by grind
     omega
    have h6 : 100 * qX d + 20 * qV d < 0 := by omega
    have := Int.mul_le_mul_of_nonneg_left (show 100 * qX d + 20 * qV d ≤ -1 by omega) (show (0 : Int) ≤ p by omega)
    omega
  · exact h
 rcases hg with rfl | rfl
 · have k := key d0 b1 b2 (by omega) (by omega)
   exact ⟨d0, by unfold norm at *; omega, k⟩
 · have eS := Ji d0
   have eC := YS d0
   have k5 : p * qV (-d0) = -(p * qV d0) := by rw [eS, Int.mul_neg]
   by_cases hd : d0 = 64800000
   · exfalso
     subst hd
     have : qV 64800000 = 0 := by decide +kernel
     rw [this] at hc
     omega
   have k := key (-d0) (by omega) (by omega) (by rw [k5]; omega) (by rw [k5, eC]; omega)
   exact ⟨-d0, by unfold norm at *; omega, k⟩
theorem EA {vx vy wx wy r t p : Int} (h0 : ¬ (vx = 0 ∧ vy = 0)) (hr1 : p * p ≤ vx * vx + vy * vy) (hr2 : vx * vx + vy * vy < (p + 1) * (p + 1)) (hp : 1 ≤ p) (hp8 : p ≤ 6000000)
 (hx : vx = zQ r t + wx) (hy : vy = zR r t + wy) (hr : 600 ≤ r) (hr8 : r ≤ 8000000) (bx : -40 ≤ wx ∧ wx ≤ 40) (b_y : -40 ≤ wy ∧ wy ≤ 40) :
 ∃ d : Int, norm (t + d) = norm (qZ vx vy) ∧ -16600000 ≤ d ∧ d ≤ 16600000 := by
 have hc := Ai h0 hr1 hr2 hp hp8 hx hy
 have hu := iF t
 have bS := kJ t
 have bC := uj t
 obtain ⟨d0, e0, b1, b2⟩ := Ah (qZ vx vy - t)
 rw [ve _ _ e0.symm, kR _ _ e0.symm] at hc
 have k1 := zj (x := wx) (X := 40) bx bC
 have k2 := zj (x := wy) (X := 40) b_y bS
 have k3 := zj (x := wx) (X := 40) bx bS
 have k4 := zj (x := wy) (X := 40) b_y bC
 have hN := Int.mul_le_mul_of_nonneg_left (show 1152921488500719616 ≤ qV t * qV t + qX t * qX t by omega) (show (0 : Int) ≤ r by omega)
 generalize r * (qV t * qV t + qX t * qX t) = RN at *
 generalize wx * qX t = a1 at *
 generalize wy * qV t = a2 at *
 generalize wx * qV t = a3 at *
 generalize wy * qX t = a4 at *
 have hpc := Int.mul_le_mul_of_nonneg_left (uj d0).2 (show (0 : Int) ≤ p by omega)
 have hp3 : 300 ≤ p := by omega
 have hcos : 0 < qX d0 := by
  rcases Int.lt_or_le 0 (qX d0) with h | h
  · exact h
  · have := Int.mul_le_mul_of_nonneg_left h (show (0 : Int) ≤ p by omega)
    omega
 have hd := Al ⟨b1, b2⟩ hcos
 have hs : -400000000 ≤ qV d0 ∧ qV d0 ≤ 400000000 := by
  constructor
  · rcases Int.lt_or_le (qV d0) (-400000000) with h | h
    · exfalso
      have := Int.mul_le_mul_of_nonneg_left (show qV d0 ≤ -400000001 by omega) (show (0 : Int) ≤ p by omega)
      omega
    · exact h
  · rcases Int.lt_or_le 400000000 (qV d0) with h | h
    · exfalso
      have := Int.mul_le_mul_of_nonneg_left (show 400000001 ≤ qV d0 by omega) (show (0 : Int) ≤ p by omega)
      omega
    · exact h
 have := Aw hd hs (by decide)
 exact ⟨d0, by unfold norm at *; omega, by omega, by omega⟩
set_option linter.unusedSimpArgs false
theorem EZ {t m : Int} (hm : -40000 ≤ m ∧ m ≤ 40000) : (-3360000 ≤ qV (t + m) - qV t ∧ qV (t + m) - qV t ≤ 3360000) ∧ (-3360000 ≤ qX (t + m) - qX t ∧ qX (t + m) - qX t ≤ 3360000) := by
 rcases Int.le_total 0 m with h | h
 · have := GD m.toNat t
   rw [show (m.toNat : Int) = m by omega] at this
   omega
 · have := GD (-m).toNat (t + m)
   rw [show ((-m).toNat : Int) = -m by omega, show t + m + -m = t by omega] at this
   omega
theorem Lg {t m : Int} (hm : -20000 ≤ m ∧ m ≤ 20000) : (-1680000 ≤ qV (t + m) - qV t ∧ qV (t + m) - qV t ≤ 1680000) ∧ (-1680000 ≤ qX (t + m) - qX t ∧ qX (t + m) - qX t ≤ 1680000) := by
 rcases Int.le_total 0 m with h | h
 · have := GD m.toNat t
   rw [show (m.toNat : Int) = m by omega] at this
   omega
 · have := GD (-m).toNat (t + m)
   rw [show ((-m).toNat : Int) = -m by omega, show t + m + -m = t by omega] at this
   omega
theorem Lh {C t m g : Int} (hg : g = 1 ∨ g = -1) (hC : norm C = norm (t + g * 32400000 + m)) : qV C = g * qX (t + m) ∧ qX C = -(g * qV (t + m)) := by
 rw [ve _ _ hC, kR _ _ hC]
 rcases hg with rfl | rfl
 · have a := je (t + m)
   have b := jS (t + m)
   rw [show t + 1 * 32400000 + m = t + m + 32400000 by omega]
   omega
 · have a := je (t + m - 32400000)
   have b := jS (t + m - 32400000)
   rw [show t + m - 32400000 + 32400000 = t + m by omega] at a b
   rw [show t + -1 * 32400000 + m = t + m - 32400000 by omega]
   omega
theorem Ar {cx cy r t C g m px py qx qy T : Int} (hr : 300 ≤ r) (hr8 : r ≤ 8000000) (hg : g = 1 ∨ g = -1) (vc : qf cx cy = true) (vq : qf qx qy = true)
 (hp : (-16 ≤ px - (cx + zQ r t) ∧ px - (cx + zQ r t) ≤ 16) ∧ (-16 ≤ py - (cy + zR r t) ∧ py - (cy + zR r t) ≤ 16))
 (hC : norm C = norm (t + g * 32400000 + m)) (hm : -20000 ≤ m ∧ m ≤ 20000) (hT : 92 ≤ T) (hT8 : T ≤ 6000000)
 (hx : -(9 * 1073741824 + 4194304 * T) ≤ 1073741824 * (qx - px) - T * qV C ∧ 1073741824 * (qx - px) - T * qV C ≤ 9 * 1073741824 + 4194304 * T)
 (hy : -(9 * 1073741824 + 4194304 * T) ≤ 1073741824 * (qy - py) - T * qX C ∧ 1073741824 * (qy - py) - T * qX C ≤ 9 * 1073741824 + 4194304 * T) :
 ¬ (cx = qx ∧ cy = qy) ∧ ∃ d : Int, norm (t + g * d) = norm (qZ (qx - cx) (qy - cy)) ∧ 0 < d ∧ d ≤ 37000000 := by
 have hl := Lg (t := t) hm
 obtain ⟨s1, s2⟩ := Lh hg hC
 rw [s1] at hx
 rw [s2] at hy
 have hu := iF t
 have bS := kJ t
 have bC := uj t
 obtain ⟨wx, hwx⟩ : ∃ wx, wx = qx - cx - zQ r t := ⟨_, rfl⟩
 obtain ⟨wy, hwy⟩ : ∃ wy, wy = qy - cy - zR r t := ⟨_, rfl⟩
 obtain ⟨rx, hrx⟩ : ∃ rx, rx = zQ r t := ⟨_, rfl⟩
 obtain ⟨ry, hry⟩ : ∃ ry, ry = zR r t := ⟨_, rfl⟩
 have r1 := zO (r * qV t)
 have r2 := zO (r * qX t)
 rw [show jG 2 (r * qV t) 1073741824 = rx from hrx.symm] at r1
 rw [show jG 2 (r * qX t) 1073741824 = ry from hry.symm] at r2
 rw [← hrx] at hwx hp
 rw [← hry] at hwy hp
 obtain ⟨n1, hn1⟩ : ∃ n1, n1 = qX (t + m) - qX t := ⟨_, rfl⟩
 obtain ⟨n2, hn2⟩ : ∃ n2, n2 = qV (t + m) - qV t := ⟨_, rfl⟩
 rw [show qX (t + m) = qX t + n1 by omega] at hx
 rw [show qV (t + m) = qV t + n2 by omega] at hy
 have m1 := zj (x := T) (X := T) (v := n1) (V := 1680000) ⟨by omega, by omega⟩ (by omega)
 have m2 := zj (x := T) (X := T) (v := n2) (V := 1680000) ⟨by omega, by omega⟩ (by omega)
 obtain ⟨u1, hu1⟩ : ∃ u1, u1 = 1073741824 * wx - T * (g * qX t) := ⟨_, rfl⟩
 obtain ⟨u2, hu2⟩ : ∃ u2, u2 = 1073741824 * wy + T * (g * qV t) := ⟨_, rfl⟩
 have x1 : 1073741824 * (qx - px) - T * (g * (qX t + n1)) = u1 - 1073741824 * (px - (cx + rx)) - g * (T * n1) := by subst hu1 hwx; grind
 have x2 : 1073741824 * (qy - py) - T * (-(g * (qV t + n2))) = u2 - 1073741824 * (py - (cy + ry)) + g * (T * n2) := by subst hu2 hwy; grind
 rw [x1] at hx
 rw [x2] at hy
 have b1 : -(25 * 1073741824 + 5874304 * T) ≤ u1 ∧ u1 ≤ 25 * 1073741824 + 5874304 * T := by rcases hg with rfl | rfl <;> omega
 have b2 : -(25 * 1073741824 + 5874304 * T) ≤ u2 ∧ u2 ≤ 25 * 1073741824 + 5874304 * T := by rcases hg with rfl | rfl <;> omega
 have k1 := zj b1 bC
 have k2 := zj b2 bS
 have k3 := zj b1 bS
 have k4 := zj b2 bC
 have hN := Int.mul_le_mul_of_nonneg_left (show 1152921488500719616 ≤ qV t * qV t + qX t * qX t by omega) (show (0 : Int) ≤ T by omega)
 have iW : 1073741824 * (g * (wx * qX t - wy * qV t)) = T * (qV t * qV t + qX t * qX t) + g * (u1 * qX t - u2 * qV t) := by subst hu1 hu2; rcases hg with rfl | rfl <;> grind
 have iV : 1073741824 * (wx * qV t + wy * qX t) = u1 * qV t + u2 * qX t := by subst hu1 hu2; grind
 generalize T * (qV t * qV t + qX t * qX t) = TN at *
 have hW : 42949672960 ≤ g * (wx * qX t - wy * qV t) := by rcases hg with rfl | rfl <;> omega
 have hV : 0 ≤ 32 * (1000000000 * r + (wx * qV t + wy * qX t)) + g * (wx * qX t - wy * qV t) := by rcases hg with rfl | rfl <;> omega
 have hne : ¬ (cx = qx ∧ cy = qy) := by
  rintro ⟨rfl, rfl⟩
  have e1 : wx = -rx := by omega
  have e2 : wy = -ry := by omega
  obtain ⟨ε1, hε1⟩ : ∃ e, e = rx * 1073741824 - r * qV t := ⟨_, rfl⟩
  obtain ⟨ε2, hε2⟩ : ∃ e, e = ry * 1073741824 - r * qX t := ⟨_, rfl⟩
  have z1 := zj (x := ε1) (X := 536870912) (by omega) bC
  have z2 := zj (x := ε2) (X := 536870912) (by omega) bS
  have z3 : 1073741824 * (wx * qX t - wy * qV t) = ε2 * qV t - ε1 * qX t := by subst e1 e2 hε1 hε2; grind
  rcases hg with rfl | rfl <;> omega
 have hd : qJ cx cy qx qy ≠ 0 := fun h => by
  have z := KJ vc vq (by omega)
  exact hne ⟨z.1.symm, z.2.symm⟩
 obtain ⟨a0, a1, a2, a3, a4⟩ := YE vc vq hd
 exact ⟨hne, AK a0 a3 a4 a1 a2 (by rw [← hrx]; omega) (by rw [← hry]; omega) hg (by omega) hr8 hW hV⟩
theorem AP {f s D a g : Int} (h : norm (f + g * a) = norm D) (ha : 0 ≤ a ∧ a < 129600000) (hg : (0 ≤ s ∧ g = 1) ∨ (s < 0 ∧ g = -1)) : kK (decide (0 ≤ s)) f D = a := by
 rcases hg with ⟨h1, rfl⟩ | ⟨h1, rfl⟩
 · rw [decide_eq_true h1]
   unfold kK norm at *
   simp only [if_true]
   omega
 · rw [decide_eq_false (by omega)]
   unfold kK norm at *
   simp only [Bool.false_eq_true, if_false]
   omega
theorem Aq {e : El} {qx qy a g : Int} (hc : e.c = true) (va : qf e.ax e.ay = true) (vb : qf e.bx e.b_y = true) (vq : qf qx qy = true) (hB : yX e.cx e.cy e.r e.f e.s = true) (hne : ¬ (e.cx = qx ∧ e.cy = qy))
 (h : norm (e.f + g * a) = norm (qZ (qx - e.cx) (qy - e.cy))) (hg : (0 ≤ e.s ∧ g = 1) ∨ (e.s < 0 ∧ g = -1)) (h1 : (e.s.natAbs : Int) ≤ a) (h2 : a < e.s.natAbs + (129600000 - e.s.natAbs) / 2) : e.over qx qy = true := by
 have vc := ((vF _ _ _ _ _).1 hB).1
 have hco : qF e.cx e.cy qx qy = (qZ (qx - e.cx) (qy - e.cy), 0) := by
  unfold qF
  rw [vc, vq, if_neg (by simp), if_neg hne]
 have hb := (vF _ _ _ _ _).1 hB
 unfold El.over Ed
 rw [hco, AP h ⟨by omega, by omega⟩ hg, va, vb, vq, hB, hc]
 rw [if_neg (by simp), if_pos rfl, if_neg (by simp; intro h; exact fun h' => hne ⟨h.symm, h'.symm⟩)]
 exact decide_eq_true ⟨h1, h2⟩
theorem EP {x y r m d l cx cy bx b_y sx sy ex ey f : Int} (hr : 1 ≤ r) (hr8 : r ≤ 8000000) (hm : m ≤ 6000000)
 (hd : d = zw x y) (hl : l = zT r d) (hd5 : d.natAbs ≤ 54000000) (hlm : l ≤ m)
 (esx : sx = bx + zQ l (zg x 64800000)) (esy : sy = b_y + zR l (zg x 64800000)) (eex : ex = bx + zQ l y) (eey : ey = b_y + zR l y)
 (ecx : cx = sx + zQ r (zg x (zr d 32400000))) (ecy : cy = sy + zR r (zg x (zr d 32400000))) (hf : f = zg x (-zr d 32400000)) :
 Ends (cx + zQ r (f + d)) (cy + zR r (f + d)) ex ey := by
 have hdb := ZX x y
 rw [← hd] at hdb
 have hdn : norm (x + d) = norm y := by rw [hd]; unfold zw norm; omega
 have hs := Vy (a := zg x 64800000) (x := x) (by rw [jD]; unfold norm; omega)
 have hlsp := Zc (r := r) (d := d) (by omega) hd5
 rw [← hl] at hlsp
 have er := bW (r := r) (a := f + d) (b := (f + d) % 129600000) (by unfold norm; omega)
 rw [er.1, er.2]
 obtain ⟨u, hu⟩ : ∃ u, u = cx + zQ r ((f + d) % 129600000) := ⟨_, rfl⟩
 obtain ⟨v, hv⟩ : ∃ v, v = cy + zR r ((f + d) % 129600000) := ⟨_, rfl⟩
 rw [← hu, ← hv]
 clear er
 unfold Ends
 unfold zQ at esx eex ecx hu
 unfold zR at esy eey ecy hv
 rw [hs.1] at esx
 rw [hs.2] at esy
 have hl8 : l ≤ 6000000 := by omega
 clear hs
 rcases Zd d with ⟨hd0, hq⟩ | ⟨hd0, hq⟩
 · rw [hq] at hf ecx ecy
   have hdd : (d.natAbs : Int) = d := by omega
   have c1 := JE (a := zg x 32400000) (x := x) (by rw [jD]; unfold norm; omega)
   have c2 := GI (a := (f + d) % 129600000) (x := y) (by rw [hf, jD]; unfold norm at hdn ⊢; clear hf; omega)
   rw [c1.1] at ecx
   rw [c1.2] at ecy
   rw [c2.1] at hu
   rw [c2.2] at hv
   rw [hdd] at hlsp
   have hCh := bk (h := d / 2) (by omega) (by omega)
   have H := cX (x := x) (y := y) (r := r) (l := l) (d := d) (by omega) hr8 hd0 (by omega) hlsp.2.2 hl8 hdn hlsp.1 hlsp.2.1 (by omega)
   exact ⟨YD H.1 esx ecx hu eex, YD H.2 esy ecy hv eey⟩
 · rw [hq] at hf ecx ecy
   rw [Int.neg_neg] at hf
   have hdd : (d.natAbs : Int) = -d := by omega
   have c1 := GI (a := zg x (-32400000)) (x := x) (by rw [jD]; unfold norm; omega)
   have c2 := JE (a := (f + d) % 129600000) (x := y) (by rw [hf, jD]; unfold norm at hdn ⊢; clear hf; omega)
   rw [c1.1] at ecx
   rw [c1.2] at ecy
   rw [c2.1] at hu
   rw [c2.2] at hv
   rw [hdd] at hlsp
   have hCh := bk (h := -d / 2) (by omega) (by omega)
   have H := aj (x := x) (y := y) (r := r) (l := l) (d := -d) (by omega) hr8 (by omega) (by omega) hlsp.2.2 hl8 (by rw [show x - -d = x + d from by omega]; exact hdn) hlsp.1 hlsp.2.1 (by omega)
   exact ⟨YD H.1 esx ecx hu eex, YD H.2 esy ecy hv eey⟩
theorem Ec {ax ay bx b_y cx cy r v0 v1 v2 v3 v4 v5 v6 v7 v8 v9 : Int} (h : vV ax ay bx b_y cx cy r = ([v0, v1, v2, v3, v4, v5, v6, v7, v8, v9], 0)) :
 ∃ g : Int, ((0 ≤ v4 ∧ g = 1) ∨ (v4 < 0 ∧ g = -1)) ∧ norm (qZ (cx - bx) (cy - b_y)) = norm (v3 + v4 + g * 32400000) ∧ norm (qZ (bx - ax) (b_y - ay)) = norm (v3 + g * 32400000) ∧
  Ends (v0 + zQ v2 (v3 + v4)) (v1 + zR v2 (v3 + v4)) v7 v8 ∧ v9 = zT v2 v4 ∧ v2 = r := by
 have h0 : (vV ax ay bx b_y cx cy r).2 = 0 := by rw [h]
 have h := h.symm
 unfold vV at h h0
 by_cases h1 : (!(qf ax ay && qf bx b_y && qf cx cy)) = true
 · rw [if_pos h1] at h0; exact (GG (by decide) h0).elim
 rw [if_neg h1] at h h0
 by_cases h2 : r < 1 ∨ r > 8000000
 · rw [if_pos h2] at h0; exact (GG (by decide) h0).elim
 rw [if_neg h2] at h h0
 by_cases h3 : (ax = bx ∧ ay = b_y) ∨ (bx = cx ∧ b_y = cy)
 · rw [if_pos h3] at h0; exact (GG (by decide) h0).elim
 rw [if_neg h3] at h h0
 obtain ⟨g1, g2, g3, X, Y, sx, sy, ex, ey, g4, q1, q2, q3, q4, q5, q6, q7, q8, q9⟩ := GH h0
 rw [← h] at g4
 simp only [List.cons.injEq, and_true] at g4
 obtain ⟨rfl, rfl, rfl, rfl, rfl, rfl, rfl, rfl, rfl, rfl⟩ := g4
 have hm := kh ax ay bx b_y
 have R := EP (r := v2) (m := qJ ax ay bx b_y) (by omega) (by omega) (by omega) rfl rfl g1 g2 q1 q2 q3 q4 q5 q6 rfl
 obtain ⟨x, hx⟩ : ∃ x, x = qZ (bx - ax) (b_y - ay) := ⟨_, rfl⟩
 obtain ⟨y, hy⟩ : ∃ y, y = qZ (cx - bx) (cy - b_y) := ⟨_, rfl⟩
 rw [← hx, ← hy] at R ⊢
 refine ⟨if zw x y < 0 then -1 else 1, ?_, ?_, ?_, R, rfl, rfl⟩
 · split <;> omega
 · rcases Zd (zw x y) with ⟨e1, e2⟩ | ⟨e1, e2⟩
   · rw [if_neg (by omega), e2, jD]
     clear R q1 q2 q3 q4 q5 q6 e2 hx hy h h0
     unfold zw norm at *
     omega
   · rw [if_pos e1, e2, jD]
     clear R q1 q2 q3 q4 q5 q6 e2 hx hy h h0
     unfold zw norm at *
     omega
 · rcases Zd (zw x y) with ⟨e1, e2⟩ | ⟨e1, e2⟩
   · rw [if_neg (by omega), e2, jD]
     unfold norm
     omega
   · rw [if_pos e1, e2, jD]
     unfold norm
     omega
def EQ (px py C qx qy T k sl : Int) : Prop := (-(k * 1073741824 + sl * T) ≤ 1073741824 * (qx - px) - T * qV C ∧ 1073741824 * (qx - px) - T * qV C ≤ k * 1073741824 + sl * T) ∧
 (-(k * 1073741824 + sl * T) ≤ 1073741824 * (qy - py) - T * qX C ∧ 1073741824 * (qy - py) - T * qX C ≤ k * 1073741824 + sl * T)
def Ek (a : El) (px py C : Int) : Prop := ∀ qx qy T, qf qx qy = true → 92 ≤ T → T ≤ 6000000 → EQ px py C qx qy T 9 4194304 → a.over qx qy = true
def Em (a : El) (px py C : Int) : Prop := ∀ qx qy T, qf qx qy = true → 92 ≤ T → T ≤ 6000000 → EQ px py C qx qy T 5 0 → a.over qx qy = true
theorem Lc {a : El} {px py C : Int} (h : Ek a px py C) : Em a px py C := fun qx qy T hv h1 h2 h3 => h qx qy T hv h1 h2 (by unfold EQ at *; omega)
def AQ (els : List El) : Prop := (∃ (i : Nat) (x : El), 1 ≤ i ∧ els[i]? = some x ∧ x.c = false ∧ x.L < 100) ∨ (∃ (i : Nat) (a b c : El), els[i]? = some a ∧ els[i + 1]? = some b ∧ els[i + 2]? = some c ∧ a.c = true ∧ b.c = true ∧ c.c = true)
theorem xe {l r : List El} {i : Nat} {x : El} (h : l[i]? = some x) : (l ++ r)[i]? = some x := by
 rw [List.getElem?_append_left (List.getElem?_eq_some_iff.1 h).1]; exact h
theorem wz {l r : List El} (h : AQ l) : AQ (l ++ r) := by
 rcases h with ⟨i, x, h1, h2, h3⟩ | ⟨i, a, b, c, h1, h2, h3, h4⟩
 · exact .inl ⟨i, x, h1, xe h2, h3⟩
 · exact .inr ⟨i, a, b, c, xe h1, xe h2, xe h3, h4⟩
theorem za {l : List El} {x y : El} {t : Nat} (h : (l ++ [x])[t]? = some y) : l[t]? = some y ∨ (t = l.length ∧ y = x) := by
 have ht := (List.getElem?_eq_some_iff.1 h).1
 rw [List.length_append, List.length_singleton] at ht
 by_cases hlt : t < l.length
 · rw [List.getElem?_append_left hlt] at h; exact .inl h
 · obtain rfl : t = l.length := by omega
   rw [List.getElem?_concat_length] at h
   injection h with h
   exact .inr ⟨rfl, h.symm⟩
theorem MY {l : List El} {a : El} {t : Nat} (h : l[t]? = some a) (ht : l.length = t + 1) : l.getLast? = some a := by
 rw [List.getLast?_eq_getElem?, ht]; exact h
structure Good (els : List El) (px py C : Int) : Prop where
 one : ∀ (t : Nat) (a x : El), els[t]? = some a → els[t + 1]? = some x → a.c = true → x.c = false → a.over x.bx x.b_y = true
 two : ∀ (t : Nat) (a b x : El), els[t]? = some a → els[t + 1]? = some b → els[t + 2]? = some x → a.c = true → b.c = true → x.c = false → a.over x.bx x.b_y = true ∨ a.over b.bx b.b_y = true
 last : ∀ a, els.getLast? = some a → a.c = true → Ek a px py C
 pair : ∀ (t : Nat) (a b : El), els[t]? = some a → els[t + 1]? = some b → els.length = t + 2 → a.c = true → b.c = true → Em a px py C ∨ a.over b.bx b.b_y = true
def CO (els : List El) (px py C : Int) : Prop := AQ els ∨ Good els px py C
def xE (els : List El) : Prop := ∀ a, els.getLast? = some a → a.c = false
theorem ED (px py C : Int) : Good [] px py C := ⟨fun t a x h => by simp at h, fun t a b x h => by simp at h, fun a h => by simp at h, fun t a b h => by simp at h⟩
theorem Aj {els : List El} {px py C px' py' C' : Int} (h : Good els px py C) (hl : xE els) : Good els px' py' C' :=
 ⟨h.one, h.two, fun a ha hc => (by have := hl a ha; rw [hc] at this; cases this), fun t a b h1 h2 h3 h4 h5 => (by
  have := hl b (MY h2 (by omega)); rw [h5] at this; cases this)⟩
theorem Af {els : List El} {x : El} {px py C px' py' C' : Int} (h : Good els px py C) (hx : x.c = false) (ho : ∀ a, els.getLast? = some a → a.c = true → a.over x.bx x.b_y = true)
 (hp : ∀ (t : Nat) (a b : El), els[t]? = some a → els[t + 1]? = some b → els.length = t + 2 → a.c = true → b.c = true → a.over x.bx x.b_y = true ∨ a.over b.bx b.b_y = true) : Good (els ++ [x]) px' py' C' := by
 refine ⟨fun t a y h1 h2 h3 h4 => ?_, fun t a b y h1 h2 h3 h4 h5 h6 => ?_, fun a h1 h2 => ?_, fun t a b h1 h2 h3 h4 h5 => ?_⟩
 · rcases za h2 with h2 | ⟨e, rfl⟩
   · rcases za h1 with h1 | ⟨e, _⟩
     · exact h.one t a y h1 h2 h3 h4
     · have := (List.getElem?_eq_some_iff.1 h2).1; omega
   · rcases za h1 with h1 | ⟨e', _⟩
     · exact ho a (MY h1 (by omega)) h3
     · omega
 · rcases za h3 with h3 | ⟨e, rfl⟩
   · have hl := (List.getElem?_eq_some_iff.1 h3).1
     rcases za h1 with h1 | ⟨e, _⟩
     · rcases za h2 with h2 | ⟨e, _⟩
       · exact h.two t a b y h1 h2 h3 h4 h5 h6
       · omega
     · omega
   · rcases za h1 with h1 | ⟨e', _⟩
     · rcases za h2 with h2 | ⟨e', _⟩
       · exact hp t a b h1 h2 (by omega) h4 h5
       · omega
     · omega
 · rw [List.getLast?_concat] at h1
   injection h1 with h1
   subst h1
   rw [hx] at h2; cases h2
 · rcases za h2 with h2 | ⟨e, rfl⟩
   · have := (List.getElem?_eq_some_iff.1 h2).1
     rw [List.length_append, List.length_singleton] at h3
     omega
   · rw [hx] at h5; cases h5
theorem EE {els : List El} {x : El} {px py C px' py' C' : Int} (h : Good els px py C) (hx : x.c = true) (hl : Ek x px' py' C')
 (hp : ∀ a, els.getLast? = some a → a.c = true → Em a px' py' C' ∨ a.over x.bx x.b_y = true) : Good (els ++ [x]) px' py' C' := by
 refine ⟨fun t a y h1 h2 h3 h4 => ?_, fun t a b y h1 h2 h3 h4 h5 h6 => ?_, fun a h1 h2 => ?_, fun t a b h1 h2 h3 h4 h5 => ?_⟩
 · rcases za h2 with h2 | ⟨e, rfl⟩
   · rcases za h1 with h1 | ⟨e, _⟩
     · exact h.one t a y h1 h2 h3 h4
     · have := (List.getElem?_eq_some_iff.1 h2).1; omega
   · rw [hx] at h4; cases h4
 · rcases za h3 with h3 | ⟨e, rfl⟩
   · have hl := (List.getElem?_eq_some_iff.1 h3).1
     rcases za h1 with h1 | ⟨e, _⟩
     · rcases za h2 with h2 | ⟨e, _⟩
       · exact h.two t a b y h1 h2 h3 h4 h5 h6
       · omega
     · omega
   · rw [hx] at h6; cases h6
 · rw [List.getLast?_concat] at h1
   injection h1 with h1
   subst h1
   exact hl
 · rw [List.length_append, List.length_singleton] at h3
   rcases za h2 with h2 | ⟨e, rfl⟩
   · have := (List.getElem?_eq_some_iff.1 h2).1
     omega
   · rcases za h1 with h1 | ⟨e', _⟩
     · exact hp a (MY h1 (by omega)) h4
     · omega
theorem Eo {els : List El} {a x y : El} (h : els.getLast? = some a) (ha : a.c = true) (hx : x.c = true) (hy : y.c = true) : AQ (els ++ [x] ++ [y]) := by
 rw [List.getLast?_eq_getElem?] at h
 have hl := (List.getElem?_eq_some_iff.1 h).1
 refine .inr ⟨els.length - 1, a, x, y, xe (xe h), xe ?_, ?_, ha, hx, hy⟩
 · rw [show els.length - 1 + 1 = els.length by omega, List.getElem?_concat_length]
 · rw [show els.length - 1 + 2 = (els ++ [x]).length by rw [List.length_append, List.length_singleton]; omega, List.getElem?_concat_length]
theorem EF {px py C qx qy T : Int} (hp : qf px py = true) (hq : qf qx qy = true) (hT : 0 ≤ T) (h : EQ px py C qx qy T 5 0) (hd : 100 ≤ qJ px py qx qy) : 92 ≤ T := by
 rcases Int.lt_or_le T 92 with hlt | hle
 · exfalso
   obtain ⟨a0, a1, a2, a3, a4⟩ := YE hp hq (by omega)
   have hu := iF C
   have bS := kJ C
   have bC := uj C
   unfold EQ at h
   generalize qV C = S at *
   generalize qX C = K at *
   generalize hx : qx - px = x at *
   generalize hy : qy - py = y at *
   obtain ⟨e1, he1⟩ : ∃ e1, e1 = 1073741824 * x - T * S := ⟨_, rfl⟩
   obtain ⟨e2, he2⟩ : ∃ e2, e2 = 1073741824 * y - T * K := ⟨_, rfl⟩
   rw [← he1, ← he2] at h
   have b1 : -5368709120 ≤ e1 ∧ e1 ≤ 5368709120 := by omega
   have b2 : -5368709120 ≤ e2 ∧ e2 ≤ 5368709120 := by omega
   have s1 := Yh (a := e1) (m := 5368709120) b1.1 b1.2
   have s2 := Yh (a := e2) (m := 5368709120) b2.1 b2.2
   -- the square of the distance
   have id : 1073741824 * 1073741824 * (x * x + y * y) = T * T * (S * S + K * K) + 2 * (T * (S * e1 + K * e2)) + (e1 * e1 + e2 * e2) := by
    have ex : 1073741824 * x = T * S + e1 := by omega
    have ey : 1073741824 * y = T * K + e2 := by omega
    have z : 1073741824 * 1073741824 * (x * x + y * y) = (1073741824 * x) * (1073741824 * x) + (1073741824 * y) * (1073741824 * y) := by grind
    rw [z, ex, ey]
    grind
   have lag : (S * e1 + K * e2) * (S * e1 + K * e2) ≤ (S * S + K * K) * (e1 * e1 + e2 * e2) := by
    have z : (S * S + K * K) * (e1 * e1 + e2 * e2) - (S * e1 + K * e2) * (S * e1 + K * e2) = (S * e2 - K * e1) * (S * e2 - K * e1) := by grind
    have := zx (S * e2 - K * e1)
    omega
   have m1 : (S * S + K * K) * (e1 * e1 + e2 * e2) ≤ 1152921520713023656 * (2 * (5368709120 * 5368709120)) := Int.mul_le_mul (by omega) (by omega) (by have := zx e1; have := zx e2; omega) (by decide)
   have hD : S * e1 + K * e2 ≤ 8200000000000000000 := by
    apply gm (by decide)
    have : (8200000000000000000 : Int) * 8200000000000000000 = 67240000000000000000000000000000000000 := by decide
    rw [this]
    have e : (1152921520713023656 : Int) * (2 * (5368709120 * 5368709120)) ≤ 67240000000000000000000000000000000000 := by decide
    omega
   have t1 := Int.mul_le_mul_of_nonneg_left hD hT
   have t2 : T * 8200000000000000000 ≤ 91 * 8200000000000000000 := Int.mul_le_mul_of_nonneg_right (by omega) (by decide)
   have tt : T * T ≤ 8281 := Int.mul_le_mul (show T ≤ 91 by omega) (show T ≤ 91 by omega) hT (by decide)
   have t3 : T * T * (S * S + K * K) ≤ 8281 * 1152921520713023656 := Int.mul_le_mul tt (by omega) (by have := zx S; have := zx K; omega) (by decide)
   have q1 : (100 : Int) * 100 ≤ qJ px py qx qy * qJ px py qx qy := Int.mul_le_mul hd hd (by decide) (by omega)
   have f1 : 10000 ≤ x * x + y * y := by omega
   generalize x * x + y * y = Z at *
   generalize T * T * (S * S + K * K) = Z1 at *
   generalize T * (S * e1 + K * e2) = Z2 at *
   generalize e1 * e1 = Z3 at *
   generalize e2 * e2 = Z4 at *
   clear a0 a1 a2 a3 a4 lag m1 q1 hu tt h b1 b2
   omega
 · exact hle
def Ad : List El → List Int
 | [] => []
 | [x] => [x.n]
 | x :: y :: r => if y.n = x.n then Ad (y :: r) else x.n :: Ad (y :: r)
theorem Ee {l : List El} {k : Nat} {x : El} (hx : l[k]? = some x) (h : l[k + 1]? = none) : Ad (l.drop k) = [x.n] := by
 obtain ⟨h1, h2⟩ := List.getElem?_eq_some_iff.1 hx
 rw [List.drop_eq_getElem_cons h1, h2, List.drop_eq_nil_of_le (by simpa using h)]
 rfl
theorem EI {l : List El} {k : Nat} {x y : El} (hx : l[k]? = some x) (hy : l[k + 1]? = some y) : Ad (l.drop k) = if y.n = x.n then Ad (l.drop (k + 1)) else x.n :: Ad (l.drop (k + 1)) := by
 obtain ⟨h1, h2⟩ := List.getElem?_eq_some_iff.1 hx
 obtain ⟨h3, h4⟩ := List.getElem?_eq_some_iff.1 hy
 rw [List.drop_eq_getElem_cons h1, h2, List.drop_eq_getElem_cons h3, h4]
 rfl
theorem Ag {l : List El} (hg : ∀ x ∈ l, x.g = false) (px py : Int) : ∀ (m k : Nat) (x : El), l[k]? = some x → l.length ≤ k + m →
 ∃ (k' : Nat) (d : Bool) (ts : List Int) (y : El), stepG l px py m k x.n [] = (k', y.n, d, ts) ∧ k ≤ k' ∧ l[k']? = some y ∧
  (d = true → ts = Ad (l.drop k)) ∧ (d = false → ts ++ Ad (l.drop k') = Ad (l.drop k) ∧ y.over px py = false)
 | 0, k, x, hx, hm => by
   have := (List.getElem?_eq_some_iff.1 hx).1
   omega
 | m + 1, k, x, hx, hm => by
   by_cases ho : x.over px py = false
   · exact ⟨k, false, [], x, AU hx ho, Nat.le_refl _, hx, (fun h => by cases h), fun _ => ⟨rfl, ho⟩⟩
   have ho : x.over px py = true := by simpa using ho
   rcases hy : l[k + 1]? with _ | y
   · refine ⟨k, true, [x.n], x, Ep hx ho (by unfold EG; rw [hy]), Nat.le_refl _, hx, fun _ => (Ee hx hy).symm, fun h => by cases h⟩
   · have hyg := hg y (List.mem_of_getElem? hy)
     obtain ⟨k', d, ts, z, e1, e2, e3, e4, e5⟩ := Ag hg px py m (k + 1) y hy (by omega)
     rw [EH hx ho hy hyg, EI hx hy]
     by_cases hn : y.n = x.n
     · rw [if_pos hn, if_pos hn, ← hn]
       exact ⟨k', d, ts, z, e1, by omega, e3, e4, e5⟩
     · rw [if_neg hn, if_neg hn, MX, e1]
       refine ⟨k', d, x.n :: ts, z, rfl, by omega, e3, fun h => by rw [e4 h], fun h => ⟨?_, (e5 h).2⟩⟩
       rw [List.cons_append, (e5 h).1]
abbrev Li := Int × Int × Bool × List Int
def ye (l : List El) (len : Int) : List El → Li → Li
 | [], S => S
 | x :: r, S => ye l len r ((zp l len S.1 S.2.1 S.2.2.1 x.bx x.b_y).1, (zp l len S.1 S.2.1 S.2.2.1 x.bx x.b_y).2.1, (zp l len S.1 S.2.1 S.2.2.1 x.bx x.b_y).2.2.1, S.2.2.2 ++ (zp l len S.1 S.2.1 S.2.2.1 x.bx x.b_y).2.2.2)
theorem Ak (l : List El) (len : Int) : ∀ (a : List El) (x : El) (S : Li), ye l len (a ++ [x]) S = ((zp l len (ye l len a S).1 (ye l len a S).2.1 (ye l len a S).2.2.1 x.bx x.b_y).1, (zp l len (ye l len a S).1 (ye l len a S).2.1 (ye l len a S).2.2.1 x.bx x.b_y).2.1, (zp l len (ye l len a S).1 (ye l len a S).2.1 (ye l len a S).2.2.1 x.bx x.b_y).2.2.1, (ye l len a S).2.2.2 ++ (zp l len (ye l len a S).1 (ye l len a S).2.1 (ye l len a S).2.2.1 x.bx x.b_y).2.2.2)
 | [], x, S => rfl
 | y :: a, x, S => by
   rw [List.cons_append, ye, ye]
   exact Ak l len a x _
def Av (l : List El) (i : Nat) (S : Li) : Prop :=
 (S.2.2.1 = true ∧ S.2.2.2 = Ad l) ∨ (S.2.2.1 = false ∧ ∃ (k : Nat) (y : El), S.1 = (k : Int) ∧ l[k]? = some y ∧ S.2.1 = y.n ∧ S.2.2.2 ++ Ad (l.drop k) = Ad l ∧
   (∀ (t : Nat) (x : El), t < i → l[t]? = some x → x.c = false → t < k) ∧ (∀ (t : Nat) (x : El), i = t + 1 → l[t]? = some x → y.over x.bx x.b_y = false))
structure Passes (l : List El) : Prop where
 line : ∀ (t : Nat) (x : El), l[t]? = some x → x.c = false → x.over x.bx x.b_y = true
 one : ∀ (t : Nat) (a x : El), l[t]? = some a → l[t + 1]? = some x → a.c = true → x.c = false → a.over x.bx x.b_y = true
 two : ∀ (t : Nat) (a b x : El), l[t]? = some a → l[t + 1]? = some b → l[t + 2]? = some x → a.c = true → b.c = true → x.c = false → a.over x.bx x.b_y = true ∨ a.over b.bx b.b_y = true
 three : ∀ (t : Nat) (a b c : El), l[t]? = some a → l[t + 1]? = some b → l[t + 2]? = some c → a.c = true → b.c = true → c.c = true → False
 last : ∀ (t : Nat) (x : El), l[t]? = some x → l[t + 1]? = none → x.c = false
theorem EJ {l : List El} {len : Int} (hc : vX l len = 0) (hv : ∀ x ∈ l, qf x.bx x.b_y = true) (hg : ∀ x ∈ l, x.g = false) (hp : Passes l) {i : Nat} {x : El} (hx : l[i]? = some x) {S : Li} (h : Av l i S) :
 Av l (i + 1) ((zp l len S.1 S.2.1 S.2.2.1 x.bx x.b_y).1, (zp l len S.1 S.2.1 S.2.2.1 x.bx x.b_y).2.1, (zp l len S.1 S.2.1 S.2.2.1 x.bx x.b_y).2.2.1, S.2.2.2 ++ (zp l len S.1 S.2.1 S.2.2.1 x.bx x.b_y).2.2.2) := by
 obtain ⟨el, en, dn, acc⟩ := S
 have hvx := hv x (List.mem_of_getElem? hx)
 rcases h with ⟨h1, h2⟩ | ⟨h1, k, y, h2, h3, h4, h5, h6, h7⟩
 · simp only at h1 h2
   subst h1
   have e : zp l len el en true x.bx x.b_y = (el, en, true, []) := by
    unfold zp
    rw [if_neg (by simp [hc]), if_neg (by simp [hvx]), if_pos rfl]
   rw [e]
   exact .inl ⟨rfl, by simpa using h2⟩
 · simp only at h1 h2 h4 h5
   subst h1 h2 h4
   have hk := (List.getElem?_eq_some_iff.1 h3).1
   obtain ⟨k', d, ts, z, e1, e2, e3, e4, e5⟩ := Ag hg x.bx x.b_y (l.length - k) k y h3 (by omega)
   have e : zp l len (k : Int) y.n false x.bx x.b_y = ((k' : Int), z.n, d, ts) := by
    unfold zp
    rw [if_neg (by simp [hc]), if_neg (by simp [hvx]), if_neg (by simp), if_neg (by omega)]
    simp only [Int.toNat_natCast, h3]
    rw [e1]
   rw [e]
   rcases d with _ | _
   · obtain ⟨a1, a2⟩ := e5 rfl
     refine .inr ⟨rfl, k', z, rfl, e3, rfl, ?_, ?_, ?_⟩
     · show (acc ++ ts) ++ _ = _
       rw [List.append_assoc, a1, h5]
     · intro t u ht hu huc
       by_cases hti : t < i
       · exact Nat.lt_of_lt_of_le (h6 t u hti hu huc) e2
       · obtain rfl : t = i := by omega
         rw [hx] at hu
         injection hu with hu
         subst hu
         -- the element of the progress is none of those up to the line
         by_cases hkt : t < k'
         · exact hkt
         exfalso
         by_cases q0 : k' = t
         · subst q0
           rw [hx] at e3
           injection e3 with e3
           subst e3
           rw [hp.line k' x hx huc] at a2
           cases a2
         -- k' < t: all from k' up to t - 1 are arcs
         have arcs : ∀ (j : Nat) (w : El), k' ≤ j → j < t → l[j]? = some w → w.c = true := by
          intro j w h8 h9 hw
          rcases hwc : w.c with _ | _
          · have := h6 j w h9 hw hwc
            omega
          · rfl
         have hzc := arcs k' z (Nat.le_refl _) (by omega) e3
         by_cases q1 : t = k' + 1
         · subst q1
           rw [hp.one k' z x e3 hx hzc huc] at a2
           cases a2
         obtain ⟨b, hb⟩ : ∃ b, l[k' + 1]? = some b := ⟨_, List.getElem?_eq_getElem (by have := (List.getElem?_eq_some_iff.1 hx).1; omega)⟩
         have hbc := arcs (k' + 1) b (by omega) (by omega) hb
         by_cases q2 : t = k' + 2
         · subst q2
           rcases hp.two k' z b x e3 hb hx hzc hbc huc with h | h
           · rw [h] at a2; cases a2
           · -- at the step ahead of this one
             have hkk : k = k' := by
              by_cases hlt : k < k'
              · -- the element at k is an arc, and so three arcs stand in a row
                exfalso
                obtain ⟨w, hw⟩ : ∃ w, l[k' - 1]? = some w := ⟨_, List.getElem?_eq_getElem (by have := (List.getElem?_eq_some_iff.1 e3).1; omega)⟩
                have hwc : w.c = true := by
                 rcases hwc : w.c with _ | _
                 · have := h6 (k' - 1) w (by omega) hw hwc
                   omega
                 · rfl
                exact hp.three (k' - 1) w z b hw (by rw [show k' - 1 + 1 = k' by omega]; exact e3) (by rw [show k' - 1 + 2 = k' + 1 by omega]; exact hb) hwc hzc hbc
              · omega
             subst hkk
             rw [h3] at e3
             injection e3 with e3
             subst e3
             rw [h7 (k + 1) b rfl hb] at h
             cases h
         · obtain ⟨c, hcc⟩ : ∃ c, l[k' + 2]? = some c := ⟨_, List.getElem?_eq_getElem (by have := (List.getElem?_eq_some_iff.1 hx).1; omega)⟩
           exact hp.three k' z b c e3 hb hcc hzc hbc (arcs (k' + 2) c (by omega) (by omega) hcc)
     · intro t u ht hu
       obtain rfl : t = i := by omega
       rw [hx] at hu
       injection hu with hu
       subst hu
       exact a2
   · refine .inl ⟨rfl, ?_⟩
     show acc ++ ts = _
     rw [e4 rfl, h5]
theorem AV {l : List El} {len : Int} (hc : vX l len = 0) (hv : ∀ x ∈ l, qf x.bx x.b_y = true) (hg : ∀ x ∈ l, x.g = false) (hp : Passes l) {y : El} (hy : l[0]? = some y) : ∀ i, i ≤ l.length → Av l i (ye l len (l.take i) (0, y.n, false, []))
 | 0, _ => .inr ⟨rfl, 0, y, rfl, hy, rfl, by rw [List.drop_zero]; rfl, (fun t x ht => by omega), (fun t x ht => by omega)⟩
 | i + 1, hi => by
   obtain ⟨x, hx⟩ : ∃ x, l[i]? = some x := ⟨_, List.getElem?_eq_getElem (by omega)⟩
   have h := AV hc hv hg hp hy i (by omega)
   rw [List.take_add_one, hx]
   show Av l (i + 1) (ye l len (l.take i ++ [x]) _)
   rw [Ak]
   exact EJ hc hv hg hp hx h
theorem ET {l : List El} {len : Int} (hc : vX l len = 0) (hv : ∀ x ∈ l, qf x.bx x.b_y = true) (hg : ∀ x ∈ l, x.g = false) (hp : Passes l) {y : El} (hy : l[0]? = some y) :
 (ye l len l (0, y.n, false, [])).2.2.1 = true ∧ (ye l len l (0, y.n, false, [])).2.2.2 = Ad l := by
 have h := AV hc hv hg hp hy l.length (Nat.le_refl _)
 rw [List.take_length] at h
 rcases h with h | ⟨_, k, z, _, h3, _, _, h6, _⟩
 · exact h
 · exfalso
   have hk := (List.getElem?_eq_some_iff.1 h3).1
   obtain ⟨u, hu⟩ : ∃ u, l[l.length - 1]? = some u := ⟨_, List.getElem?_eq_getElem (by omega)⟩
   have := h6 (l.length - 1) u (by omega) hu (hp.last (l.length - 1) u hu (by rw [show l.length - 1 + 1 = l.length by omega]; simp))
   omega
end Go.Proofs.YteanfgobpjdmnaaGreatDoor
