/-
  Plain law of chapter 25: a leg to a distance from a navaid ends within 100 units of this distance. No program.
-/
import Derived.Test.YtjjdojokkmfbmaaGreatDoorMLaws
import Derived.Test.YtjjdojokkmfbmaaGreatDoorMPlain
import Derived.Test.YtjjdojokkmfbmaaGreatDoorMResP
import Derived.Test.YtjjdojokkmfbmaaGreatDoorMResP2
import Derived.Test.YtjjdojokkmfbmaaGreatDoorMSeries
import Derived.ProofKit
namespace Go.Proofs.YtjjdojokkmfbmaaGreatDoor
set_option linter.unusedVariables false

/-- a number times the scale against its rounded length times the scaled root -/
theorem len_scaled {X s R k : Int} (hs : 0 < s) (hR : 0 ≤ R) (hk : 0 < k) (h1 : R * R ≤ k * k * s) (h2 : k * k * s < (R + 1) * (R + 1)) :
    -(R + lenN X s + 1) ≤ k * X - lenF X s * R ∧ k * X - lenF X s * R ≤ R + lenN X s + 1 := by
  have hN := lenN_spec X s hs
  have hc := lenF_cases X s
  generalize lenF X s = F at *
  generalize lenN X s = N at *
  have key : ∀ Y : Int, 0 ≤ Y → Y * Y = X * X → 0 ≤ k * Y - N * R ∧ k * Y - N * R ≤ R + N + 1 := by
    intro Y hY e
    rw [← e] at hN
    have u1 : N * R ≤ k * Y := by
      apply isq_le' (Int.mul_nonneg (by omega) hY)
      have a1 : N * N * (R * R) ≤ N * N * (k * k * s) := Int.mul_le_mul_of_nonneg_left h1 (sq_nonneg N)
      have a2 : k * k * (N * N * s) ≤ k * k * (Y * Y) := Int.mul_le_mul_of_nonneg_left hN.2.1 (sq_nonneg k)
      have e1 : N * R * (N * R) = N * N * (R * R) := by grind
      have e2 : k * Y * (k * Y) = k * k * (Y * Y) := by grind
      have e3 : N * N * (k * k * s) = k * k * (N * N * s) := by grind
      omega
    have u2 : k * Y < (N + 1) * (R + 1) := by
      apply isq_lt' (Int.mul_nonneg (by omega) (by omega))
      have hkk : 0 < k * k := Int.mul_pos hk hk
      have a1 : k * k * (Y * Y) < k * k * ((N + 1) * (N + 1) * s) := Int.mul_lt_mul_of_pos_left hN.2.2 hkk
      have a2 : (N + 1) * (N + 1) * (k * k * s) ≤ (N + 1) * (N + 1) * ((R + 1) * (R + 1)) := Int.mul_le_mul_of_nonneg_left (Int.le_of_lt h2) (sq_nonneg _)
      have e1 : (N + 1) * (R + 1) * ((N + 1) * (R + 1)) = (N + 1) * (N + 1) * ((R + 1) * (R + 1)) := by grind
      have e2 : k * Y * (k * Y) = k * k * (Y * Y) := by grind
      have e3 : (N + 1) * (N + 1) * (k * k * s) = k * k * ((N + 1) * (N + 1) * s) := by grind
      omega
    have e4 : (N + 1) * (R + 1) = N * R + N + R + 1 := by grind
    omega
  rcases hc with ⟨hx, rfl⟩ | ⟨hx, rfl⟩
  · have := key (-X) (by omega) (Int.neg_mul_neg X X)
    have e1 : k * -X = -(k * X) := Int.mul_neg _ _
    have e2 : -N * R = -(N * R) := Int.neg_mul _ _
    omega
  · have := key X hx rfl
    omega

/-- the frame of the line: what is rounded to the course's base -/
theorem dist_core {u1 u2 v1 v2 m1 m2 S C n A O h D s : Int}
    (hG : -(15 * 1073741824) ≤ S * S + C * C - 1152921504606846976 ∧ S * S + C * C - 1152921504606846976 ≤ 15 * 1073741824)
    (hu : (u1 * 1073741824 - 60000 * S) * (u1 * 1073741824 - 60000 * S) + (u2 * 1073741824 - 60000 * C) * (u2 * 1073741824 - 60000 * C) ≤ 2 * (536870912 * 536870912))
    (hv : (v1 * 1073741824 - n * S) * (v1 * 1073741824 - n * S) + (v2 * 1073741824 - n * C) * (v2 * 1073741824 - n * C) ≤ 2 * (536870912 * 536870912))
    (hs : s = u1 * u1 + u2 * u2) (hs1 : 59999 * 59999 ≤ s) (hs2 : s ≤ 60003 * 60003)
    (hn0 : 0 ≤ n) (hn : n ≤ 5656857) (hv1 : (n - 1) * (n - 1) ≤ v1 * v1 + v2 * v2 ∨ n = 0) (hv2 : v1 * v1 + v2 * v2 ≤ (n + 2) * (n + 2))
    (hA : A = lenF (u1 * m1 + u2 * m2) s) (hO : O = lenF (-(u1 * m2 - u2 * m1)) s) (hAb : -8000000 ≤ A ∧ A ≤ 8000000) (hOD : -D ≤ O ∧ O ≤ D) (hD : D ≤ 2000000)
    (hh0 : 0 ≤ h) (hh : h * h ≤ D * D - O * O) (hh2 : D * D - O * O < (h + 1) * (h + 1)) (hnh : n = A - h ∨ n = A + h)
    {W : Int} (hW0 : 0 ≤ W) (hW : W * W ≤ (v1 - m1) * (v1 - m1) + (v2 - m2) * (v2 - m2)) (hW2 : (v1 - m1) * (v1 - m1) + (v2 - m2) * (v2 - m2) < (W + 1) * (W + 1)) :
    W - D ≤ 90 ∧ -90 ≤ W - D := by
  have hD0 : 0 ≤ D := by omega
  -- the scaled root of s
  obtain ⟨R, hR0, hR1, hR2⟩ : ∃ R : Int, 0 ≤ R ∧ R * R ≤ 1048576 * 1048576 * s ∧ 1048576 * 1048576 * s < (R + 1) * (R + 1) := by
    have := isq_int (1048576 * 1048576 * s) (by omega)
    exact ⟨isq (1048576 * 1048576 * s).toNat, by omega, this.1, this.2⟩
  have r1 : 62913511424 ≤ R := by
    have : (62913511424 : Int) < R + 1 := by
      apply isq_lt' (by omega)
      have e : (62913511424 : Int) * 62913511424 = 1048576 * 1048576 * (59999 * 59999) := by decide
      omega
    omega
  have r2 : R ≤ 62917705728 := by
    apply isq_le' (by omega)
    have e : (62917705728 : Int) * 62917705728 = 1048576 * 1048576 * (60003 * 60003) := by decide
    omega
  have lA := len_scaled (X := u1 * m1 + u2 * m2) (k := 1048576) (show 0 < s by omega) hR0 (by omega) hR1 hR2
  have lO := len_scaled (X := -(u1 * m2 - u2 * m1)) (k := 1048576) (show 0 < s by omega) hR0 (by omega) hR1 hR2
  have nA := lenF_cases (u1 * m1 + u2 * m2) s
  have nO := lenF_cases (-(u1 * m2 - u2 * m1)) s
  have pA := (lenN_spec (u1 * m1 + u2 * m2) s (by omega)).1
  have pO := (lenN_spec (-(u1 * m2 - u2 * m1)) s (by omega)).1
  rw [← hA] at lA nA
  rw [← hO] at lO nO
  have bA : lenN (u1 * m1 + u2 * m2) s ≤ 8000000 := by omega
  have bO : lenN (-(u1 * m2 - u2 * m1)) s ≤ 8000000 := by omega
  clear hA hO nA nO
  generalize lenN (u1 * m1 + u2 * m2) s = NA at *
  generalize lenN (-(u1 * m2 - u2 * m1)) s = NO at *
  -- the course's vector is at most 2^30 + 8 long
  have g1 : S * S + C * C ≤ 1073741832 * 1073741832 := by omega
  have hq : (2 : Int) * (536870912 * 536870912) ≤ 759250125 * 759250125 := by decide
  -- across
  have crossle : ∀ {a b c d : Int}, a * a + b * b ≤ 1073741832 * 1073741832 → c * c + d * d ≤ 759250125 * 759250125 → a * d - b * c ≤ 1073741832 * 759250125 ∧ -(1073741832 * 759250125) ≤ a * d - b * c := by
    intro a b c d h1 h2
    have p := cauchy (a := a) (b := b) (c := d) (d := -c) (x := 1073741832) (y := 759250125) (by omega) (by omega) h1 (by rw [Int.neg_mul_neg]; omega)
    have q := cauchy (a := a) (b := b) (c := -d) (d := c) (x := 1073741832) (y := 759250125) (by omega) (by omega) h1 (by rw [Int.neg_mul_neg]; omega)
    have e1 : b * -c = -(b * c) := Int.mul_neg _ _
    have e2 : a * -d = -(a * d) := Int.mul_neg _ _
    omega
  have dotle : ∀ {a b c d : Int}, a * a + b * b ≤ 1073741832 * 1073741832 → c * c + d * d ≤ 759250125 * 759250125 → a * c + b * d ≤ 1073741832 * 759250125 ∧ -(1073741832 * 759250125) ≤ a * c + b * d := by
    intro a b c d h1 h2
    have p := cauchy (a := a) (b := b) (c := c) (d := d) (x := 1073741832) (y := 759250125) (by omega) (by omega) h1 h2
    have q := cauchy (a := a) (b := b) (c := -c) (d := -d) (x := 1073741832) (y := 759250125) (by omega) (by omega) h1 (by rw [Int.neg_mul_neg, Int.neg_mul_neg]; omega)
    have e1 : b * -d = -(b * d) := Int.mul_neg _ _
    have e2 : a * -c = -(a * c) := Int.mul_neg _ _
    omega
  obtain ⟨x1, hx1⟩ : ∃ x, u1 * 1073741824 - 60000 * S = x := ⟨_, rfl⟩
  obtain ⟨x2, hx2⟩ : ∃ x, u2 * 1073741824 - 60000 * C = x := ⟨_, rfl⟩
  obtain ⟨y1, hy1⟩ : ∃ x, v1 * 1073741824 - n * S = x := ⟨_, rfl⟩
  obtain ⟨y2, hy2⟩ : ∃ x, v2 * 1073741824 - n * C = x := ⟨_, rfl⟩
  rw [hx1, hx2] at hu
  rw [hy1, hy2] at hv
  have cY := crossle g1 (Int.le_trans hv hq)
  have cX := crossle g1 (Int.le_trans hu hq)
  have dY := dotle g1 (Int.le_trans hv hq)
  have dX := dotle g1 (Int.le_trans hu hq)
  have small : ∀ {a b c d : Int}, a * a + b * b ≤ 2 * (536870912 * 536870912) → c * c + d * d ≤ 2 * (536870912 * 536870912) → (a * d - b * c ≤ 576460752303423488 ∧ -576460752303423488 ≤ a * d - b * c) ∧ (a * c + b * d ≤ 576460752303423488 ∧ -576460752303423488 ≤ a * c + b * d) := by
    intro a b c d h1 h2
    have l := lagrange a b c d
    have q : (a * a + b * b) * (c * c + d * d) ≤ 2 * (536870912 * 536870912) * (2 * (536870912 * 536870912)) := Int.mul_le_mul h1 h2 (by have := sq_nonneg c; have := sq_nonneg d; omega) (by decide)
    have e : (2 : Int) * (536870912 * 536870912) * (2 * (536870912 * 536870912)) = 576460752303423488 * 576460752303423488 := by decide
    rw [e] at q
    have n1 := sq_nonneg (a * d - b * c)
    have n2 := sq_nonneg (a * c + b * d)
    have m1 := isq_le' (a := a * d - b * c) (b := 576460752303423488) (by omega) (by omega)
    have m2 := isq_le' (a := -(a * d - b * c)) (b := 576460752303423488) (by omega) (by rw [Int.neg_mul_neg]; omega)
    have m3 := isq_le' (a := a * c + b * d) (b := 576460752303423488) (by omega) (by omega)
    have m4 := isq_le' (a := -(a * c + b * d)) (b := 576460752303423488) (by omega) (by rw [Int.neg_mul_neg]; omega)
    omega
  have sm := small hu hv
  have ecross : (u1 * v2 - u2 * v1) * 1152921504606846976 = 60000 * (S * y2 - C * y1) - n * (S * x2 - C * x1) + (x1 * y2 - x2 * y1) := by
    have a1 : u1 * 1073741824 = 60000 * S + x1 := by omega
    have a2 : u2 * 1073741824 = 60000 * C + x2 := by omega
    have b1 : v1 * 1073741824 = n * S + y1 := by omega
    have b2 : v2 * 1073741824 = n * C + y2 := by omega
    have e : (u1 * v2 - u2 * v1) * 1152921504606846976 = (u1 * 1073741824) * (v2 * 1073741824) - (u2 * 1073741824) * (v1 * 1073741824) := by grind
    rw [e, a1, a2, b1, b2]
    grind
  have edot : (u1 * v1 + u2 * v2) * 1152921504606846976 = 60000 * n * (S * S + C * C) + 60000 * (S * y1 + C * y2) + n * (S * x1 + C * x2) + (x1 * y1 + x2 * y2) := by
    have a1 : u1 * 1073741824 = 60000 * S + x1 := by omega
    have a2 : u2 * 1073741824 = 60000 * C + x2 := by omega
    have b1 : v1 * 1073741824 = n * S + y1 := by omega
    have b2 : v2 * 1073741824 = n * C + y2 := by omega
    have e : (u1 * v1 + u2 * v2) * 1152921504606846976 = (u1 * 1073741824) * (v1 * 1073741824) + (u2 * 1073741824) * (v2 * 1073741824) := by grind
    rw [e, a1, a2, b1, b2]
    grind
  -- bounds of the cross product and the sign of the dot product
  have nX : n * (S * x2 - C * x1) ≤ n * (1073741832 * 759250125) := Int.mul_le_mul_of_nonneg_left cX.1 hn0
  have nX' : n * -(1073741832 * 759250125) ≤ n * (S * x2 - C * x1) := Int.mul_le_mul_of_nonneg_left cX.2 hn0
  have nXd : n * -(1073741832 * 759250125) ≤ n * (S * x1 + C * x2) := Int.mul_le_mul_of_nonneg_left dX.2 hn0
  have nG : 60000 * n * (1152921504606846976 - 15 * 1073741824) ≤ 60000 * n * (S * S + C * C) := Int.mul_le_mul_of_nonneg_left (by omega) (by omega)
  have qb : 10000 * (u1 * v2 - u2 * v1) ≤ 7072 * (60000 + n) + 10000 ∧ -(7072 * (60000 + n) + 10000) ≤ 10000 * (u1 * v2 - u2 * v1) := by
    clear nG nXd edot dY dX hR1 hR2
    generalize u1 * v2 - u2 * v1 = q at *
    generalize S * y2 - C * y1 = z1 at *
    generalize n * (S * x2 - C * x1) = z2 at *
    generalize x1 * y2 - x2 * y1 = z3 at *
    omega
  have pp : 1 ≤ n → 0 ≤ u1 * v1 + u2 * v2 := by
    intro h1
    clear ecross nX nX' qb hR1 hR2 cX cY
    generalize u1 * v1 + u2 * v2 = q at *
    generalize S * y1 + C * y2 = z1 at *
    generalize n * (S * x1 + C * x2) = z2 at *
    generalize x1 * y1 + x2 * y2 = z3 at *
    have : 60000 * n * (1152921504606846976 - 15 * 1073741824) = n * (60000 * (1152921504606846976 - 15 * 1073741824)) := by grind
    generalize 60000 * n * (S * S + C * C) = z4 at *
    omega
  have el := lagrange u1 u2 v1 v2
  rw [← hs] at el
  clear ecross edot nX nX' nXd nG cX cY dX dY sm small crossle dotle hu hv hx1 hx2 hy1 hy2
  obtain ⟨P, hP⟩ : ∃ P, u1 * v1 + u2 * v2 = P := ⟨_, rfl⟩
  obtain ⟨Q, hQ⟩ : ∃ Q, u1 * v2 - u2 * v1 = Q := ⟨_, rfl⟩
  obtain ⟨V, hV⟩ : ∃ V, v1 * v1 + v2 * v2 = V := ⟨_, rfl⟩
  have hV0 : 0 ≤ V := by have := sq_nonneg v1; have := sq_nonneg v2; omega
  rw [hP] at el pp
  rw [hQ] at el qb
  rw [hV] at el hv1 hv2
  -- scaled: p = K P, q = K Q
  have qR : (1048576 * Q) * 10 ≤ 675 * R ∧ -(675 * R) ≤ (1048576 * Q) * 10 := by omega
  have sel : (1048576 * P) * (1048576 * P) + (1048576 * Q) * (1048576 * Q) = 1048576 * 1048576 * s * V := by
    have e : (1048576 * P) * (1048576 * P) + (1048576 * Q) * (1048576 * Q) = 1048576 * 1048576 * (P * P + Q * Q) := by grind
    rw [e, el]
    grind
  have pub : 1048576 * P ≤ (R + 1) * (n + 2) ∧ -((R + 1) * (n + 2)) ≤ 1048576 * P := by
    have a1 : 1048576 * 1048576 * s * V ≤ (R + 1) * (R + 1) * V := Int.mul_le_mul_of_nonneg_right (Int.le_of_lt hR2) hV0
    have a2 : (R + 1) * (R + 1) * V ≤ (R + 1) * (R + 1) * ((n + 2) * (n + 2)) := Int.mul_le_mul_of_nonneg_left hv2 (sq_nonneg _)
    have e : (R + 1) * (R + 1) * ((n + 2) * (n + 2)) = (R + 1) * (n + 2) * ((R + 1) * (n + 2)) := by grind
    have q0 := sq_nonneg (1048576 * Q)
    have b0 : 0 ≤ (R + 1) * (n + 2) := Int.mul_nonneg (by omega) (by omega)
    have m1 := isq_le' (a := 1048576 * P) (b := (R + 1) * (n + 2)) b0 (by omega)
    have m2 := isq_le' (a := -(1048576 * P)) (b := (R + 1) * (n + 2)) b0 (by rw [Int.neg_mul_neg]; omega)
    omega
  have eRn : (R + 1) * (n + 2) = n * R + 2 * R + n + 2 := by grind
  have plb : n * R - 7 * R ≤ 1048576 * P := by
    rcases Int.lt_or_le n 3 with h3 | h3
    · have : n * R ≤ 2 * R := Int.mul_le_mul_of_nonneg_right (by omega) hR0
      omega
    · have hp0 : 0 ≤ 1048576 * P := by have := pp (by omega); omega
      have hk : (n - 3) * R ≤ 1048576 * P := by
        apply isq_le' hp0
        have hVn : (n - 1) * (n - 1) ≤ V := by
          rcases hv1 with h | h
          · exact h
          · omega
        have a1 : R * R * ((n - 1) * (n - 1)) ≤ R * R * V := Int.mul_le_mul_of_nonneg_left hVn (sq_nonneg R)
        have a2 : R * R * V ≤ 1048576 * 1048576 * s * V := Int.mul_le_mul_of_nonneg_right hR1 hV0
        -- the square of Q
        have q1 : (1048576 * Q) * 599990000 ≤ R * (7072 * n + 424340000) ∧ -(R * (7072 * n + 424340000)) ≤ (1048576 * Q) * 599990000 := by
          have t : 62913511424 * (7072 * n + 424340000) ≤ R * (7072 * n + 424340000) := Int.mul_le_mul_of_nonneg_right r1 (by omega)
          omega
        have q2 := sq_bd q1.2 q1.1
        have e1 : R * (7072 * n + 424340000) * (R * (7072 * n + 424340000)) = R * R * ((7072 * n + 424340000) * (7072 * n + 424340000)) := by grind
        have e2 : (1048576 * Q) * 599990000 * ((1048576 * Q) * 599990000) = (1048576 * Q) * (1048576 * Q) * (599990000 * 599990000) := by grind
        have e3 : (7072 * n + 424340000) * (7072 * n + 424340000) = 50013184 * (n * n) + 6001864960000 * n + 180064435600000000 := by grind
        have nn : n * n ≤ 5656857 * n := Int.mul_le_mul_of_nonneg_right hn hn0
        have q3 : (7072 * n + 424340000) * (7072 * n + 424340000) ≤ (4 * n - 8) * (599990000 * 599990000) := by omega
        have q4 : R * R * ((7072 * n + 424340000) * (7072 * n + 424340000)) ≤ R * R * ((4 * n - 8) * (599990000 * 599990000)) := Int.mul_le_mul_of_nonneg_left q3 (sq_nonneg R)
        have e4 : R * R * ((4 * n - 8) * (599990000 * 599990000)) = R * R * (4 * n - 8) * (599990000 * 599990000) := by grind
        have q5 : (1048576 * Q) * (1048576 * Q) * (599990000 * 599990000) ≤ R * R * (4 * n - 8) * (599990000 * 599990000) := by omega
        have q6 : (1048576 * Q) * (1048576 * Q) ≤ R * R * (4 * n - 8) := Int.le_of_mul_le_mul_right q5 (by decide)
        have e5 : (n - 3) * R * ((n - 3) * R) = R * R * ((n - 1) * (n - 1)) - R * R * (4 * n - 8) := by grind
        omega
      have e : (n - 3) * R = n * R - 3 * R := by grind
      omega
  -- the difference in the frame
  have ew1 : u1 * (v1 - m1) + u2 * (v2 - m2) = P - (u1 * m1 + u2 * m2) := by rw [← hP]; grind
  have ew2 : u1 * (v2 - m2) - u2 * (v1 - m1) = Q + -(u1 * m2 - u2 * m1) := by rw [← hQ]; grind
  have fl := lagrange u1 u2 (v1 - m1) (v2 - m2)
  rw [← hs, ew1, ew2] at fl
  generalize u1 * m1 + u2 * m2 = MA at *
  generalize -(u1 * m2 - u2 * m1) = MO at *
  obtain ⟨Z, hZ⟩ : ∃ Z, (v1 - m1) * (v1 - m1) + (v2 - m2) * (v2 - m2) = Z := ⟨_, rfl⟩
  rw [hZ] at fl hW hW2
  have hZ0 : 0 ≤ Z := by have := sq_nonneg W; omega
  have fl2 : (1048576 * (P - MA)) * (1048576 * (P - MA)) + (1048576 * (Q + MO)) * (1048576 * (Q + MO)) = 1048576 * 1048576 * s * Z := by
    have e : (1048576 * (P - MA)) * (1048576 * (P - MA)) + (1048576 * (Q + MO)) * (1048576 * (Q + MO)) = 1048576 * 1048576 * ((P - MA) * (P - MA) + (Q + MO) * (Q + MO)) := by grind
    rw [e, fl]
    grind
  -- target and difference
  have eNA : (n - A) * R = n * R - A * R := by grind
  have d1 : -(9 * R) ≤ 1048576 * (P - MA) - (n - A) * R ∧ 1048576 * (P - MA) - (n - A) * R ≤ 9 * R := by omega
  have d2 : -(69 * R) ≤ 1048576 * (Q + MO) - O * R ∧ 1048576 * (Q + MO) - O * R ≤ 69 * R := by omega
  have hh' : (n - A) * (n - A) = h * h := by
    rcases hnh with e | e
    · rw [show n - A = -h by omega, Int.neg_mul_neg]
    · rw [show n - A = h by omega]
  have s1 := sq_bd d1.1 d1.2
  have s2 := sq_bd d2.1 d2.2
  have es1 : 9 * R * (9 * R) = 81 * (R * R) := by grind
  have es2 : 69 * R * (69 * R) = 4761 * (R * R) := by grind
  have es3 : 70 * R * (70 * R) = 4900 * (R * R) := by grind
  have hRR := sq_nonneg R
  have eT : (n - A) * R * ((n - A) * R) + O * R * (O * R) = R * R * (h * h + O * O) := by rw [← hh']; grind
  have hT1 : R * R * (h * h + O * O) ≤ R * R * (D * D) := Int.mul_le_mul_of_nonneg_left (by omega) hRR
  constructor
  · -- above
    have t := tri (a := (n - A) * R) (b := O * R) (c := 1048576 * (P - MA) - (n - A) * R) (d := 1048576 * (Q + MO) - O * R) (x := R * D) (y := 70 * R) (Int.mul_nonneg hR0 hD0) (by omega)
      (by rw [eT]; have e : R * D * (R * D) = R * R * (D * D) := by grind
          omega) (by omega)
    rw [show (n - A) * R + (1048576 * (P - MA) - (n - A) * R) = 1048576 * (P - MA) by omega, show O * R + (1048576 * (Q + MO) - O * R) = 1048576 * (Q + MO) by omega, fl2] at t
    have a1 : R * R * Z ≤ 1048576 * 1048576 * s * Z := Int.mul_le_mul_of_nonneg_right hR1 hZ0
    have a2 : R * R * (W * W) ≤ R * R * Z := Int.mul_le_mul_of_nonneg_left hW hRR
    have e1 : (R * D + 70 * R) * (R * D + 70 * R) = R * R * ((D + 70) * (D + 70)) := by grind
    have a3 : R * R * (W * W) ≤ R * R * ((D + 70) * (D + 70)) := by omega
    have a4 : W * W ≤ (D + 70) * (D + 70) := Int.le_of_mul_le_mul_left a3 (Int.mul_pos (by omega) (by omega))
    have := isq_le' (show 0 ≤ D + 70 by omega) a4
    omega
  · -- below
    rcases Int.lt_or_le D 1 with hD1 | hD1
    · omega
    have hlow : (D - 1) * (D - 1) < h * h + O * O := by
      apply Int.lt_of_not_ge
      intro hc
      have hle : h ≤ D - 1 := isq_le' (by omega) (by have := sq_nonneg O; omega)
      have e1 : (h + 1) * (h + 1) = h * h + 2 * h + 1 := by grind
      have e2 : (D - 1) * (D - 1) = D * D - 2 * D + 1 := by grind
      omega
    have t := tri (a := 1048576 * (P - MA)) (b := 1048576 * (Q + MO)) (c := -(1048576 * (P - MA) - (n - A) * R)) (d := -(1048576 * (Q + MO) - O * R)) (x := (R + 1) * (W + 1)) (y := 70 * R) (Int.mul_nonneg (by omega) (by omega)) (by omega)
      (by rw [fl2]
          have a1 : 1048576 * 1048576 * s * Z ≤ (R + 1) * (R + 1) * Z := Int.mul_le_mul_of_nonneg_right (Int.le_of_lt hR2) hZ0
          have a2 : (R + 1) * (R + 1) * Z ≤ (R + 1) * (R + 1) * ((W + 1) * (W + 1)) := Int.mul_le_mul_of_nonneg_left (Int.le_of_lt hW2) (sq_nonneg _)
          have e : (R + 1) * (W + 1) * ((R + 1) * (W + 1)) = (R + 1) * (R + 1) * ((W + 1) * (W + 1)) := by grind
          omega) (by rw [Int.neg_mul_neg, Int.neg_mul_neg]; omega)
    rw [show 1048576 * (P - MA) + -(1048576 * (P - MA) - (n - A) * R) = (n - A) * R by omega, show 1048576 * (Q + MO) + -(1048576 * (Q + MO) - O * R) = O * R by omega, eT] at t
    have a1 : R * R * ((D - 1) * (D - 1)) ≤ R * R * (h * h + O * O) := Int.mul_le_mul_of_nonneg_left (Int.le_of_lt hlow) hRR
    have e1 : R * R * ((D - 1) * (D - 1)) = R * (D - 1) * (R * (D - 1)) := by grind
    have a2 := isq_le' (a := R * (D - 1)) (b := (R + 1) * (W + 1) + 70 * R) (by have := Int.mul_nonneg (show 0 ≤ R + 1 by omega) (show 0 ≤ W + 1 by omega); omega) (by omega)
    have e2 : (R + 1) * (W + 1) = R * W + R + W + 1 := by grind
    have e3 : R * (D - 1) = R * D - R := by grind
    apply Int.le_of_not_gt
    intro hc
    have a3 : R * (W + 91) ≤ R * D := Int.mul_le_mul_of_nonneg_left (by omega) hR0
    have e4 : R * (W + 91) = R * W + 91 * R := by grind
    omega
end Go.Proofs.YtjjdojokkmfbmaaGreatDoor

/-
  Plain laws of chapter 25: what straight legs, climbs and legs to a distance hold. No program.
-/
namespace Go.Proofs.YtjjdojokkmfbmaaGreatDoor
set_option linter.unusedVariables false

theorem rayF_ok {px py c l : Int} (h : (rayF px py c l).2.2 = 0) : vldB px py = true ∧ -8000000 ≤ l ∧ l ≤ 8000000 ∧ vldB (px + rayX l c) (py + rayY l c) = true ∧ rayF px py c l = (px + rayX l c, py + rayY l c, 0) := by
  unfold rayF at h ⊢
  split at h
  · simp at h
  · rename_i h1
    rw [if_neg h1]
    split at h
    · simp at h
    · rename_i h2
      rw [if_neg h2]
      split at h
      · rename_i h3
        rw [if_pos h3]
        exact ⟨by simpa using h1, by omega, by omega, h3, rfl⟩
      · simp at h
theorem offF_ok {ax ay bx b_y px py : Int} (h : (offF ax ay bx b_y px py).2.2 = 0) : vldB px py = true ∧ ¬ (ax = bx ∧ ay = b_y) ∧
    offF ax ay bx b_y px py = (lenF (-((bx - ax) * (py - ay) - (b_y - ay) * (px - ax))) (dist2 ax ay bx b_y), lenF ((bx - ax) * (px - ax) + (b_y - ay) * (py - ay)) (dist2 ax ay bx b_y), 0) := by
  unfold offF at h ⊢
  split at h
  · simp at h
  · rename_i h1
    rw [if_neg h1]
    split at h
    · simp at h
    · rename_i h2
      rw [if_neg h2]
      have : (vldB ax ay = true ∧ vldB bx b_y = true) ∧ vldB px py = true := by simpa using h1
      exact ⟨this.2, h2, rfl⟩
theorem rayT_ok {ax ay c l : Int} {t : Tk} (h : rayT ax ay c l = (t, 0)) : (rayF ax ay c l).2.2 = 0 ∧ t = tkS 1 ax ay (ax + rayX l c) (ay + rayY l c) c l := by
  unfold rayT at h
  split at h
  · rename_i h0
    refine ⟨h0, ?_⟩
    have := rayF_ok h0
    rw [this.2.2.2.2] at h
    injection h with h1 h2
    exact h1.symm
  · rename_i h0
    injection h with h1 h2
    exact absurd h2 h0
theorem dist_end {fx fy c n D mx my : Int} {A O h : Int} (hp : (rayF fx fy c 60000).2.2 = 0) (ho : (offF fx fy (rayF fx fy c 60000).1 (rayF fx fy c 60000).2.1 mx my).2.2 = 0)
    (hO : O = (offF fx fy (rayF fx fy c 60000).1 (rayF fx fy c 60000).2.1 mx my).1) (hA : A = (offF fx fy (rayF fx fy c 60000).1 (rayF fx fy c 60000).2.1 mx my).2.1)
    (hb : ¬ (O > D ∨ O < -D)) (hD0 : 0 ≤ D) (hD : D ≤ 2000000) (hh : h = isq (D * D - O * O).toNat) (hn : n = A - h ∨ n = A + h) (hn0 : 0 ≤ n) (hr : (rayF fx fy c n).2.2 = 0) :
    -100 ≤ distF mx my (fx + rayX n c) (fy + rayY n c) - D ∧ distF mx my (fx + rayX n c) (fy + rayY n c) - D ≤ 100 := by
  obtain ⟨vf, _, _, vp, ep⟩ := rayF_ok hp
  obtain ⟨_, _, n8, vb, _⟩ := rayF_ok hr
  rw [ep] at ho hO hA
  obtain ⟨vm, hne, eo⟩ := offF_ok ho
  rw [eo] at hO hA
  dsimp only at hO hA
  have e1 : fx + rayX 60000 c - fx = rayX 60000 c := by omega
  have e2 : fy + rayY 60000 c - fy = rayY 60000 c := by omega
  have es : dist2 fx fy (fx + rayX 60000 c) (fy + rayY 60000 c) = rayX 60000 c * rayX 60000 c + rayY 60000 c * rayY 60000 c := by unfold dist2; rw [e1, e2]
  rw [e1, e2, es] at hO hA
  have hG := unit_all c
  have hu := ray_round 60000 c
  have hv := ray_round n c
  have nu := ray_near 60000 c (by omega) (by omega) _ rfl
  have nv := ray_near n c (by omega) (by omega) _ rfl
  have b1 := (vldB_iff _ _).1 vf
  have b2 := (vldB_iff _ _).1 vb
  have b3 := (vldB_iff _ _).1 vm
  have hus : 0 ≤ rayX 60000 c * rayX 60000 c + rayY 60000 c * rayY 60000 c := by have := sq_nonneg (rayX 60000 c); have := sq_nonneg (rayY 60000 c); omega
  have hvs : 0 ≤ rayX n c * rayX n c + rayY n c * rayY n c := by have := sq_nonneg (rayX n c); have := sq_nonneg (rayY n c); omega
  have qu := isq_int _ hus
  have qv := isq_int _ hvs
  have bv1 := sq_bd (a := rayX n c) (m := 4000000) (by omega) (by omega)
  have bv2 := sq_bd (a := rayY n c) (m := 4000000) (by omega) (by omega)
  rw [show ((60000 : Int).natAbs : Int) = 60000 by rfl] at nu
  rw [show (n.natAbs : Int) = n by omega] at nv
  generalize hU : (isq (rayX 60000 c * rayX 60000 c + rayY 60000 c * rayY 60000 c).toNat : Int) = U at *
  generalize hVV : (isq (rayX n c * rayX n c + rayY n c * rayY n c).toNat : Int) = V at *
  have hU0 : 0 ≤ U := by omega
  have hV0 : 0 ≤ V := by omega
  have hVb : V ≤ 5656854 := by
    have : V < 5656855 := isq_lt' (by omega) (by omega)
    omega
  have hs1 : 59999 * 59999 ≤ rayX 60000 c * rayX 60000 c + rayY 60000 c * rayY 60000 c := by
    have := sq_mono (a := 59999) (b := U) (by omega) (by omega)
    omega
  have hs2 : rayX 60000 c * rayX 60000 c + rayY 60000 c * rayY 60000 c ≤ 60003 * 60003 := by
    have := sq_mono (a := U + 1) (b := 60003) (by omega) (by omega)
    omega
  have hv1 : (n - 1) * (n - 1) ≤ rayX n c * rayX n c + rayY n c * rayY n c ∨ n = 0 := by
    by_cases h0 : n = 0
    · exact .inr h0
    · have := sq_mono (a := n - 1) (b := V) (by omega) (by omega)
      exact .inl (by omega)
  have hv2 : rayX n c * rayX n c + rayY n c * rayY n c ≤ (n + 2) * (n + 2) := by
    have := sq_mono (a := V + 1) (b := n + 2) (by omega) (by omega)
    omega
  have hOO := sq_bd (a := O) (m := D) (by omega) (by omega)
  have qh := isq_int (D * D - O * O) (by omega)
  rw [← hh] at qh
  have hh0 : 0 ≤ h := by omega
  have hhD : h ≤ D := isq_le' hD0 (by have := sq_nonneg O; omega)
  have hW : distF mx my (fx + rayX n c) (fy + rayY n c) = isq (dist2 mx my (fx + rayX n c) (fy + rayY n c)).toNat := by
    unfold distF
    rw [vm, vb]
    rfl
  have ed : dist2 mx my (fx + rayX n c) (fy + rayY n c) = (rayX n c - (mx - fx)) * (rayX n c - (mx - fx)) + (rayY n c - (my - fy)) * (rayY n c - (my - fy)) := by
    unfold dist2
    rw [show fx + rayX n c - mx = rayX n c - (mx - fx) by omega, show fy + rayY n c - my = rayY n c - (my - fy) by omega]
  have qW := isq_int _ (dist2_nonneg mx my (fx + rayX n c) (fy + rayY n c))
  rw [hW]
  rw [ed] at qW ⊢
  have := dist_core (u1 := rayX 60000 c) (u2 := rayY 60000 c) (v1 := rayX n c) (v2 := rayY n c) (m1 := mx - fx) (m2 := my - fy) (S := Sin c) (C := Cos c) (n := n) (A := A) (O := O) (h := h) (D := D) hG hu hv rfl hs1 hs2 hn0 (by omega) hv1 hv2 hA hO (by omega) (by omega) hD hh0 qh.1 qh.2 hn (W := isq ((rayX n c - (mx - fx)) * (rayX n c - (mx - fx)) + (rayY n c - (my - fy)) * (rayY n c - (my - fy))).toNat) (by omega) qW.1 qW.2
  omega
/-- a leg to a distance -/
theorem dist_law {fx fy : Int} {x : En} {t : Tk} (h : toDistT fx fy x = (t, 0)) (hd : 0 ≤ x.dst) (hd2 : x.dst ≤ 2000000) : -100 ≤ distF x.mx x.my t.bx t.b_y - x.dst ∧ distF x.mx x.my t.bx t.b_y - x.dst ≤ 100 := by
  unfold toDistT at h
  dsimp only at h
  split at h
  · rename_i h0
    injection h with _ h2
    exact absurd h2 h0
  rename_i h0
  split at h
  · rename_i h1
    injection h with _ h2
    exact absurd h2 h1
  rename_i h1
  split at h
  · injection h with _ h2
    cases h2
  rename_i hb
  have h0' := Classical.not_not.1 h0
  have h1' := Classical.not_not.1 h1
  split at h
  · rename_i hn
    obtain ⟨hr, rfl⟩ := rayT_ok h
    exact dist_end h0' h1' rfl rfl hb hd hd2 rfl (.inl rfl) (by omega) hr
  · split at h
    · injection h with _ h2
      cases h2
    · rename_i hn
      obtain ⟨hr, rfl⟩ := rayT_ok h
      exact dist_end h0' h1' rfl rfl hb hd hd2 rfl (.inr rfl) (by omega) hr
/-- a climb -/
theorem climb_law {fx fy alt gr : Int} {x : En} {t : Tk} (h : climbT fx fy alt x gr = (t, 0)) (hg : 1 ≤ gr) :
    ∃ bx b_y, t = tkS 1 fx fy bx b_y x.crs (climbN alt x.lo gr) ∧ ((x.lo - alt) * 6000 ≤ 0 → climbN alt x.lo gr = 0 ∧ bx = fx ∧ b_y = fy) ∧
      (0 < (x.lo - alt) * 6000 → 0 < climbN alt x.lo gr ∧ (x.lo - alt) * 6000 ≤ climbN alt x.lo gr * gr ∧ (climbN alt x.lo gr - 1) * gr < (x.lo - alt) * 6000) := by
  unfold climbT at h
  split at h
  · injection h with _ h2
    cases h2
  obtain ⟨hr, rfl⟩ := rayT_ok h
  refine ⟨_, _, rfl, fun hu => ?_, fun hu => ?_⟩
  · have e : climbN alt x.lo gr = 0 := if_neg (by omega)
    have z : rnd 2 0 1073741824 = 0 := by decide
    rw [e]
    refine ⟨rfl, ?_, ?_⟩
    · unfold rayX; rw [Int.zero_mul, z]; omega
    · unfold rayY; rw [Int.zero_mul, z]; omega
  · have e : climbN alt x.lo gr = rnd 1 ((x.lo - alt) * 6000) gr := if_pos (by omega)
    rw [e]
    have s := rnd1_spec ((x.lo - alt) * 6000) gr (by omega)
    generalize rnd 1 ((x.lo - alt) * 6000) gr = r at *
    have e2 : (r - 1) * gr = r * gr - gr := by grind
    refine ⟨?_, by omega, by omega⟩
    apply Int.lt_of_not_ge
    intro hc
    have : r * gr ≤ 0 * gr := Int.mul_le_mul_of_nonneg_right hc (by omega)
    omega
/-- what a leg without an error has passed -/
theorem resolve_ok {fx fy c alt : Int} {x y : En} {spd bank oalt gr : Int} {t : Tk} (h : resolveT fx fy c alt x y spd bank oalt gr = (t, 0)) :
    optE spd bank oalt gr = 0 ∧ x.gap = false ∧ legF x = 0 ∧ (vldB fx fy = true ∧ vldB x.ex x.ey = true ∧ vldB x.mx x.my = true) ∧ (0 ≤ c ∧ c < 129600000 ∧ -200000 ≤ alt ∧ alt ≤ 6000000) ∧ legT fx fy c alt x y gr = (t, 0) := by
  unfold resolveT at h
  split at h
  · rename_i h0; injection h with _ h2; exact absurd h2 h0
  rename_i h0
  split at h
  · injection h with _ h2; cases h2
  rename_i h1
  split at h
  · rename_i h3; injection h with _ h2; exact absurd h2 h3
  rename_i h3
  split at h
  · injection h with _ h2; cases h2
  rename_i h4
  split at h
  · injection h with _ h2; cases h2
  rename_i h5
  refine ⟨Classical.not_not.1 h0, by simpa using h1, Classical.not_not.1 h3, ?_, by omega, h⟩
  have := Bool.not_eq_false _ ▸ h4
  simp only [Bool.and_eq_true] at this
  exact ⟨this.1.1, this.1.2, this.2⟩
theorem legT_straight {fx fy c alt : Int} {x y : En} {gr : Int} (hk : x.ty = 2 ∨ x.ty = 4) : legT fx fy c alt x y gr = (straightF fx fy x.ex x.ey c, 0) := by
  unfold legT
  rw [if_neg (by omega), if_pos hk]
theorem legT_ca {fx fy c alt : Int} {x y : En} {gr : Int} (hk : x.ty = 7) : legT fx fy c alt x y gr = climbT fx fy alt x gr := by
  unfold legT
  rw [if_neg (by omega), if_neg (by omega), if_neg (by omega), if_neg (by omega), if_pos hk]
theorem legT_fa {fx fy c alt : Int} {x y : En} {gr : Int} (hk : x.ty = 11) : legT fx fy c alt x y gr = climbT x.ex x.ey alt x gr := by
  unfold legT
  rw [if_neg (by omega), if_neg (by omega), if_neg (by omega), if_neg (by omega), if_neg (by omega), if_pos hk]
theorem legT_cd {fx fy c alt : Int} {x y : En} {gr : Int} (hk : x.ty = 8) : legT fx fy c alt x y gr = toDistT fx fy x := by
  unfold legT
  rw [if_neg (by omega), if_neg (by omega), if_neg (by omega), if_neg (by omega), if_neg (by omega), if_neg (by omega), if_neg (by omega), if_neg (by omega), if_pos hk]
/-- the law of straight legs -/
theorem straight_law {fx fy c alt : Int} {x y : En} {spd bank oalt gr : Int} {t : Tk} (h : resolveT fx fy c alt x y spd bank oalt gr = (t, 0)) (hk : x.ty = 2 ∨ x.ty = 4) :
    ∃ C L : Int, t = tkS 1 fx fy x.ex x.ey C L ∧ L = distF fx fy x.ex x.ey ∧ (fx = x.ex ∧ fy = x.ey ∧ C = c ∨ ¬ (fx = x.ex ∧ fy = x.ey) ∧ courseF fx fy x.ex x.ey = (C, 0)) := by
  obtain ⟨_, _, _, ⟨v1, v2, _⟩, _, hl⟩ := resolve_ok h
  rw [legT_straight hk] at hl
  injection hl with hl _
  subst hl
  unfold straightF
  by_cases he : fx = x.ex ∧ fy = x.ey
  · rw [if_pos he]
    refine ⟨_, _, rfl, ?_, .inl ⟨he.1, he.2, rfl⟩⟩
    have e : dist2 fx fy x.ex x.ey = 0 := by unfold dist2; rw [he.1, he.2, Int.sub_self, Int.sub_self]; rfl
    unfold distF
    rw [e]
    split <;> rfl
  · rw [if_neg he]
    refine ⟨_, _, rfl, rfl, .inr ⟨he, ?_⟩⟩
    have e : (courseF fx fy x.ex x.ey).2 = 0 := by
      unfold courseF
      rw [v1, v2, if_neg (by simp), if_neg he]
    exact Prod.ext rfl e
/-- the law of climbs -/
theorem climbs_law {fx fy c alt : Int} {x y : En} {spd bank oalt gr : Int} {t : Tk} (h : resolveT fx fy c alt x y spd bank oalt gr = (t, 0)) (hk : x.ty = 7 ∨ x.ty = 11) :
    ∃ ax ay bx b_y n : Int, t = tkS 1 ax ay bx b_y x.crs n ∧ (0 ≤ n ∧ n ≤ 8000000) ∧ (1 ≤ gr ∧ gr ≤ 100000) ∧ (-200000 ≤ x.lo ∧ x.lo ≤ 6000000) ∧ (-200000 ≤ alt ∧ alt ≤ 6000000) ∧ ((x.lo - alt) * 6000 ≤ 0 → n = 0 ∧ bx = ax ∧ b_y = ay) ∧
      (0 < (x.lo - alt) * 6000 → 0 < n ∧ (x.lo - alt) * 6000 ≤ n * gr ∧ (n - 1) * gr < (x.lo - alt) * 6000) := by
  obtain ⟨ho, _, hL, _, hr, hl⟩ := resolve_ok h
  obtain ⟨_, _, _, hg⟩ := opt_ok ho
  obtain ⟨_, _, _, _, _, ⟨hlo, hhi, hhi2⟩, _⟩ := leg_ok hL
  have key : ∀ {ax ay : Int}, climbT ax ay alt x gr = (t, 0) → ∃ ax ay bx b_y n : Int, t = tkS 1 ax ay bx b_y x.crs n ∧ (0 ≤ n ∧ n ≤ 8000000) ∧ (1 ≤ gr ∧ gr ≤ 100000) ∧ (-200000 ≤ x.lo ∧ x.lo ≤ 6000000) ∧ (-200000 ≤ alt ∧ alt ≤ 6000000) ∧ ((x.lo - alt) * 6000 ≤ 0 → n = 0 ∧ bx = ax ∧ b_y = ay) ∧
      (0 < (x.lo - alt) * 6000 → 0 < n ∧ (x.lo - alt) * 6000 ≤ n * gr ∧ (n - 1) * gr < (x.lo - alt) * 6000) := by
    intro ax ay hc
    obtain ⟨bx, b_y, e, h1, h2⟩ := climb_law hc hg.1
    have hb := climbN_bd (alt := alt) (lo := x.lo) (gr := gr) (by omega) (by omega) hg.1
    have h8 : ¬ climbN alt x.lo gr > 8000000 := by
      intro h8
      unfold climbT at hc
      rw [if_pos h8] at hc
      injection hc with _ hc
      cases hc
    exact ⟨ax, ay, bx, b_y, _, e, ⟨hb.1, by omega⟩, hg, ⟨hlo, by omega⟩, ⟨hr.2.2.1, hr.2.2.2⟩, h1, h2⟩
  rcases hk with hk | hk
  · rw [legT_ca hk] at hl
    exact key hl
  · rw [legT_fa hk] at hl
    exact key hl
/-- the law of legs to a distance -/
theorem distance_law {fx fy c alt : Int} {x y : En} {spd bank oalt gr : Int} {t : Tk} (h : resolveT fx fy c alt x y spd bank oalt gr = (t, 0)) (hk : x.ty = 8) :
    (0 ≤ x.dst ∧ x.dst ≤ 2000000) ∧ -100 ≤ distF x.mx x.my t.bx t.b_y - x.dst ∧ distF x.mx x.my t.bx t.b_y - x.dst ≤ 100 := by
  obtain ⟨_, _, hL, _, _, hl⟩ := resolve_ok h
  obtain ⟨_, _, hd, _⟩ := leg_ok hL
  rw [legT_cd hk] at hl
  exact ⟨hd, dist_law hl hd.1 hd.2⟩
end Go.Proofs.YtjjdojokkmfbmaaGreatDoor
