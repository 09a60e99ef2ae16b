/-
  A point of an arc is found on it, at its length (chapter 12). No program.
-/
import Derived.Test.YtdfkkknkiioghaaGreatMSeries
import Derived.Test.YtdfkkknkiioghaaGreatMPlain
namespace Go.Proofs.YtdfkkknkiioghaaGreat
set_option linter.unusedVariables false

/-- the least turn that an angle stands for -/
theorem least_turn (a : Int) : ∃ δ : Int, norm δ = norm a ∧ -64800000 < δ ∧ δ ≤ 64800000 := by
  by_cases h : norm a ≤ 64800000
  · exact ⟨norm a, by unfold norm; omega, by unfold norm at *; omega, h⟩
  · exact ⟨norm a - 129600000, by unfold norm; omega, by omega, by unfold norm at *; omega⟩
theorem Cos_pos_small {d : Int} (h : -64800000 < d ∧ d ≤ 64800000) (hc : 0 < Cos d) : -32400000 ≤ d ∧ d ≤ 32400000 := by
  have key : ∀ x : Int, 32400000 < x → x ≤ 64800000 → Cos x ≤ 0 := fun x h1 h2 => by
    rw [Cos_q2 (by omega) h2]
    have := qsin_bd (a := x - 32400000) (by omega) (by omega)
    omega
  constructor
  · rcases Int.lt_or_le d (-32400000) with h1 | h1
    · have := key (-d) (by omega) (by omega)
      rw [Cos_neg] at this
      omega
    · exact h1
  · rcases Int.lt_or_le 32400000 d with h1 | h1
    · have := key d h1 h.2
      omega
    · exact h1
/-- The course of a point on a ray is the ray's direction, but for a small turn. -/
theorem dir_near {R d p q : Int} (hR : 100 ≤ R) (hR8 : R ≤ 8000000) (hp : p = rayX R d) (hq : q = rayY R d) :
    ¬ (p = 0 ∧ q = 0) ∧ ∃ δ : Int, norm (d + δ) = norm (atan2F p q) ∧ -32400000 ≤ δ ∧ δ ≤ 32400000 ∧ -(152 * R + 759400000) ≤ 46 * (R * δ) ∧ 46 * (R * δ) ≤ 152 * R + 759400000 := by
  have hr := ray_near R d (by omega) hR8 _ rfl
  have hr1 := rnd2_one (R * Sin d)
  have hr2 := rnd2_one (R * Cos d)
  have hW : 0 ≤ p * p + q * q := by have := sq_nonneg p; have := sq_nonneg q; omega
  have hqi := isq_int _ hW
  rw [← hp, ← hq] at hr
  unfold rayX at hp
  unfold rayY at hq
  rw [← hp] at hr1
  rw [← hq] at hr2
  have hbs := big_sq p q
  have hD99 : 99 ≤ (isq (p * p + q * q).toNat : Int) := by omega
  have hD2 := Int.mul_le_mul hD99 hD99 (by decide) (by omega)
  have hm70 : 70 ≤ big p q := by
    have : (69 : Int) < big p q := by
      apply isq_lt' (by unfold big; omega)
      omega
    omega
  have h0 : ¬ (p = 0 ∧ q = 0) := by
    rintro ⟨rfl, rfl⟩
    simp [big] at hm70
  refine ⟨h0, ?_⟩
  have hn := atan2_near h0
  have sd := Sin_bd d
  have cd := Cos_bd d
  have hpR : -R ≤ p ∧ p ≤ R := by
    have a := Int.mul_le_mul_of_nonneg_left sd.1 (show 0 ≤ R by omega)
    have b := Int.mul_le_mul_of_nonneg_left sd.2 (show 0 ≤ R by omega)
    omega
  have hqR : -R ≤ q ∧ q ≤ R := by
    have a := Int.mul_le_mul_of_nonneg_left cd.1 (show 0 ≤ R by omega)
    have b := Int.mul_le_mul_of_nonneg_left cd.2 (show 0 ≤ R by omega)
    omega
  have hmR : big p q ≤ R := by unfold big; omega
  have hs := subs (atan2F p q) d
  have hu := unit_all (atan2F p q)
  obtain ⟨δ, hδ, hδ1, hδ2⟩ := least_turn (atan2F p q - d)
  rw [← Sin_norm δ (atan2F p q - d) hδ, ← Cos_norm δ (atan2F p q - d) hδ] at hs
  have hdir : norm (d + δ) = norm (atan2F p q) := by unfold norm at *; omega
  refine ⟨δ, hdir, ?_⟩
  clear hdir hδ
  generalize Sin (atan2F p q) = S at *
  generalize Cos (atan2F p q) = C at *
  generalize Sin d = Sd at *
  generalize Cos d = Cd at *
  generalize big p q = m at *
  obtain ⟨ep, hep⟩ : ∃ ep, ep = p * 1073741824 - R * Sd := ⟨_, rfl⟩
  obtain ⟨eq, heq⟩ : ∃ eq, eq = q * 1073741824 - R * Cd := ⟨_, rfl⟩
  have sp := sq_bd (a := ep) (m := 536870912) (by omega) (by omega)
  have sq' := sq_bd (a := eq) (m := 536870912) (by omega) (by omega)
  have l1 := lagrange S C eq (-ep)
  have l2 := lagrange S C ep eq
  have e0 : eq * eq + -ep * -ep = ep * ep + eq * eq := by grind
  rw [e0] at l1
  have hSC : (S * S + C * C) * (ep * ep + eq * eq) ≤ 1152921520713023656 * (2 * (536870912 * 536870912)) := Int.mul_le_mul (by omega) (by omega) (by have := sq_nonneg ep; have := sq_nonneg eq; omega) (by decide)
  have n1 := sq_nonneg (S * -ep - C * eq)
  have n2 := sq_nonneg (S * eq - C * ep)
  -- the rounding's part across and along
  have c1 : S * eq + C * -ep ≤ 759400000 * 1073741824 := isq_le' (by decide) (by omega)
  have c2 : -(S * eq + C * -ep) ≤ 759400000 * 1073741824 := isq_le' (by decide) (by rw [Int.neg_mul_neg]; omega)
  have c3 : -(S * ep + C * eq) ≤ 759400000 * 1073741824 := isq_le' (by decide) (by rw [Int.neg_mul_neg]; omega)
  have c4 : S * ep + C * eq ≤ 759400000 * 1073741824 := isq_le' (by decide) (by omega)
  have k1 : 1073741824 * (S * q - C * p) = R * (S * Cd - C * Sd) + (S * eq + C * -ep) := by rw [hep, heq]; grind
  have k2 : 1073741824 * (S * p + C * q) = R * (C * Cd + S * Sd) + (S * ep + C * eq) := by rw [hep, heq]; grind
  generalize S * eq + C * -ep = f1 at *
  generalize S * ep + C * eq = f2 at *
  generalize S * q - C * p = K at *
  generalize S * p + C * q = Dt at *
  have x1 := Int.mul_le_mul_of_nonneg_left hs.1.1 (show 0 ≤ R by omega)
  have x2 := Int.mul_le_mul_of_nonneg_left hs.1.2 (show 0 ≤ R by omega)
  have y2 := Int.mul_le_mul_of_nonneg_left hs.2.2 (show 0 ≤ R by omega)
  have ex : R * (S * Cd - C * Sd - 1073741824 * Sin δ) = R * (S * Cd - C * Sd) - 1073741824 * (R * Sin δ) := by grind
  have ey : R * (C * Cd + S * Sd - 1073741824 * Cos δ) = R * (C * Cd + S * Sd) - 1073741824 * (R * Cos δ) := by grind
  rw [ex] at x1 x2
  rw [ey] at y2
  have hsin : -(151 * R + 759400000) ≤ R * Sin δ ∧ R * Sin δ ≤ 151 * R + 759400000 := by omega
  have hcos : 0 < R * Cos δ := by omega
  have hcos' : 0 < Cos δ := by
    rcases Int.lt_or_le 0 (Cos δ) with h | h
    · exact h
    · have := Int.mul_nonpos_of_nonneg_of_nonpos (show 0 ≤ R by omega) h
      omega
  have hq' := Cos_pos_small ⟨hδ1, hδ2⟩ hcos'
  refine ⟨hq'.1, hq'.2, ?_⟩
  have hR100 : ∀ v : Int, R * v ≤ 151 * R + 759400000 → v ≤ 7594151 := fun v hv => by
    rcases Int.lt_or_le 7594151 v with h | h
    · have h1 : R * 7594152 ≤ R * v := Int.mul_le_mul_of_nonneg_left (by omega) (by omega)
      omega
    · exact h
  have s1 := hR100 (Sin δ) hsin.2
  have s2 := hR100 (-Sin δ) (by rw [Int.mul_neg]; omega)
  rcases Int.le_total 0 (Sin δ) with h | h
  · have := small_angle hq' (E := Sin δ) (by omega) (by omega)
    have a := Int.mul_le_mul_of_nonneg_left this.1 (show 0 ≤ R by omega)
    have b := Int.mul_le_mul_of_nonneg_left this.2 (show 0 ≤ R by omega)
    have e1 : R * (Sin δ + 1) = R * Sin δ + R := by grind
    have e2 : R * -(Sin δ + 1) = -(R * Sin δ) - R := by grind
    have e3 : R * (46 * δ) = 46 * (R * δ) := by grind
    omega
  · have := small_angle hq' (E := -Sin δ) (by omega) (by omega)
    have a := Int.mul_le_mul_of_nonneg_left this.1 (show 0 ≤ R by omega)
    have b := Int.mul_le_mul_of_nonneg_left this.2 (show 0 ≤ R by omega)
    have e1 : R * (-Sin δ + 1) = -(R * Sin δ) + R := by grind
    have e2 : R * -(-Sin δ + 1) = R * Sin δ - R := by grind
    have e3 : R * (46 * δ) = 46 * (R * δ) := by grind
    omega

/-- The length along an arc at which a point is found. (s: the size of the sweep; n: the arc's length; w: the angle at the length 'al'; δ: the turn between the point's direction and the angle.) -/
theorem along_near {R s n al w δ w' : Int} (hR : 100 ≤ R) (hR8 : R ≤ 8000000) (hs0 : 0 ≤ s) (hs : s ≤ 64800000) (hn : n = rnd 2 (R * s) 20626481) (hal : 0 ≤ al) (haln : al ≤ n)
    (hw : w = if 0 < n then rnd 2 (al * s) n else 0) (hδ : -32400000 ≤ δ ∧ δ ≤ 32400000) (hδR : -(152 * R + 759400000) ≤ 46 * (R * δ) ∧ 46 * (R * δ) ≤ 152 * R + 759400000)
    (hw' : w' = norm (w + δ)) : arcAlong w' s n - al ≤ 4 ∧ al - arcAlong w' s n ≤ 4 := by
  have hRs : 0 ≤ R * s := Int.mul_nonneg (by omega) hs0
  have hnn : 2 * (n * 20626481 - R * s) ≤ 20626481 ∧ -20626481 ≤ 2 * (n * 20626481 - R * s) := by rw [hn, rndLen]; omega
  by_cases hn0 : n = 0
  · have : arcAlong w' s n = 0 := by
      unfold arcAlong
      split
      · rename_i h
        rw [hn0, Int.mul_zero]
        unfold rnd
        simp only [show (2 : Nat) ≠ 0 from by decide, show (2 : Nat) ≠ 1 from by decide, if_false]
        exact floor_of (by omega) (by omega) (by omega)
      · split <;> omega
    omega
  have hnp : 0 < n := by omega
  rw [if_pos hnp] at hw
  have hsp : 0 < s := by
    rcases Int.lt_or_eq_of_le hs0 with h | h
    · exact h
    · subst h
      rw [Int.mul_zero] at hnn
      omega
  have rw1 := rnd2_near (al * s) n (by omega)
  rw [← hw, show (n.natAbs : Int) = n from by omega] at rw1
  have als : al * s ≤ n * s := Int.mul_le_mul_of_nonneg_right haln hs0
  have als0 : 0 ≤ al * s := Int.mul_nonneg hal hs0
  have hw0 : 0 ≤ w := by
    rcases Int.lt_or_le w 0 with h | h
    · have : w * n ≤ (-1) * n := Int.mul_le_mul_of_nonneg_right (by omega) (by omega)
      omega
    · exact h
  have hws : w ≤ s := by
    rcases Int.lt_or_le s w with h | h
    · have : (s + 1) * n ≤ w * n := Int.mul_le_mul_of_nonneg_right (by omega) (by omega)
      have e : (s + 1) * n = n * s + n := by grind
      omega
    · exact h
  -- the error in angle, in lengths
  have key : ∀ x : Int, 0 ≤ x → (x ≤ δ ∨ x ≤ -δ) → 5 ≤ n → 46 * ((2 * x + 1) * n) ≤ 256 * s := by
    intro x hx hxd h5
    have a : 46 * (R * x) ≤ 152 * R + 759400000 := by
      rcases hxd with h | h
      · have := Int.mul_le_mul_of_nonneg_left h (show 0 ≤ R by omega)
        omega
      · have := Int.mul_le_mul_of_nonneg_left h (show 0 ≤ R by omega)
        rw [Int.mul_neg] at this
        omega
    -- n * rho ≤ (10/9) R s
    have b : 9 * (n * 20626481) ≤ 10 * (R * s) := by omega
    have c := Int.mul_le_mul_of_nonneg_right b (show 0 ≤ 46 * (2 * x + 1) by omega)
    have e1 : 9 * (n * 20626481) * (46 * (2 * x + 1)) = 185638329 * (46 * ((2 * x + 1) * n)) := by grind
    have e2 : 10 * (R * s) * (46 * (2 * x + 1)) = 10 * (2 * (46 * (R * x)) + 46 * R) * s := by grind
    rw [e1, e2] at c
    have d : 10 * (2 * (46 * (R * x)) + 46 * R) * s ≤ 10 * (2 * (152 * R + 759400000) + 46 * R) * s := Int.mul_le_mul_of_nonneg_right (by omega) hs0
    have f : 10 * (2 * (152 * R + 759400000) + 46 * R) * s ≤ 43188000000 * s := Int.mul_le_mul_of_nonneg_right (by omega) hs0
    omega
  have hδ' : -200000 ≤ δ := by
    rcases Int.lt_or_le δ (-200000) with h | h
    · have := Int.mul_le_mul_of_nonneg_left (show δ ≤ -200000 by omega) (show 0 ≤ R by omega)
      omega
    · exact h
  unfold arcAlong
  by_cases h5 : n < 5
  · have hb : ∀ x : Int, (w' ≤ s ∧ s ≠ 0) → 0 ≤ w' → x = rnd 2 (w' * n) s → 0 ≤ x ∧ x ≤ n := by
      intro x h h0 hx
      have r := rnd2_near (w' * n) s (by omega)
      rw [← hx, show (s.natAbs : Int) = s from by omega] at r
      have a1 : 0 ≤ w' * n := Int.mul_nonneg h0 (by omega)
      have a2 : w' * n ≤ s * n := Int.mul_le_mul_of_nonneg_right h.1 (by omega)
      constructor
      · rcases Int.lt_or_le x 0 with h | h
        · have : x * s ≤ (-1) * s := Int.mul_le_mul_of_nonneg_right (by omega) hs0
          omega
        · exact h
      · rcases Int.lt_or_le n x with h | h
        · have : (n + 1) * s ≤ x * s := Int.mul_le_mul_of_nonneg_right (by omega) hs0
          have e : (n + 1) * s = s * n + s := by grind
          omega
        · exact h
    have hw0' : 0 ≤ w' := by rw [hw']; exact (norm_bd _).1
    split
    · rename_i h
      have := hb _ h hw0' rfl
      omega
    · split <;> omega
  · have h5' : 5 ≤ n := by omega
    rcases Int.lt_or_le (w + δ) 0 with hA | hA
    · -- before the beginning
      have e : w' = w + δ + 129600000 := by rw [hw']; unfold norm; omega
      rw [if_neg (by omega), if_neg (by omega)]
      have k := key (-δ) (by omega) (.inr (Int.le_refl _)) h5'
      have m1 : w * n ≤ (-δ) * n := Int.mul_le_mul_of_nonneg_right (by omega) (by omega)
      have e3 : (2 * -δ + 1) * n = 2 * ((-δ) * n) + n := by grind
      rw [e3] at k
      have : 2 * (al * s) ≤ 6 * s := by omega
      have e4 : al * (2 * s) ≤ 3 * (2 * s) := by
        have : al * (2 * s) = 2 * (al * s) := by grind
        omega
      have := Int.le_of_mul_le_mul_right e4 (by omega)
      omega
    · have e : w' = w + δ := by rw [hw']; exact norm_id hA (by omega)
      rcases Int.lt_or_le s (w + δ) with hB | hB
      · -- behind the end
        rw [if_neg (by omega), if_pos (by omega)]
        have k := key δ (by omega) (.inl (Int.le_refl _)) h5'
        have m1 : (s - w) * n ≤ δ * n := Int.mul_le_mul_of_nonneg_right (by omega) (by omega)
        have e3 : (2 * δ + 1) * n = 2 * (δ * n) + n := by grind
        have e5 : (s - w) * n = n * s - w * n := by grind
        rw [e3] at k
        rw [e5] at m1
        have e4 : (n - al) * (2 * s) ≤ 3 * (2 * s) := by
          have : (n - al) * (2 * s) = 2 * (n * s) - 2 * (al * s) := by grind
          omega
        have := Int.le_of_mul_le_mul_right e4 (by omega)
        omega
      · rw [if_pos (by omega)]
        have r := rnd2_near (w' * n) s (by omega)
        rw [show (s.natAbs : Int) = s from by omega] at r
        generalize rnd 2 (w' * n) s = y at *
        rw [e] at r
        have e6 : (w + δ) * n = w * n + δ * n := by grind
        rw [e6] at r
        constructor
        · have hd : ∃ x, x = max δ 0 := ⟨_, rfl⟩
          obtain ⟨x, hx⟩ := hd
          have k := key x (by omega) (by omega) h5'
          have m : δ * n ≤ x * n := Int.mul_le_mul_of_nonneg_right (by omega) (by omega)
          have e3 : (2 * x + 1) * n = 2 * (x * n) + n := by grind
          rw [e3] at k
          have e4 : (y - al) * (2 * s) ≤ 4 * (2 * s) := by
            have : (y - al) * (2 * s) = 2 * (y * s) - 2 * (al * s) := by grind
            omega
          exact Int.le_of_mul_le_mul_right e4 (by omega)
        · have hd : ∃ x, x = max (-δ) 0 := ⟨_, rfl⟩
          obtain ⟨x, hx⟩ := hd
          have k := key x (by omega) (by omega) h5'
          have m : (-δ) * n ≤ x * n := Int.mul_le_mul_of_nonneg_right (by omega) (by omega)
          rw [Int.neg_mul] at m
          have e3 : (2 * x + 1) * n = 2 * (x * n) + n := by grind
          rw [e3] at k
          have e4 : (al - y) * (2 * s) ≤ 4 * (2 * s) := by
            have : (al - y) * (2 * s) = 2 * (al * s) - 2 * (y * s) := by grind
            omega
          exact Int.le_of_mul_le_mul_right e4 (by omega)
end Go.Proofs.YtdfkkknkiioghaaGreat

/-
  The ends of arcs around a center, and of fly-by turns (chapter 12). No program.
-/
namespace Go.Proofs.YtdfkkknkiioghaaGreat
set_option linter.unusedVariables false

/-! ### how fast they turn, at every angle -/
def Lip (a : Int) : Prop := (-84 ≤ Sin (a + 1) - Sin a ∧ Sin (a + 1) - Sin a ≤ 84) ∧ (-84 ≤ Cos (a + 1) - Cos a ∧ Cos (a + 1) - Cos a ≤ 84)
theorem Sin_lip_q {a : Int} (h : 0 ≤ a) (h2 : a < 32400000) : -84 ≤ Sin (a + 1) - Sin a ∧ Sin (a + 1) - Sin a ≤ 84 := by
  have hm := Sin_mono h (show a ≤ a + 1 by omega) (by omega)
  refine ⟨by omega, ?_⟩
  rw [Sin_q h (by omega), Sin_q (by omega) (by omega)]
  by_cases h3 : a < 16200000
  · have := (sine_rise h h3).1
    rw [qsin_lo (by omega), qsin_lo (by omega)]
    omega
  · have e1 := qsin_hi (x := 32400000 - a) (by omega) (by omega)
    have e2 := qsin_hi (x := 32400000 - (a + 1)) (by omega) (by omega)
    rw [show 32400000 - (32400000 - a) = a from by omega] at e1
    rw [show 32400000 - (32400000 - (a + 1)) = a + 1 from by omega] at e2
    rw [e1, e2]
    have := (sine_rise (a := 32400000 - (a + 1)) (by omega) (by omega)).2
    rw [show 32400000 - (a + 1) + 1 = 32400000 - a from by omega] at this
    exact this
theorem lip_q {a : Int} (h : 0 ≤ a) (h2 : a < 32400000) : Lip a := by
  refine ⟨Sin_lip_q h h2, ?_⟩
  have := Sin_lip_q (a := 32400000 - (a + 1)) (by omega) (by omega)
  rw [show 32400000 - (a + 1) + 1 = 32400000 - a from by omega, Sin_quarter_sub, Sin_quarter_sub] at this
  omega
theorem Lip.turn {a : Int} (h : Lip a) : Lip (a + 32400000) := by
  unfold Lip at *
  rw [show a + 32400000 + 1 = a + 1 + 32400000 from by omega, Sin_add_quarter, Sin_add_quarter, Cos_add_quarter, Cos_add_quarter]
  omega
theorem lip (a : Int) : Lip a := by
  have hb := norm_bd a
  have e : Lip (norm a) := by
    generalize norm a = n at *
    by_cases h1 : n < 32400000
    · exact lip_q hb.1 h1
    · by_cases h2 : n < 64800000
      · have := (lip_q (a := n - 32400000) (by omega) (by omega)).turn
        rwa [show n - 32400000 + 32400000 = n from by omega] at this
      · by_cases h3 : n < 97200000
        · have := (lip_q (a := n - 64800000) (by omega) (by omega)).turn.turn
          rwa [show n - 64800000 + 32400000 + 32400000 = n from by omega] at this
        · have := (lip_q (a := n - 97200000) (by omega) (by omega)).turn.turn.turn
          rwa [show n - 97200000 + 32400000 + 32400000 + 32400000 = n from by omega] at this
  unfold Lip at *
  rw [Sin_norm (norm a + 1) (a + 1) (by unfold norm; omega), Cos_norm (norm a + 1) (a + 1) (by unfold norm; omega), Sin_normed, Cos_normed] at e
  exact e
theorem lips : ∀ (k : Nat) (a : Int), (-(84 * (k : Int)) ≤ Sin (a + k) - Sin a ∧ Sin (a + k) - Sin a ≤ 84 * k) ∧ (-(84 * (k : Int)) ≤ Cos (a + k) - Cos a ∧ Cos (a + k) - Cos a ≤ 84 * k)
  | 0, a => by simp
  | k + 1, a => by
    have h := lips k a
    have h1 := lip (a + k)
    unfold Lip at h1
    rw [show a + ((k + 1 : Nat) : Int) = a + k + 1 from by omega]
    omega

/-! ### arcs around a center -/
/-- a rounded ray against a vector -/
theorem ray_at {r S p k : Int} (h : -(1073741824 * k) ≤ r * S - 1073741824 * p ∧ r * S - 1073741824 * p ≤ 1073741824 * k) : rnd 2 (r * S) 1073741824 - p ≤ k ∧ p - rnd 2 (r * S) 1073741824 ≤ k := by
  have := rnd2_one (r * S)
  omega
theorem around_start {p q r : Int} (h0 : ¬ (p = 0 ∧ q = 0)) (hr1 : r * r ≤ p * p + q * q) (hr2 : p * p + q * q < (r + 1) * (r + 1)) (hr : 1 ≤ r) (hr8 : r ≤ 6000000) :
    (rayX r (atan2F p q) - p ≤ 2 ∧ p - rayX r (atan2F p q) ≤ 2) ∧ (rayY r (atan2F p q) - q ≤ 2 ∧ q - rayY r (atan2F p q) ≤ 2) := by
  have h := aim h0 hr1 hr2 hr hr8
  exact ⟨ray_at (k := 2) (by omega), ray_at (k := 2) (by omega)⟩
/-- the end, at a direction of the end's course, or near it where the arc is too short to have a length -/
theorem around_end {p q r n dir : Int} (h0 : ¬ (p = 0 ∧ q = 0)) (hn1 : n * n ≤ p * p + q * q) (hn2 : p * p + q * q < (n + 1) * (n + 1)) (hn : 1 ≤ n) (hn8 : n ≤ 6000000) (hr : r - n ≤ 8 ∧ n - r ≤ 8) (hr0 : 0 ≤ r)
    (hd : norm dir = norm (atan2F p q) ∨ ∃ s : Nat, (norm (dir + s) = norm (atan2F p q) ∨ norm (atan2F p q + s) = norm dir) ∧ 2 * (r * s) < 20626481) :
    (rayX r dir - p ≤ 12 ∧ p - rayX r dir ≤ 12) ∧ (rayY r dir - q ≤ 12 ∧ q - rayY r dir ≤ 12) := by
  have h := aim h0 hn1 hn2 hn hn8
  have bs := Sin_bd (atan2F p q)
  have bc := Cos_bd (atan2F p q)
  have m1 := mul_abs_le (x := r - n) (X := 8) (by omega) bs
  have m2 := mul_abs_le (x := r - n) (X := 8) (by omega) bc
  rw [Int.sub_mul] at m1 m2
  have hl : (-866312202 ≤ r * (Sin dir - Sin (atan2F p q)) ∧ r * (Sin dir - Sin (atan2F p q)) ≤ 866312202) ∧ (-866312202 ≤ r * (Cos dir - Cos (atan2F p q)) ∧ r * (Cos dir - Cos (atan2F p q)) ≤ 866312202) := by
    rcases hd with hd | ⟨s, hd, hs⟩
    · rw [Sin_norm _ _ hd, Cos_norm _ _ hd]
      simp
    · have hs' : r * (84 * (s : Int)) ≤ 866312202 := by
        have : r * (84 * (s : Int)) = 84 * (r * s) := by grind
        omega
      have fin : ∀ v : Int, -(84 * (s : Int)) ≤ v ∧ v ≤ 84 * s → -866312202 ≤ r * v ∧ r * v ≤ 866312202 := fun v hv => by
        have a := Int.mul_le_mul_of_nonneg_left hv.1 hr0
        have b := Int.mul_le_mul_of_nonneg_left hv.2 hr0
        rw [Int.mul_neg] at a
        omega
      rcases hd with hd | hd
      · have l := lips s dir
        rw [Sin_norm _ _ hd, Cos_norm _ _ hd] at l
        exact ⟨fin _ (by omega), fin _ (by omega)⟩
      · have l := lips s (atan2F p q)
        rw [Sin_norm _ _ hd, Cos_norm _ _ hd] at l
        exact ⟨fin _ (by omega), fin _ (by omega)⟩
  rw [Int.mul_sub, Int.mul_sub] at hl
  exact ⟨ray_at (k := 12) (by omega), ray_at (k := 12) (by omega)⟩

/-! ### fly-by turns -/
theorem rnd1_spec (n d : Int) (hd : 0 < d) : (rnd 1 n d - 1) * d < n ∧ n ≤ rnd 1 n d * d := by
  unfold rnd
  simp only [show (1 : Nat) ≠ 0 from by decide, if_false, if_true]
  have := floor_bd (-n) d hd
  generalize (-n).fdiv d = k at *
  have e1 : (-k - 1) * d = -(k * d) - d := by grind
  have e2 : -k * d = -(k * d) := by grind
  omega
/-- half a turn on both sides of the bisector -/
theorem half_turn {R lead h m Cx Cy Sx Sy : Int} (hR : 0 ≤ R) (hR8 : R ≤ 8000000) (hl : 0 ≤ lead) (hl8 : lead ≤ 6000000)
    (h1 : (lead - 1) * Cos h < R * Sin h) (h2 : R * Sin h ≤ lead * Cos h)
    (hSx : -110 ≤ Sx - Sin (m - h) ∧ Sx - Sin (m - h) ≤ 110) (hCx : -110 ≤ Cx - Cos (m - h) ∧ Cx - Cos (m - h) ≤ 110)
    (hSy : -110 ≤ Sy - Sin (m + h) ∧ Sy - Sin (m + h) ≤ 110) (hCy : -110 ≤ Cy - Cos (m + h) ∧ Cy - Cos (m + h) ≤ 110) (hC : 0 ≤ Cos h) :
    (-(6 * 1073741824) ≤ R * (Cx - Cy) - lead * (Sx + Sy) ∧ R * (Cx - Cy) - lead * (Sx + Sy) ≤ 6 * 1073741824) ∧ (-(6 * 1073741824) ≤ R * (Sy - Sx) - lead * (Cx + Cy) ∧ R * (Sy - Sx) - lead * (Cx + Cy) ≤ 6 * 1073741824) := by
  have a := adds m h
  have s := subs m h
  unfold Adds at a
  have bm := Sin_bd m
  have bm' := Cos_bd m
  have bh := Cos_bd h
  generalize Sin (m - h) = Sxm at *
  generalize Cos (m - h) = Cxm at *
  generalize Sin (m + h) = Sym at *
  generalize Cos (m + h) = Cym at *
  have hG : -1073741824 ≤ R * Sin h - lead * Cos h ∧ R * Sin h - lead * Cos h ≤ 0 := by
    have e : (lead - 1) * Cos h = lead * Cos h - Cos h := by grind
    omega
  obtain ⟨G, hGe⟩ : ∃ G, G = R * Sin h - lead * Cos h := ⟨_, rfl⟩
  rw [← hGe] at hG
  have g1 := mul_abs_le (x := Sin m) (X := 1073741824) (v := G) (V := 1073741824) bm (by omega)
  have g2 := mul_abs_le (x := Cos m) (X := 1073741824) (v := G) (V := 1073741824) bm' (by omega)
  -- sums and differences, times the scale
  have d1 : -(2 * 13958643712 + 220 * 1073741824) ≤ 1073741824 * (Cx - Cy) - 2 * (Sin m * Sin h) ∧ 1073741824 * (Cx - Cy) - 2 * (Sin m * Sin h) ≤ 2 * 13958643712 + 220 * 1073741824 := by omega
  have d2 : -(2 * 13958643712 + 220 * 1073741824) ≤ 1073741824 * (Sx + Sy) - 2 * (Sin m * Cos h) ∧ 1073741824 * (Sx + Sy) - 2 * (Sin m * Cos h) ≤ 2 * 13958643712 + 220 * 1073741824 := by omega
  have d3 : -(2 * 13958643712 + 220 * 1073741824) ≤ 1073741824 * (Sy - Sx) - 2 * (Cos m * Sin h) ∧ 1073741824 * (Sy - Sx) - 2 * (Cos m * Sin h) ≤ 2 * 13958643712 + 220 * 1073741824 := by omega
  have d4 : -(2 * 13958643712 + 220 * 1073741824) ≤ 1073741824 * (Cx + Cy) - 2 * (Cos m * Cos h) ∧ 1073741824 * (Cx + Cy) - 2 * (Cos m * Cos h) ≤ 2 * 13958643712 + 220 * 1073741824 := by omega
  have p1 := mul_abs_le (x := R) (X := 8000000) (by omega) d1
  have p2 := mul_abs_le (x := lead) (X := 6000000) (by omega) d2
  have p3 := mul_abs_le (x := R) (X := 8000000) (by omega) d3
  have p4 := mul_abs_le (x := lead) (X := 6000000) (by omega) d4
  have e1 : R * (1073741824 * (Cx - Cy) - 2 * (Sin m * Sin h)) - lead * (1073741824 * (Sx + Sy) - 2 * (Sin m * Cos h)) = 1073741824 * (R * (Cx - Cy) - lead * (Sx + Sy)) - 2 * (Sin m * G) := by rw [hGe]; grind
  have e2 : R * (1073741824 * (Sy - Sx) - 2 * (Cos m * Sin h)) - lead * (1073741824 * (Cx + Cy) - 2 * (Cos m * Cos h)) = 1073741824 * (R * (Sy - Sx) - lead * (Cx + Cy)) - 2 * (Cos m * G) := by rw [hGe]; grind
  omega
end Go.Proofs.YtdfkkknkiioghaaGreat

/-
  A tangent touches its circle: the center lies abeam of the tangent point, at the distance of the radius (chapter 12). No program.
-/
namespace Go.Proofs.YtdfkkknkiioghaaGreat
set_option linter.unusedVariables false

/-- the part of a vector along its own course -/
theorem along_own {p q r : Int} (h0 : ¬ (p = 0 ∧ q = 0)) (hr1 : r * r ≤ p * p + q * q) (hr2 : p * p + q * q < (r + 1) * (r + 1)) (hr : 1 ≤ r) (hr8 : r ≤ 8000000) :
    1073741815 * r ≤ Sin (atan2F p q) * p + Cos (atan2F p q) * q ∧ Sin (atan2F p q) * p + Cos (atan2F p q) * q ≤ 1073741832 * (r + 1) ∧
    -(138 * r) ≤ Sin (atan2F p q) * q - Cos (atan2F p q) * p ∧ Sin (atan2F p q) * q - Cos (atan2F p q) * p ≤ 138 * r := by
  have hn := atan2_near h0
  have hb := big_sq p q
  have hbig0 : 0 ≤ big p q := by unfold big; omega
  have hbig : big p q ≤ r := by
    have := isq_lt' (a := big p q) (b := r + 1) (by omega) (by omega)
    omega
  have hu := unit_all (atan2F p q)
  generalize Sin (atan2F p q) = S at *
  generalize Cos (atan2F p q) = C at *
  generalize big p q = m at *
  generalize hK : S * q - C * p = K at *
  generalize hD : S * p + C * q = Dt at *
  have hD0 : 0 ≤ Dt := by omega
  have lag : Dt * Dt + K * K = (S * S + C * C) * (p * p + q * q) := by subst hK hD; grind
  generalize hN : S * S + C * C = N at *
  have hK2 := sq_bd (a := K) (m := 138 * r) (by omega) (by omega)
  have hrr1 : r * 1 ≤ r * r := Int.mul_le_mul_of_nonneg_left hr (by omega)
  have er1 : (r + 1) * (r + 1) = r * r + 2 * r + 1 := by grind
  have ek : 138 * r * (138 * r) = 19044 * (r * r) := by grind
  have hpq : 0 ≤ p * p + q * q := by have := sq_nonneg p; have := sq_nonneg q; omega
  refine ⟨?_, ?_, by omega, by omega⟩
  · apply isq_le' hD0
    have h1 : 1152921488500719616 * (p * p + q * q) ≤ N * (p * p + q * q) := Int.mul_le_mul_of_nonneg_right (by omega) hpq
    have e : 1073741815 * r * (1073741815 * r) = 1152921485279494225 * (r * r) := by grind
    rw [e]
    omega
  · apply isq_le' (by omega)
    have h1 : N * (p * p + q * q) ≤ 1152921520713023656 * (p * p + q * q) := Int.mul_le_mul_of_nonneg_right (by omega) hpq
    have e : 1073741832 * (r + 1) * (1073741832 * (r + 1)) = 1152921521786716224 * ((r + 1) * (r + 1)) := by grind
    have := sq_nonneg K
    rw [e]
    omega

/-- The tangent point: its product with the vector to the target is the square of the radius, nearly.
    (vx, vy: from the center to the target; r: its length; R: the radius; L: the tangent's length; y: the course; g: 1 for a left turn, -1 for a right one; tx, ty: the tangent point from the center) -/
theorem touch_dot {vx vy R L r g tx ty : Int} (h0 : ¬ (vx = 0 ∧ vy = 0)) (hr1 : r * r ≤ vx * vx + vy * vy) (hr2 : vx * vx + vy * vy < (r + 1) * (r + 1)) (hr8 : r ≤ 6000000)
    (hR : 100 ≤ R) (hRr : R * R < vx * vx + vy * vy) (hL0 : 0 ≤ L) (hL1 : L * L ≤ vx * vx + vy * vy - R * R) (hL2 : vx * vx + vy * vy - R * R < (L + 1) * (L + 1))
    (hg : g = 1 ∨ g = -1) (htx : tx = rayX R (turnF (atan2F vx vy) (g * atan2F L R))) (hty : ty = rayY R (turnF (atan2F vx vy) (g * atan2F L R))) :
    (-(5 * R * 1073741824 + 760000000 * (r + 1)) ≤ 1073741824 * (vx * tx + vy * ty - R * R) ∧ 1073741824 * (vx * tx + vy * ty - R * R) ≤ 5 * R * 1073741824 + 760000000 * (r + 1)) ∧
    (-(R * 1100000000 + 760000000 * (r + 1)) ≤ -g * (1073741824 * (vx * ty - vy * tx))) := by
  have hRr' : R ≤ r := by
    have := isq_lt' (a := R) (b := r + 1) (by
      rcases Int.lt_or_le r (-1) with h | h
      · exfalso
        have : (r + 1) * (r + 1) ≤ r * r := by
          have e : (r + 1) * (r + 1) = r * r + 2 * r + 1 := by grind
          omega
        omega
      · omega) (by omega)
    omega
  have hLr : L ≤ r := by
    have := isq_lt' (a := L) (b := r + 1) (by omega) (by have := sq_nonneg R; omega)
    omega
  have hLR0 : ¬ (L = 0 ∧ R = 0) := by omega
  obtain ⟨rz, hrz⟩ : ∃ rz : Int, rz = isq (L * L + R * R).toNat := ⟨_, rfl⟩
  have hz := isq_int (L * L + R * R) (by have := sq_nonneg L; have := sq_nonneg R; omega)
  rw [← hrz] at hz
  have hrz0 : 0 ≤ rz := by omega
  have eL : (L + 1) * (L + 1) = L * L + 2 * L + 1 := by grind
  have hrz1 : rz ≤ r := by
    have := isq_lt' (a := rz) (b := r + 1) (by omega) (by omega)
    omega
  have hrz2 : r - 2 ≤ rz := by
    have := isq_lt' (a := r - 2) (b := rz + 1) (by omega) (by
      have e : (r - 2) * (r - 2) = r * r - 4 * r + 4 := by grind
      omega)
    omega
  have A1 := along_own h0 hr1 hr2 (by omega) (by omega)
  have A2 := along_own hLR0 hz.1 hz.2 (by omega) (by omega)
  have hv := big_sq vx vy
  have hvb : (-r ≤ vx ∧ vx ≤ r) ∧ (-r ≤ vy ∧ vy ≤ r) := by
    have a := isq_lt' (a := big vx vy) (b := r + 1) (by omega) (by omega)
    unfold big at a
    omega
  have hS2 : 0 ≤ Sin (atan2F L R) := by
    have e : atan2F L R = atanQ L R := by unfold atan2F; rw [if_pos hL0, if_pos (by omega)]
    have b := atanQ_bd L R
    rw [e, Sin_q b.1 b.2]
    exact (qsin_bd b.1 b.2).1
  have u2 := unit_all (atan2F L R)
  -- the direction of the tangent point
  have hZ : (-13958643712 ≤ Sin (atan2F vx vy) * Cos (atan2F L R) + g * (Cos (atan2F vx vy) * Sin (atan2F L R)) - 1073741824 * Sin (turnF (atan2F vx vy) (g * atan2F L R)) ∧ Sin (atan2F vx vy) * Cos (atan2F L R) + g * (Cos (atan2F vx vy) * Sin (atan2F L R)) - 1073741824 * Sin (turnF (atan2F vx vy) (g * atan2F L R)) ≤ 13958643712) ∧
      (-13958643712 ≤ Cos (atan2F vx vy) * Cos (atan2F L R) - g * (Sin (atan2F vx vy) * Sin (atan2F L R)) - 1073741824 * Cos (turnF (atan2F vx vy) (g * atan2F L R)) ∧ Cos (atan2F vx vy) * Cos (atan2F L R) - g * (Sin (atan2F vx vy) * Sin (atan2F L R)) - 1073741824 * Cos (turnF (atan2F vx vy) (g * atan2F L R)) ≤ 13958643712) := by
    have hn : ∀ a b : Int, norm (turnF a b) = norm (a + b) := fun a b => by rw [turnF_eq]; unfold norm; omega
    rw [Sin_norm _ _ (hn _ _), Cos_norm _ _ (hn _ _)]
    rcases hg with rfl | rfl
    · have a := adds (atan2F vx vy) (atan2F L R)
      unfold Adds at a
      rw [Int.one_mul, Int.one_mul, Int.one_mul]
      exact a
    · have a := subs (atan2F vx vy) (atan2F L R)
      rw [show atan2F vx vy + -1 * atan2F L R = atan2F vx vy - atan2F L R from by omega]
      omega
  have r1 := rnd2_one (R * Sin (turnF (atan2F vx vy) (g * atan2F L R)))
  have r2 := rnd2_one (R * Cos (turnF (atan2F vx vy) (g * atan2F L R)))
  unfold rayX at htx
  unfold rayY at hty
  rw [← htx] at r1
  rw [← hty] at r2
  clear htx hty hrz hz
  generalize turnF (atan2F vx vy) (g * atan2F L R) = Z at *
  generalize Sin Z = SZ at *
  generalize Cos Z = CZ at *
  have bS2 := Sin_bd (atan2F L R)
  have bC2 := Cos_bd (atan2F L R)
  generalize Sin (atan2F vx vy) = S1 at *
  generalize Cos (atan2F vx vy) = C1 at *
  generalize Sin (atan2F L R) = S2 at *
  generalize Cos (atan2F L R) = C2 at *
  obtain ⟨da, hda⟩ : ∃ da, da = S1 * C2 + g * (C1 * S2) - 1073741824 * SZ := ⟨_, rfl⟩
  obtain ⟨db, hdb⟩ : ∃ db, db = C1 * C2 - g * (S1 * S2) - 1073741824 * CZ := ⟨_, rfl⟩
  obtain ⟨ex, hex⟩ : ∃ ex, ex = tx * 1073741824 - R * SZ := ⟨_, rfl⟩
  obtain ⟨ey, hey⟩ : ∃ ey, ey = ty * 1073741824 - R * CZ := ⟨_, rfl⟩
  rw [← hda, ← hdb] at hZ
  -- the rounding's products with the vector
  have sx := sq_bd (a := ex) (m := 536870912) (by omega) (by omega)
  have sy := sq_bd (a := ey) (m := 536870912) (by omega) (by omega)
  have hrr : 0 ≤ (r + 1) * (r + 1) := sq_nonneg _
  have l1 := lagrange vx vy ex ey
  have hve : (vx * vx + vy * vy) * (ex * ex + ey * ey) ≤ (r + 1) * (r + 1) * (2 * (536870912 * 536870912)) := Int.mul_le_mul (by omega) (by omega) (by have := sq_nonneg ex; have := sq_nonneg ey; omega) hrr
  have n1 := sq_nonneg (vx * ex + vy * ey)
  have n2 := sq_nonneg (vx * ey - vy * ex)
  have e76 : 760000000 * (r + 1) * (760000000 * (r + 1)) = 577600000000000000 * ((r + 1) * (r + 1)) := by grind
  have c1 : vx * ex + vy * ey ≤ 760000000 * (r + 1) := isq_le' (by omega) (by rw [e76]; omega)
  have c2 : -(vx * ex + vy * ey) ≤ 760000000 * (r + 1) := isq_le' (by omega) (by rw [e76, Int.neg_mul_neg]; omega)
  have c3 : vx * ey - vy * ex ≤ 760000000 * (r + 1) := isq_le' (by omega) (by rw [e76]; omega)
  have c4 : -(vx * ey - vy * ex) ≤ 760000000 * (r + 1) := isq_le' (by omega) (by rw [e76, Int.neg_mul_neg]; omega)
  -- products with the direction
  have a1 := mul_abs_le (x := vx) (X := r) hvb.1 hZ.1
  have a2 := mul_abs_le (x := vy) (X := r) hvb.2 hZ.2
  have a3 := mul_abs_le (x := vx) (X := r) hvb.1 hZ.2
  have a4 := mul_abs_le (x := vy) (X := r) hvb.2 hZ.1
  obtain ⟨D1, hD1⟩ : ∃ D1, D1 = S1 * vx + C1 * vy := ⟨_, rfl⟩
  obtain ⟨K1, hK1⟩ : ∃ K1, K1 = S1 * vy - C1 * vx := ⟨_, rfl⟩
  obtain ⟨D2, hD2⟩ : ∃ D2, D2 = S2 * L + C2 * R := ⟨_, rfl⟩
  obtain ⟨K2, hK2⟩ : ∃ K2, K2 = S2 * R - C2 * L := ⟨_, rfl⟩
  rw [← hD1, ← hK1] at A1
  rw [← hD2, ← hK2] at A2
  have b1 := mul_abs_le (x := S2) (X := 1073741824) (v := K2) (V := 138 * r) bS2 (by omega)
  have b2 := mul_abs_le (x := S2) (X := 1073741824) (v := K1) (V := 138 * r) bS2 (by omega)
  have b3 := mul_abs_le (x := C2) (X := 1073741824) (v := D1 - D2) (V := 3 * 1073741824 + 17 * r) bC2 (by omega)
  have b4 := mul_abs_le (x := C2) (X := 1073741824) (v := K1) (V := 138 * r) bC2 (by omega)
  have b5 : 0 ≤ S2 * D1 := Int.mul_nonneg hS2 (by omega)
  have rN : R * (S2 * S2 + C2 * C2) = C2 * D2 + S2 * K2 := by rw [hD2, hK2]; grind
  have rN1 : R * 1152921488500719616 ≤ R * (S2 * S2 + C2 * C2) := Int.mul_le_mul_of_nonneg_left (by omega) (by omega)
  have rN2 : R * (S2 * S2 + C2 * C2) ≤ R * 1152921520713023656 := Int.mul_le_mul_of_nonneg_left (by omega) (by omega)
  have eb3 : C2 * (D1 - D2) = C2 * D1 - C2 * D2 := by grind
  rw [eb3] at b3
  have dot1 : 1073741824 * (vx * SZ + vy * CZ) = C2 * D1 - g * (S2 * K1) - (vx * da + vy * db) := by rw [hD1, hK1, hda, hdb]; grind
  have crs1 : 1073741824 * (vx * CZ - vy * SZ) = -(C2 * K1) - g * (S2 * D1) - (vx * db - vy * da) := by rw [hD1, hK1, hda, hdb]; grind
  have dot2 : 1073741824 * (vx * tx + vy * ty) = R * (vx * SZ + vy * CZ) + (vx * ex + vy * ey) := by rw [hex, hey]; grind
  have crs2 : 1073741824 * (vx * ty - vy * tx) = R * (vx * CZ - vy * SZ) + (vx * ey - vy * ex) := by rw [hex, hey]; grind
  generalize vx * SZ + vy * CZ = P at *
  generalize vx * CZ - vy * SZ = Q at *
  have hP : -(5 * 1073741824) ≤ P - R * 1073741824 ∧ P - R * 1073741824 ≤ 5 * 1073741824 := by
    rcases hg with rfl | rfl <;> omega
  have hQ : -1100000000 ≤ -g * Q := by
    rcases hg with rfl | rfl <;> omega
  have m1 := Int.mul_le_mul_of_nonneg_left hP.1 (show 0 ≤ R by omega)
  have m2 := Int.mul_le_mul_of_nonneg_left hP.2 (show 0 ≤ R by omega)
  have m3 := Int.mul_le_mul_of_nonneg_left hQ (show 0 ≤ R by omega)
  have e1 : R * (P - R * 1073741824) = R * P - 1073741824 * (R * R) := by grind
  have e2 : R * (-g * Q) = -g * (R * Q) := by grind
  rw [e1] at m1 m2
  rw [e2] at m3
  constructor
  · have e3 : 1073741824 * (vx * tx + vy * ty - R * R) = 1073741824 * (vx * tx + vy * ty) - 1073741824 * (R * R) := by grind
    rw [e3, dot2]
    omega
  · rw [crs2]
    rcases hg with rfl | rfl <;> omega

/-- a rounded ray's length -/
theorem ray_len {R d : Int} (hR : 100 ≤ R) (hR8 : R ≤ 8000000) :
    (100 * R - 77) * (100 * R - 77) ≤ 10000 * (rayX R d * rayX R d + rayY R d * rayY R d) ∧ 10000 * (rayX R d * rayX R d + rayY R d * rayY R d) ≤ (100 * R + 77) * (100 * R + 77) := by
  have hr := ray_round R d
  have ex := ray_exact_bd (d := R) (dist := R) (c := d) rfl (by omega) hR8
  generalize rayX R d = X at *
  generalize rayY R d = Y at *
  generalize R * Sin d = A at *
  generalize R * Cos d = B at *
  have e1 : 100 * (X * 1073741824 - A) * (100 * (X * 1073741824 - A)) + 100 * (Y * 1073741824 - B) * (100 * (Y * 1073741824 - B)) = 10000 * ((X * 1073741824 - A) * (X * 1073741824 - A) + (Y * 1073741824 - B) * (Y * 1073741824 - B)) := by grind
  have e1' : 100 * (A - X * 1073741824) * (100 * (A - X * 1073741824)) + 100 * (B - Y * 1073741824) * (100 * (B - Y * 1073741824)) = 10000 * ((X * 1073741824 - A) * (X * 1073741824 - A) + (Y * 1073741824 - B) * (Y * 1073741824 - B)) := by grind
  have e2 : 100 * A * (100 * A) + 100 * B * (100 * B) = 10000 * (A * A + B * B) := by grind
  have e4 : 107374182400 * X * (107374182400 * X) + 107374182400 * Y * (107374182400 * Y) = 1152921504606846976 * (10000 * (X * X + Y * Y)) := by grind
  have hRR : R * R ≤ R * 8000000 := Int.mul_le_mul_of_nonneg_left hR8 (by omega)
  have hRR0 := sq_nonneg R
  have e3 : (100 * R * 1073741824 + 6100000000) * (100 * R * 1073741824 + 6100000000) = 10000 * (R * R * 1152921504606846976) + 1309965025280000000000 * R + 37210000000000000000 := by grind
  constructor
  · -- the exact vector is not longer than the rounded one and the rounding
    have hWW : 0 ≤ X * X + Y * Y := by have := sq_nonneg X; have := sq_nonneg Y; omega
    rcases Int.lt_or_le (10000 * (X * X + Y * Y)) ((100 * R - 77) * (100 * R - 77)) with h | h
    · exfalso
      have e5 : (107374182400 * R - 82678120448) * (107374182400 * R - 82678120448) = 1152921504606846976 * ((100 * R - 77) * (100 * R - 77)) := by grind
      have t := tri (a := 107374182400 * X) (b := 107374182400 * Y) (c := 100 * (A - X * 1073741824)) (d := 100 * (B - Y * 1073741824)) (x := 107374182400 * R - 82678120448) (y := 75930000000) (by omega) (by decide) (by rw [e4, e5]; omega) (by rw [e1']; omega)
      rw [show 107374182400 * X + 100 * (A - X * 1073741824) = 100 * A from by omega, show 107374182400 * Y + 100 * (B - Y * 1073741824) = 100 * B from by omega, e2] at t
      have e6 : (107374182400 * R - 82678120448 + 75930000000) * (107374182400 * R - 82678120448 + 75930000000) = 10000 * (R * R * 1152921504606846976) - 1449147837054597529600 * R + 45537130180671760704 := by grind
      rw [e6] at t
      omega
    · exact h
  · have t := tri (a := 100 * A) (b := 100 * B) (c := 100 * (X * 1073741824 - A)) (d := 100 * (Y * 1073741824 - B)) (x := 100 * R * 1073741824 + 6100000000) (y := 75930000000) (by omega) (by decide) (by rw [e2, e3]; omega) (by rw [e1]; omega)
    rw [show 100 * A + 100 * (X * 1073741824 - A) = 107374182400 * X from by omega, show 100 * B + 100 * (Y * 1073741824 - B) = 107374182400 * Y from by omega, e4] at t
    have e7 : (100 * R * 1073741824 + 6100000000 + 75930000000) * (100 * R * 1073741824 + 6100000000 + 75930000000) ≤ 1152921504606846976 * ((100 * R + 77) * (100 * R + 77)) := by
      have e8 : 1152921504606846976 * ((100 * R + 77) * (100 * R + 77)) = (107374182400 * R + 82678120448) * (107374182400 * R + 82678120448) := by grind
      rw [e8]
      exact Int.mul_le_mul (by omega) (by omega) (by omega) (by omega)
    omega

/-- The center lies abeam of the tangent point. -/
theorem touch {vx vy R L r g tx ty D : Int} (h0 : ¬ (vx = 0 ∧ vy = 0)) (hr1 : r * r ≤ vx * vx + vy * vy) (hr2 : vx * vx + vy * vy < (r + 1) * (r + 1)) (hr8 : r ≤ 6000000)
    (hR : 100 ≤ R) (hR8 : R ≤ 8000000) (hRr : R * R < vx * vx + vy * vy) (hL0 : 0 ≤ L) (hL1 : L * L ≤ vx * vx + vy * vy - R * R) (hL2 : vx * vx + vy * vy - R * R < (L + 1) * (L + 1))
    (hg : g = 1 ∨ g = -1) (htx : tx = rayX R (turnF (atan2F vx vy) (g * atan2F L R))) (hty : ty = rayY R (turnF (atan2F vx vy) (g * atan2F L R)))
    (hD1 : D * D ≤ (vx - tx) * (vx - tx) + (vy - ty) * (vy - ty)) (hD2 : (vx - tx) * (vx - tx) + (vy - ty) * (vy - ty) < (D + 1) * (D + 1)) (hDR : R ≤ D) :
    (lenF (vx * ty - vy * tx) ((vx - tx) * (vx - tx) + (vy - ty) * (vy - ty)) - -g * R ≤ 8 ∧ -g * R - lenF (vx * ty - vy * tx) ((vx - tx) * (vx - tx) + (vy - ty) * (vy - ty)) ≤ 8) ∧
    (lenF (tx * tx + ty * ty - (vx * tx + vy * ty)) ((vx - tx) * (vx - tx) + (vy - ty) * (vy - ty)) ≤ 8 ∧ -lenF (tx * tx + ty * ty - (vx * tx + vy * ty)) ((vx - tx) * (vx - tx) + (vy - ty) * (vy - ty)) ≤ 8) := by
  have T := touch_dot h0 hr1 hr2 hr8 hR hRr hL0 hL1 hL2 hg htx hty
  have hl := ray_len (R := R) (d := turnF (atan2F vx vy) (g * atan2F L R)) hR hR8
  rw [← htx, ← hty] at hl
  clear htx hty
  have eA : (100 * R + 77) * (100 * R + 77) = 10000 * (R * R) + 15400 * R + 5929 := by grind
  have eB : (100 * R - 77) * (100 * R - 77) = 10000 * (R * R) - 15400 * R + 5929 := by grind
  rw [eA, eB] at hl
  -- the target is not farther away than the tangent and the radius
  have hrD : r ≤ D + R + 1 := by
    have t := tri_lt (a := 100 * (vx - tx)) (b := 100 * (vy - ty)) (c := 100 * tx) (d := 100 * ty) (x := 100 * (D + 1)) (y := 100 * R + 77) (by omega) (by omega)
      (by
        have e1 : 100 * (vx - tx) * (100 * (vx - tx)) + 100 * (vy - ty) * (100 * (vy - ty)) = 10000 * ((vx - tx) * (vx - tx) + (vy - ty) * (vy - ty)) := by grind
        have e2 : 100 * (D + 1) * (100 * (D + 1)) = 10000 * ((D + 1) * (D + 1)) := by grind
        rw [e1, e2]; omega)
      (by
        have e1 : 100 * tx * (100 * tx) + 100 * ty * (100 * ty) = 10000 * (tx * tx + ty * ty) := by grind
        rw [e1, eA]; omega)
    rw [show 100 * (vx - tx) + 100 * tx = 100 * vx from by omega, show 100 * (vy - ty) + 100 * ty = 100 * vy from by omega] at t
    have e3 : 100 * vx * (100 * vx) + 100 * vy * (100 * vy) = 10000 * (vx * vx + vy * vy) := by grind
    have e4 : 100 * r * (100 * r) = 10000 * (r * r) := by grind
    rw [e3] at t
    have := isq_lt' (a := 100 * r) (b := 100 * (D + 1) + (100 * R + 77)) (by omega) (by rw [e4]; omega)
    omega
  have hlag := lagrange (vx - tx) (vy - ty) (-tx) (-ty)
  have e5 : (vx - tx) * -tx + (vy - ty) * -ty = tx * tx + ty * ty - (vx * tx + vy * ty) := by grind
  have e6 : (vx - tx) * -ty - (vy - ty) * -tx = -(vx * ty - vy * tx) := by grind
  have e7 : -tx * -tx + -ty * -ty = tx * tx + ty * ty := by grind
  rw [e5, e6, e7, Int.neg_mul_neg] at hlag
  have hDD : R * R ≤ D * D := sq_mono (by omega) hDR
  have hDR2 : 100 * 100 ≤ R * R := sq_mono (by decide) hR
  generalize vx * tx + vy * ty = dt at *
  generalize vx * ty - vy * tx = cr at *
  generalize (vx - tx) * (vx - tx) + (vy - ty) * (vy - ty) = s at *
  generalize tx * tx + ty * ty = q at *
  generalize hRR : R * R = RR at *
  have hs : 0 < s := by omega
  -- along
  have hw : -(8 * D) ≤ q - dt ∧ q - dt ≤ 8 * D := by omega
  have hw2 := sq_bd hw.1 hw.2
  have e8 : 8 * D * (8 * D) = 64 * (D * D) := by grind
  rw [e8] at hw2
  have k1 : lenN (q - dt) s ≤ 8 := lenN_le hs (by decide) (by omega)
  have k2 := (lenN_spec (q - dt) s hs).1
  -- across
  have hqs : s * q ≤ s * ((R + 1) * (R + 1)) := Int.mul_le_mul_of_nonneg_left (by
    have : (R + 1) * (R + 1) = RR + 2 * R + 1 := by rw [← hRR]; grind
    omega) (by omega)
  have hqs2 : s * ((R - 2) * (R - 2) + 64) ≤ s * q := Int.mul_le_mul_of_nonneg_left (by
    have : (R - 2) * (R - 2) = RR - 4 * R + 4 := by rw [← hRR]; grind
    omega) (by omega)
  have hw0 := sq_nonneg (q - dt)
  have k3 : lenN cr s ≤ R + 1 := lenN_le hs (by omega) (by
    have e : (R + 1) * (R + 1) * s = s * ((R + 1) * (R + 1)) := Int.mul_comm _ _
    rw [e]; omega)
  have k4 : R - 2 ≤ lenN cr s := le_lenN hs (by
    have e : s * ((R - 2) * (R - 2) + 64) = (R - 2) * (R - 2) * s + 64 * s := by grind
    omega)
  have hcr : 98 * D ≤ cr ∨ cr ≤ -(98 * D) := by
    rcases Int.lt_or_le cr (98 * D) with h1 | h1
    · rcases Int.lt_or_le (-(98 * D)) cr with h2 | h2
      · exfalso
        have h3 := sq_bd (a := cr) (m := 98 * D) (by omega) (by omega)
        have e9 : 98 * D * (98 * D) = 9604 * (D * D) := by grind
        have e10 : (98 : Int) * 98 * s ≤ (R - 2) * (R - 2) * s := Int.mul_le_mul_of_nonneg_right (Int.mul_le_mul (by omega) (by omega) (by decide) (by omega)) (by omega)
        have e11 : s * ((R - 2) * (R - 2) + 64) = (R - 2) * (R - 2) * s + 64 * s := by grind
        rw [e9] at h3
        have : cr * cr < 98 * 98 * s := by
          have hlt : -(98 * D) < cr ∧ cr < 98 * D := ⟨h2, h1⟩
          have h4 := sq_bd (a := cr) (m := 98 * D - 1) (by omega) (by omega)
          have e12 : (98 * D - 1) * (98 * D - 1) = 9604 * (D * D) - 196 * D + 1 := by grind
          rw [e12] at h4
          omega
        omega
      · exact .inr h2
    · exact .inl h1
  have l1 := lenF_cases cr s
  have l2 := lenF_cases (q - dt) s
  obtain ⟨T1, T2⟩ := T
  constructor
  · rcases hg with rfl | rfl <;> omega
  · omega
end Go.Proofs.YtdfkkknkiioghaaGreat

/-
  The rest of chapter 12 as plain functions: fly-by turns, tangents, arcs around a center; the laws of them. No program.
-/
namespace Go.Proofs.YtdfkkknkiioghaaGreat
set_option linter.unusedVariables false

/-- the distance of a turn's ends from its corner -/
def leadF (r d : Int) : Int := rnd 1 (r * Sin ((d.natAbs : Int) / 2)) (Cos ((d.natAbs : Int) / 2))
def zeros10 : List Int := [0, 0, 0, 0, 0, 0, 0, 0, 0, 0]
/-- a fly-by turn of the courses x and y, between lines of given lengths: center, radius, from, sweep, start, end, lead; the error -/
def flyGo (bx b_y x y r m n : Int) : List Int × Int :=
  if 54000000 < (diffF x y).natAbs then (zeros10, 10) else
  if leadF r (diffF x y) > m ∨ leadF r (diffF x y) > n then (zeros10, 10) else
  if (rayF bx b_y (turnF x 64800000) (leadF r (diffF x y))).2.2 ≠ 0 then (zeros10, 2) else
  if (rayF bx b_y y (leadF r (diffF x y))).2.2 ≠ 0 then (zeros10, 2) else
  if (rayF (rayF bx b_y (turnF x 64800000) (leadF r (diffF x y))).1 (rayF bx b_y (turnF x 64800000) (leadF r (diffF x y))).2.1 (turnF x (sideOf (diffF x y) 32400000)) r).2.2 ≠ 0 then (zeros10, 2) else
  ([(rayF (rayF bx b_y (turnF x 64800000) (leadF r (diffF x y))).1 (rayF bx b_y (turnF x 64800000) (leadF r (diffF x y))).2.1 (turnF x (sideOf (diffF x y) 32400000)) r).1,
    (rayF (rayF bx b_y (turnF x 64800000) (leadF r (diffF x y))).1 (rayF bx b_y (turnF x 64800000) (leadF r (diffF x y))).2.1 (turnF x (sideOf (diffF x y) 32400000)) r).2.1,
    r, turnF x (-sideOf (diffF x y) 32400000), diffF x y,
    (rayF bx b_y (turnF x 64800000) (leadF r (diffF x y))).1, (rayF bx b_y (turnF x 64800000) (leadF r (diffF x y))).2.1,
    (rayF bx b_y y (leadF r (diffF x y))).1, (rayF bx b_y y (leadF r (diffF x y))).2.1, leadF r (diffF x y)], 0)
def flyF (ax ay bx b_y cx cy r : Int) : List Int × Int :=
  if !(vldB ax ay && vldB bx b_y && vldB cx cy) then (zeros10, 1) else
  if r < 1 ∨ r > 8000000 then (zeros10, 2) else
  if (ax = bx ∧ ay = b_y) ∨ (bx = cx ∧ b_y = cy) then (zeros10, 10) else
  flyGo bx b_y (atan2F (bx - ax) (b_y - ay)) (atan2F (cx - bx) (cy - b_y)) r (distF ax ay bx b_y) (distF bx b_y cx cy)
/-- the tangent's direction from the center -/
def tanDir (cx cy r px py : Int) (right : Bool) : Int :=
  turnF (atan2F (px - cx) (py - cy)) (if right then -atan2F (isq (dist2 cx cy px py - r * r).toNat) r else atan2F (isq (dist2 cx cy px py - r * r).toNat) r)
def tanF (cx cy r px py : Int) (right : Bool) : Int × Int × Int :=
  if !(vldB cx cy && vldB px py) then (0, 0, 1) else
  if r < 1 ∨ r > 8000000 then (0, 0, 2) else
  if dist2 cx cy px py ≤ r * r then (0, 0, 10) else
  if (rayF cx cy (tanDir cx cy r px py right) r).2.2 ≠ 0 then (0, 0, 2) else
  ((rayF cx cy (tanDir cx cy r px py right) r).1, (rayF cx cy (tanDir cx cy r px py right) r).2.1, 0)
/-- how far an arc around a center turns -/
def arSweep (right : Bool) (x y : Int) : Int := if right then (if sweepF true x y = 0 then 129600000 else sweepF true x y) else -(if sweepF false x y = 0 then 129600000 else sweepF false x y)
def zeros5 : List Int := [0, 0, 0, 0, 0]
def aroundF (ax ay cx cy bx b_y : Int) (right : Bool) : List Int × Int :=
  if !(vldB ax ay && vldB cx cy && vldB bx b_y) then (zeros5, 1) else
  if distF cx cy ax ay = 0 ∨ distF cx cy bx b_y = 0 ∨ distF cx cy ax ay - distF cx cy bx b_y > 8 ∨ distF cx cy bx b_y - distF cx cy ax ay > 8 then (zeros5, 10) else
  ([cx, cy, distF cx cy ax ay, atan2F (ax - cx) (ay - cy), arSweep right (atan2F (ax - cx) (ay - cy)) (atan2F (bx - cx) (b_y - cy))], 0)

/-! ### fly-by turns -/
theorem Cos_h_pos {h : Int} (h0 : 0 ≤ h) (h1 : h ≤ 27000000) : 277000000 ≤ Cos h := by
  rw [← Sin_quarter_sub]
  have := Sin_mono (a := 5400000) (b := 32400000 - h) (by omega) (by omega) (by omega)
  have e : 277000000 ≤ Sin 5400000 := by decide +kernel
  omega
theorem Cos_h_big {h : Int} (h0 : 0 ≤ h) (h1 : h ≤ 5200000) : 1030000000 ≤ Cos h := by
  rw [← Sin_quarter_sub]
  have := Sin_mono (a := 27200000) (b := 32400000 - h) (by omega) (by omega) (by omega)
  have e : 1030000000 ≤ Sin 27200000 := by decide +kernel
  omega
theorem Sin_h_bd {h : Int} (h0 : 0 ≤ h) (h1 : h ≤ 32400000) : 0 ≤ Sin h ∧ Sin h ≤ 84 * h := by
  have := lips h.toNat 0
  have e : ((h.toNat : Nat) : Int) = h := by omega
  rw [e, Int.zero_add, show Sin 0 = 0 from by decide +kernel] at this
  have := qsin_bd h0 h1
  rw [Sin_q h0 h1]
  rw [Sin_q h0 h1] at *
  omega
theorem leadF_spec {r d : Int} (hr : 0 ≤ r) (hd : d.natAbs ≤ 54000000) :
    (leadF r d - 1) * Cos ((d.natAbs : Int) / 2) < r * Sin ((d.natAbs : Int) / 2) ∧ r * Sin ((d.natAbs : Int) / 2) ≤ leadF r d * Cos ((d.natAbs : Int) / 2) ∧ 0 ≤ leadF r d := by
  have hc := Cos_h_pos (h := (d.natAbs : Int) / 2) (by omega) (by omega)
  have hs := Sin_h_bd (h := (d.natAbs : Int) / 2) (by omega) (by omega)
  have h := rnd1_spec (r * Sin ((d.natAbs : Int) / 2)) (Cos ((d.natAbs : Int) / 2)) (by omega)
  refine ⟨h.1, h.2, ?_⟩
  unfold leadF
  have hp : 0 ≤ r * Sin ((d.natAbs : Int) / 2) := Int.mul_nonneg hr hs.1
  generalize rnd 1 (r * Sin ((d.natAbs : Int) / 2)) (Cos ((d.natAbs : Int) / 2)) = l at *
  apply Classical.byContradiction
  intro hn
  have : l * Cos ((d.natAbs : Int) / 2) ≤ (-1) * Cos ((d.natAbs : Int) / 2) := Int.mul_le_mul_of_nonneg_right (by omega) (by omega)
  omega
theorem leadF_hi {r d : Int} (hr : 0 ≤ r) (hr8 : r ≤ 8000000) (hd : d.natAbs ≤ 54000000) : leadF r d ≤ 40000000 := by
  have h := leadF_spec hr hd
  have hc := Cos_h_pos (h := (d.natAbs : Int) / 2) (by omega) (by omega)
  have hs := Sin_bd ((d.natAbs : Int) / 2)
  apply Classical.byContradiction
  intro hn
  have e1 : r * Sin ((d.natAbs : Int) / 2) ≤ 8000000 * 1073741824 := by
    have a := Int.mul_le_mul_of_nonneg_left hs.2 hr
    have b : r * 1073741824 ≤ 8000000 * 1073741824 := Int.mul_le_mul_of_nonneg_right hr8 (by omega)
    omega
  have e2 : 40000000 * Cos ((d.natAbs : Int) / 2) ≤ (leadF r d - 1) * Cos ((d.natAbs : Int) / 2) := Int.mul_le_mul_of_nonneg_right (by omega) (by omega)
  omega
/-- a rounded ray and the same in the opposite direction -/
theorem ray_opp (r S : Int) : rnd 2 (r * S) 1073741824 + rnd 2 (r * -S) 1073741824 ≤ 1 ∧ -1 ≤ rnd 2 (r * S) 1073741824 + rnd 2 (r * -S) 1073741824 := by
  have := rnd2_one (r * S)
  have h := rnd2_one (r * -S)
  rw [Int.mul_neg] at *
  omega
theorem rnd2_zero (d : Int) (hd : 0 < d) : rnd 2 0 d = 0 := by
  unfold rnd
  simp only [show (2 : Nat) ≠ 0 from by decide, show (2 : Nat) ≠ 1 from by decide, if_false]
  exact floor_of (by omega) (by omega) (by omega)
theorem rnd2_mul (s n : Int) (hn : 0 < n) : rnd 2 (n * s) n = s := by
  unfold rnd
  simp only [show (2 : Nat) ≠ 0 from by decide, show (2 : Nat) ≠ 1 from by decide, if_false]
  have e : s * (2 * n) = 2 * (n * s) := by grind
  exact floor_of (by omega) (by omega) (by omega)
theorem arcLen_eq {cx cy r f s : Int} (h : arcB cx cy r f s = true) : arcLen cx cy r f s = rnd 2 (r * s.natAbs) 20626481 := by unfold arcLen; rw [if_pos h]
theorem arcB_iff (cx cy r f s : Int) : arcB cx cy r f s = true ↔ (vldB cx cy = true ∧ 1 ≤ r ∧ r ≤ 8000000 ∧ 0 ≤ f ∧ f < 129600000 ∧ -129600000 ≤ s ∧ s ≤ 129600000) := by
  unfold arcB
  rw [Bool.and_eq_true, decide_eq_true_iff]
theorem arcLen_bd (cx cy r f s : Int) : 0 ≤ arcLen cx cy r f s ∧ arcLen cx cy r f s ≤ 60000000 := by
  unfold arcLen
  split
  · rename_i h
    obtain ⟨_, h1, h2, _, _, h3, h4⟩ := (arcB_iff _ _ _ _ _).1 h
    rw [rndLen]
    have : 0 ≤ r * (s.natAbs : Int) := Int.mul_nonneg (by omega) (by omega)
    have : r * (s.natAbs : Int) ≤ 8000000 * 129600000 := Int.mul_le_mul h2 (by omega) (by omega) (by omega)
    omega
  · omega
/-- what a ray without an error comes to -/
theorem ray_ok {px py c d : Int} (h : (rayF px py c d).2.2 = 0) : vldB px py = true ∧ -8000000 ≤ d ∧ d ≤ 8000000 ∧ vldB (px + rayX d c) (py + rayY d c) = true ∧ (rayF px py c d).1 = px + rayX d c ∧ (rayF px py c d).2.1 = py + rayY d c := by
  unfold rayF at h ⊢
  by_cases h1 : vldB px py = true
  · rw [if_neg (by simp [h1])] at h ⊢
    by_cases h2 : d > 8000000 ∨ d < -8000000
    · rw [if_pos h2] at h
      exact absurd h (fun h => by cases h)
    · rw [if_neg h2] at h ⊢
      by_cases h3 : vldB (px + rayX d c) (py + rayY d c) = true
      · rw [if_pos h3]
        exact ⟨h1, by omega, by omega, h3, rfl, rfl⟩
      · rw [if_neg h3] at h
        exact absurd h (fun h => by cases h)
  · rw [if_pos (by simp [h1])] at h
    exact absurd h (fun h => by cases h)
/-- what the point at a length along an arc comes to -/
theorem arcAt_code {cx cy r f s al : Int} (hB : arcB cx cy r f s = true) (h0 : 0 ≤ al) (h1 : al ≤ arcLen cx cy r f s) : (arcAt cx cy r f s al).2.2.2 = 0 ∨ (arcAt cx cy r f s al).2.2.2 = 2 := by
  unfold arcAt
  rw [hB]
  simp only [Bool.not_true, Bool.false_eq_true, if_false]
  rw [if_neg (by omega)]
  split
  · exact .inl rfl
  · exact .inr rfl
theorem arcAt_ok {cx cy r f s al : Int} (hB : arcB cx cy r f s = true) (h0 : 0 ≤ al) (h1 : al ≤ arcLen cx cy r f s) (h : (arcAt cx cy r f s al).2.2.2 = 0) :
    (arcAt cx cy r f s al).1 = cx + rayX r (arcDir f s (arcLen cx cy r f s) al) ∧ (arcAt cx cy r f s al).2.1 = cy + rayY r (arcDir f s (arcLen cx cy r f s) al) := by
  unfold arcAt at *
  rw [hB] at *
  simp only [Bool.not_true, Bool.false_eq_true, if_false] at *
  rw [if_neg (by omega)] at *
  split at h
  · rename_i h2
    rw [if_pos h2]
    have := ray_ok h2
    exact ⟨this.2.2.2.2.1, this.2.2.2.2.2⟩
  · exact absurd h (by decide)
theorem arcDir_zero (f s n : Int) (hf : 0 ≤ f) (hf2 : f < 129600000) : arcDir f s n 0 = f := by
  unfold arcDir arcW
  have e : (if 0 < n then rnd 2 (0 * (s.natAbs : Int)) n else 0) = 0 := by
    split
    · rename_i h; rw [Int.zero_mul]; exact rnd2_zero n h
    · rfl
  rw [e, turnF_eq]
  unfold sideOf
  split <;> omega
theorem arcDir_end (f s n : Int) (hn : 0 < n) : arcDir f s n n = (f + s) % 129600000 := by
  unfold arcDir arcW
  rw [if_pos hn, rnd2_mul _ _ hn, turnF_eq]
  unfold sideOf
  split
  · rw [show -(s.natAbs : Int) = s from by omega]
  · rw [show (s.natAbs : Int) = s from by omega]
end Go.Proofs.YtdfkkknkiioghaaGreat

/-
  Fly-by turns: the arc begins near its start and ends near its end. No program.
-/
namespace Go.Proofs.YtdfkkknkiioghaaGreat
set_option linter.unusedVariables false

theorem fst0 {l : List Int} {c : Int} (hc : c ≠ 0) (h : ((l, c) : List Int × Int).2 = 0) : False := hc h
theorem flyGo_ok {bx b_y x y r m n : Int} (h : (flyGo bx b_y x y r m n).2 = 0) :
    (diffF x y).natAbs ≤ 54000000 ∧ leadF r (diffF x y) ≤ m ∧ leadF r (diffF x y) ≤ n ∧ ∃ cx cy sx sy ex ey,
      (flyGo bx b_y x y r m n).1 = [cx, cy, r, turnF x (-sideOf (diffF x y) 32400000), diffF x y, sx, sy, ex, ey, leadF r (diffF x y)] ∧
      sx = bx + rayX (leadF r (diffF x y)) (turnF x 64800000) ∧ sy = b_y + rayY (leadF r (diffF x y)) (turnF x 64800000) ∧
      ex = bx + rayX (leadF r (diffF x y)) y ∧ ey = b_y + rayY (leadF r (diffF x y)) y ∧
      cx = sx + rayX r (turnF x (sideOf (diffF x y) 32400000)) ∧ cy = sy + rayY r (turnF x (sideOf (diffF x y) 32400000)) ∧
      vldB cx cy = true ∧ vldB sx sy = true ∧ vldB ex ey = true := by
  unfold flyGo at h ⊢
  by_cases h1 : 54000000 < (diffF x y).natAbs
  · rw [if_pos h1] at h; exact (fst0 (by decide) h).elim
  rw [if_neg h1] at h ⊢
  by_cases h2 : leadF r (diffF x y) > m ∨ leadF r (diffF x y) > n
  · rw [if_pos h2] at h; exact (fst0 (by decide) h).elim
  rw [if_neg h2] at h ⊢
  by_cases h3 : (rayF bx b_y (turnF x 64800000) (leadF r (diffF x y))).2.2 ≠ 0
  · rw [if_pos h3] at h; exact (fst0 (by decide) h).elim
  rw [if_neg h3] at h ⊢
  by_cases h4 : (rayF bx b_y y (leadF r (diffF x y))).2.2 ≠ 0
  · rw [if_pos h4] at h; exact (fst0 (by decide) h).elim
  rw [if_neg h4] at h ⊢
  by_cases h5 : (rayF (rayF bx b_y (turnF x 64800000) (leadF r (diffF x y))).1 (rayF bx b_y (turnF x 64800000) (leadF r (diffF x y))).2.1 (turnF x (sideOf (diffF x y) 32400000)) r).2.2 ≠ 0
  · rw [if_pos h5] at h; exact (fst0 (by decide) h).elim
  rw [if_neg h5]
  obtain ⟨a1, a2, a3, a4, a5, a6⟩ := ray_ok (Decidable.of_not_not h3)
  obtain ⟨b1, b2, b3, b4, b5, b6⟩ := ray_ok (Decidable.of_not_not h4)
  obtain ⟨c1, c2, c3, c4, c5, c6⟩ := ray_ok (Decidable.of_not_not h5)
  rw [a5, a6] at c1 c4 c5 c6
  rw [a5, a6, b5, b6, c5, c6]
  exact ⟨by omega, by omega, by omega, _, _, _, _, _, _, rfl, rfl, rfl, rfl, rfl, rfl, rfl, c4, a4, b4⟩

theorem side_cases (d : Int) : (0 ≤ d ∧ sideOf d 32400000 = 32400000) ∨ (d < 0 ∧ sideOf d 32400000 = -32400000) := by unfold sideOf; split <;> omega
theorem sin_of {a b : Int} (h : norm a = norm b) : Sin a = Sin b ∧ Cos a = Cos b := ⟨Sin_norm _ _ h, Cos_norm _ _ h⟩
theorem sin_right {a x : Int} (h : norm a = norm (x + 32400000)) : Sin a = Cos x ∧ Cos a = -Sin x := by
  have := sin_of h
  rw [Sin_add_quarter, Cos_add_quarter] at this
  exact this
theorem sin_left {a x : Int} (h : norm a = norm (x - 32400000)) : Sin a = -Cos x ∧ Cos a = Sin x := by
  have h2 : norm a = norm ((x + 64800000) + 32400000) := by rw [h]; unfold norm; omega
  have := sin_right h2
  rw [Cos_add_half, Sin_add_half, Int.neg_neg] at this
  exact this
theorem sin_half {a x : Int} (h : norm a = norm (x + 64800000)) : Sin a = -Sin x ∧ Cos a = -Cos x := by
  have := sin_of h
  rw [Sin_add_half, Cos_add_half] at this
  exact this
/-- one step of the scale -/
theorem step1 (a : Int) (s : Int) (hs : s = 0 ∨ s = 1) : (-110 ≤ Sin a - Sin (a + s) ∧ Sin a - Sin (a + s) ≤ 110) ∧ (-110 ≤ Cos a - Cos (a + s) ∧ Cos a - Cos (a + s) ≤ 110) := by
  have h := lip a
  unfold Lip at h
  rcases hs with rfl | rfl
  · simp
  · omega
theorem near0 (a : Int) : (-110 ≤ Sin a - Sin a ∧ Sin a - Sin a ≤ 110) ∧ (-110 ≤ Cos a - Cos a ∧ Cos a - Cos a ≤ 110) := by simp

/-- four rounded rays against a bound -/
theorem four {A B L S T u : Int} (h : -(6 * 1073741824) ≤ A + B - (L * S + L * T) ∧ A + B - (L * S + L * T) ≤ 6 * 1073741824) (hu : u = rnd 2 (L * -S) 1073741824 + rnd 2 A 1073741824 + rnd 2 B 1073741824 - rnd 2 (L * T) 1073741824) : u ≤ 8 ∧ -u ≤ 8 := by
  have a := rnd2_one A
  have b := rnd2_one B
  have c := rnd2_one (L * -S)
  have d := rnd2_one (L * T)
  rw [Int.mul_neg] at *
  omega
theorem unit_ray (l S : Int) (hl : l = 0 ∨ l = 1) (hS : -1073741824 ≤ S ∧ S ≤ 1073741824) : -1 ≤ rnd 2 (l * S) 1073741824 ∧ rnd 2 (l * S) 1073741824 ≤ 1 := by
  have := rnd2_one (l * S)
  rcases hl with rfl | rfl
  · rw [Int.zero_mul] at *; omega
  · rw [Int.one_mul] at *; omega

theorem opp_near {r S c s u : Int} (hc : c = s + rnd 2 (r * S) 1073741824) (hu : u = c + rnd 2 (r * -S) 1073741824) : u - s ≤ 1 ∧ s - u ≤ 1 := by
  have a := ray_opp r S
  generalize rnd 2 (r * S) 1073741824 = p at *
  generalize rnd 2 (r * -S) 1073741824 = q at *
  omega
/-- both ends of a turn to the right -/
theorem end_right {x y r l d : Int} (hr : 0 ≤ r) (hr8 : r ≤ 8000000) (hd0 : 0 ≤ d) (hd5 : d ≤ 54000000) (hl0 : 0 ≤ l) (hl8 : l ≤ 6000000) (hdn : norm (x + d) = norm y)
    (h1 : (l - 1) * Cos (d / 2) < r * Sin (d / 2)) (h2 : r * Sin (d / 2) ≤ l * Cos (d / 2)) (hC : 0 ≤ Cos (d / 2)) :
    (-(6 * 1073741824) ≤ r * Cos x + r * -Cos y - (l * Sin x + l * Sin y) ∧ r * Cos x + r * -Cos y - (l * Sin x + l * Sin y) ≤ 6 * 1073741824) ∧
    (-(6 * 1073741824) ≤ r * -Sin x + r * Sin y - (l * Cos x + l * Cos y) ∧ r * -Sin x + r * Sin y - (l * Cos x + l * Cos y) ≤ 6 * 1073741824) := by
  have hy' : (-110 ≤ Sin y - Sin (x + d / 2 + d / 2) ∧ Sin y - Sin (x + d / 2 + d / 2) ≤ 110) ∧ (-110 ≤ Cos y - Cos (x + d / 2 + d / 2) ∧ Cos y - Cos (x + d / 2 + d / 2) ≤ 110) := by
    have e := sin_of hdn
    have s := step1 (x + d / 2 + d / 2) (d - 2 * (d / 2)) (by omega)
    rw [show x + d / 2 + d / 2 + (d - 2 * (d / 2)) = x + d from by omega, e.1, e.2] at s
    clear h1 h2 hC e hdn
    generalize Sin y = a at *
    generalize Cos y = b at *
    generalize Sin (x + d / 2 + d / 2) = c at *
    generalize Cos (x + d / 2 + d / 2) = e at *
    omega
  have hx' := near0 x
  have H := half_turn (R := r) (lead := l) (h := d / 2) (m := x + d / 2) (Cx := Cos x) (Cy := Cos y) (Sx := Sin x) (Sy := Sin y) hr hr8 hl0 hl8 h1 h2
    (by rw [show x + d / 2 - d / 2 = x from by omega]; exact hx'.1) (by rw [show x + d / 2 - d / 2 = x from by omega]; exact hx'.2) hy'.1 hy'.2 hC
  clear hx' hy' h1 h2 hC hdn
  generalize Sin y = a at *
  generalize Cos y = b at *
  generalize Sin x = c at *
  generalize Cos x = e at *
  rw [Int.mul_sub, Int.mul_add, Int.mul_sub, Int.mul_add] at H
  rw [Int.mul_neg, Int.mul_neg]
  omega
theorem end_left {x y r l d : Int} (hr : 0 ≤ r) (hr8 : r ≤ 8000000) (hd0 : 0 ≤ d) (hd5 : d ≤ 54000000) (hl0 : 0 ≤ l) (hl8 : l ≤ 6000000) (hdn : norm (x - d) = norm y)
    (h1 : (l - 1) * Cos (d / 2) < r * Sin (d / 2)) (h2 : r * Sin (d / 2) ≤ l * Cos (d / 2)) (hC : 0 ≤ Cos (d / 2)) :
    (-(6 * 1073741824) ≤ r * -Cos x + r * Cos y - (l * Sin x + l * Sin y) ∧ r * -Cos x + r * Cos y - (l * Sin x + l * Sin y) ≤ 6 * 1073741824) ∧
    (-(6 * 1073741824) ≤ r * Sin x + r * -Sin y - (l * Cos x + l * Cos y) ∧ r * Sin x + r * -Sin y - (l * Cos x + l * Cos y) ≤ 6 * 1073741824) := by
  have hy' : (-110 ≤ Sin y - Sin (x - d / 2 - d / 2) ∧ Sin y - Sin (x - d / 2 - d / 2) ≤ 110) ∧ (-110 ≤ Cos y - Cos (x - d / 2 - d / 2) ∧ Cos y - Cos (x - d / 2 - d / 2) ≤ 110) := by
    have e := sin_of hdn
    have s := step1 (x - d) (d - 2 * (d / 2)) (by omega)
    rw [show x - d + (d - 2 * (d / 2)) = x - d / 2 - d / 2 from by omega, e.1, e.2] at s
    clear h1 h2 hC e hdn
    generalize Sin y = a at *
    generalize Cos y = b at *
    generalize Sin (x - d / 2 - d / 2) = c at *
    generalize Cos (x - d / 2 - d / 2) = e at *
    omega
  have hx' := near0 x
  have H := half_turn (R := r) (lead := l) (h := d / 2) (m := x - d / 2) (Cx := Cos y) (Cy := Cos x) (Sx := Sin y) (Sy := Sin x) hr hr8 hl0 hl8 h1 h2
    hy'.1 hy'.2 (by rw [show x - d / 2 + d / 2 = x from by omega]; exact hx'.1) (by rw [show x - d / 2 + d / 2 = x from by omega]; exact hx'.2) hC
  clear hx' hy' h1 h2 hC hdn
  generalize Sin y = a at *
  generalize Cos y = b at *
  generalize Sin x = c at *
  generalize Cos x = e at *
  rw [Int.mul_sub, Int.mul_add, Int.mul_sub, Int.mul_add] at H
  rw [Int.mul_neg, Int.mul_neg]
  omega
theorem end_sum {B A A' L S T s c u e : Int} (h : -(6 * 1073741824) ≤ A + A' - (L * S + L * T) ∧ A + A' - (L * S + L * T) ≤ 6 * 1073741824)
    (hs : s = B + rnd 2 (L * -S) 1073741824) (hc : c = s + rnd 2 A 1073741824) (hu : u = c + rnd 2 A' 1073741824) (he : e = B + rnd 2 (L * T) 1073741824) : u - e ≤ 8 ∧ e - u ≤ 8 := by
  have f := four h rfl
  generalize rnd 2 (L * -S) 1073741824 = w1 at *
  generalize rnd 2 A 1073741824 = w2 at *
  generalize rnd 2 A' 1073741824 = w3 at *
  generalize rnd 2 (L * T) 1073741824 = w4 at *
  omega
theorem lead_small {r h l D : Int} (hr : 1 ≤ r) (hD : 0 ≤ D) (hh : h = D / 2) (hRd : 2 * (r * D) < 20626481) (h1 : (l - 1) * Cos h < r * Sin h) (hl0 : 0 ≤ l) : l = 0 ∨ l = 1 := by
  have hd1 : D ≤ r * D := by
    have := Int.mul_le_mul_of_nonneg_right hr hD
    omega
  have hCb := Cos_h_big (h := h) (by omega) (by omega)
  have hSb := Sin_h_bd (h := h) (by omega) (by omega)
  have e0 : r * Sin h ≤ r * (84 * h) := Int.mul_le_mul_of_nonneg_left hSb.2 (by omega)
  have e : r * (84 * h) = 84 * (r * h) := by grind
  have e2 : 2 * (r * h) ≤ r * D := by
    have : r * (2 * h) ≤ r * D := Int.mul_le_mul_of_nonneg_left (by omega) (by omega)
    have e : r * (2 * h) = 2 * (r * h) := by grind
    omega
  apply Classical.byContradiction
  intro hno
  have e3 : 1 * Cos h ≤ (l - 1) * Cos h := Int.mul_le_mul_of_nonneg_right (by omega) (by omega)
  clear hSb hh
  generalize (l - 1) * Cos h = w1 at *
  generalize r * Sin h = w2 at *
  generalize Cos h = w3 at *
  generalize r * D = w4 at *
  generalize r * h = w5 at *
  omega
theorem end_small {B S T s u e l : Int} (hl : l = 0 ∨ l = 1) (hS : -1073741824 ≤ S ∧ S ≤ 1073741824) (hT : -1073741824 ≤ T ∧ T ≤ 1073741824)
    (hs : s = B + rnd 2 (l * S) 1073741824) (he : e = B + rnd 2 (l * T) 1073741824) (hu : u - s ≤ 1 ∧ s - u ≤ 1) : u - e ≤ 8 ∧ e - u ≤ 8 := by
  have a := unit_ray l S hl hS
  have b := unit_ray l T hl hT
  generalize rnd 2 (l * S) 1073741824 = w1 at *
  generalize rnd 2 (l * T) 1073741824 = w2 at *
  omega
def Ends (u v sx sy : Int) : Prop := (u - sx ≤ 8 ∧ sx - u ≤ 8) ∧ (v - sy ≤ 8 ∧ sy - v ≤ 8)
/-- the law: the ends of the arc -/
theorem gaps_go {x y r m d l cx cy bx b_y sx sy ex ey f : Int} (hr : 1 ≤ r) (hr8 : r ≤ 8000000) (hm : m ≤ 6000000)
    (hd : d = diffF x y) (hl : l = leadF r d) (hd5 : d.natAbs ≤ 54000000) (hlm : l ≤ m)
    (esx : sx = bx + rayX l (turnF x 64800000)) (esy : sy = b_y + rayY l (turnF x 64800000)) (eex : ex = bx + rayX l y) (eey : ey = b_y + rayY l y)
    (ecx : cx = sx + rayX r (turnF x (sideOf d 32400000))) (ecy : cy = sy + rayY r (turnF x (sideOf d 32400000))) (hc : vldB cx cy = true) (hf : f = turnF x (-sideOf d 32400000)) :
    arcB cx cy r f d = true ∧
    ((arcAt cx cy r f d 0).2.2.2 = 0 → Ends (arcAt cx cy r f d 0).1 (arcAt cx cy r f d 0).2.1 sx sy) ∧
    ((arcAt cx cy r f d (arcLen cx cy r f d)).2.2.2 = 0 → Ends (arcAt cx cy r f d (arcLen cx cy r f d)).1 (arcAt cx cy r f d (arcLen cx cy r f d)).2.1 ex ey) := by
  have hdb := diffF_bd x y
  rw [← hd] at hdb
  have hdn : norm (x + d) = norm y := by rw [hd]; unfold diffF norm; omega
  have hfb : 0 ≤ f ∧ f < 129600000 := by rw [hf]; exact norm_bd _
  have hB : arcB cx cy r f d = true := (arcB_iff _ _ _ _ _).2 ⟨hc, hr, hr8, hfb.1, hfb.2, by omega, by omega⟩
  have hlen := arcLen_bd cx cy r f d
  have hs := sin_half (a := turnF x 64800000) (x := x) (by rw [turnF_eq]; unfold norm; omega)
  have hopp : Sin f = -Sin (turnF x (sideOf d 32400000)) ∧ Cos f = -Cos (turnF x (sideOf d 32400000)) :=
    sin_half (by rw [hf, turnF_eq, turnF_eq]; unfold norm; rcases side_cases d with ⟨_, h⟩ | ⟨_, h⟩ <;> rw [h] <;> omega)
  have hst : ∀ u v : Int, u = cx + rayX r f → v = cy + rayY r f → (u - sx ≤ 1 ∧ sx - u ≤ 1) ∧ (v - sy ≤ 1 ∧ sy - v ≤ 1) := fun u v hu hv => by
    unfold rayX at hu ecx
    unfold rayY at hv ecy
    rw [hopp.1] at hu
    rw [hopp.2] at hv
    exact ⟨opp_near ecx hu, opp_near ecy hv⟩
  have hlsp := leadF_spec (r := r) (d := d) (by omega) hd5
  rw [← hl] at hlsp
  refine ⟨hB, fun h0 => ?_, fun h0 => ?_⟩
  · have h1 := arcAt_ok hB (Int.le_refl 0) hlen.1 h0
    rw [arcDir_zero _ _ _ hfb.1 hfb.2] at h1
    have h2 := hst _ _ h1.1 h1.2
    unfold Ends
    clear h1 h0
    generalize (arcAt cx cy r f d 0).1 = w1 at *
    generalize (arcAt cx cy r f d 0).2.1 = w2 at *
    omega
  · have hat := arcAt_ok hB hlen.1 (Int.le_refl _) h0
    have hal := arcLen_eq hB
    unfold Ends
    clear h0
    generalize (arcAt cx cy r f d (arcLen cx cy r f d)).1 = u at *
    generalize (arcAt cx cy r f d (arcLen cx cy r f d)).2.1 = v at *
    generalize arcLen cx cy r f d = n at *
    by_cases hn : n = 0
    · subst hn
      rw [arcDir_zero _ _ _ hfb.1 hfb.2] at hat
      have h1 := hst _ _ hat.1 hat.2
      have hRd : 2 * (r * (d.natAbs : Int)) < 20626481 := by
        rw [rndLen] at hal
        clear hlsp h1 hat hst hopp hs ecx ecy esx esy eex eey hB hf hl hdn hd
        omega
      have hl1 := lead_small (r := r) (h := (d.natAbs : Int) / 2) (l := l) (D := (d.natAbs : Int)) hr (by omega) rfl hRd hlsp.1 hlsp.2.2
      unfold rayX at esx eex
      unfold rayY at esy eey
      exact ⟨end_small hl1 (Sin_bd _) (Sin_bd _) esx eex h1.1, end_small hl1 (Cos_bd _) (Cos_bd _) esy eey h1.2⟩
    · have hdir := arcDir_end f d n (by omega)
      rw [hdir] at hat
      unfold rayX at esx eex ecx hat
      unfold rayY at esy eey ecy hat
      rw [hs.1] at esx
      rw [hs.2] at esy
      have hl8 : l ≤ 6000000 := by omega
      clear hst hopp hs hal hlen hdir hB hc
      rcases side_cases d with ⟨hd0, hq⟩ | ⟨hd0, hq⟩
      · rw [hq] at hf ecx ecy
        have hdd : (d.natAbs : Int) = d := by omega
        have c1 := sin_right (a := turnF x 32400000) (x := x) (by rw [turnF_eq]; unfold norm; omega)
        have c2 := sin_left (a := (f + d) % 129600000) (x := y) (by rw [hf, turnF_eq]; unfold norm at hdn ⊢; clear hf; omega)
        rw [c1.1] at ecx
        rw [c1.2] at ecy
        rw [c2.1, c2.2] at hat
        rw [hdd] at hlsp
        have hCh := Cos_h_pos (h := d / 2) (by omega) (by omega)
        have H := end_right (x := x) (y := y) (r := r) (l := l) (d := d) (by omega) hr8 hd0 (by omega) hlsp.2.2 hl8 hdn hlsp.1 hlsp.2.1 (by omega)
        exact ⟨end_sum H.1 esx ecx hat.1 eex, end_sum H.2 esy ecy hat.2 eey⟩
      · rw [hq] at hf ecx ecy
        rw [Int.neg_neg] at hf
        have hdd : (d.natAbs : Int) = -d := by omega
        have c1 := sin_left (a := turnF x (-32400000)) (x := x) (by rw [turnF_eq]; unfold norm; omega)
        have c2 := sin_right (a := (f + d) % 129600000) (x := y) (by rw [hf, turnF_eq]; unfold norm at hdn ⊢; clear hf; omega)
        rw [c1.1] at ecx
        rw [c1.2] at ecy
        rw [c2.1, c2.2] at hat
        rw [hdd] at hlsp
        have hCh := Cos_h_pos (h := -d / 2) (by omega) (by omega)
        have H := end_left (x := x) (y := y) (r := r) (l := l) (d := -d) (by omega) hr8 (by omega) (by omega) hlsp.2.2 hl8 (by rw [show x - -d = x + d from by omega]; exact hdn) hlsp.1 hlsp.2.1 (by omega)
        exact ⟨end_sum H.1 esx ecx hat.1 eex, end_sum H.2 esy ecy hat.2 eey⟩
end Go.Proofs.YtdfkkknkiioghaaGreat

/-
  Chapter 12: arcs and the points of them, tangents, arcs around a center. No program.
-/
namespace Go.Proofs.YtdfkkknkiioghaaGreat
set_option linter.unusedVariables false

def radF (v b : Int) : Int × Int :=
  if 1 ≤ v ∧ v ≤ 1000 ∧ 1 ≤ b ∧ b ≤ 3000 then
    (if (muldiv 1 (v * v * 87431) (Cos (b * 3600)) (1000000 * Sin (b * 3600))).2 = 0 ∧ (muldiv 1 (v * v * 87431) (Cos (b * 3600)) (1000000 * Sin (b * 3600))).1 ≤ 8000000 then
      ((muldiv 1 (v * v * 87431) (Cos (b * 3600)) (1000000 * Sin (b * 3600))).1, 0) else (0, 2))
  else (0, 2)
def rateF (v b : Int) : Int × Int :=
  if 1 ≤ v ∧ v ≤ 1000 ∧ 1 ≤ b ∧ b ≤ 3000 then muldiv 0 20626481000000 (Sin (b * 3600)) (87431 * v * Cos (b * 3600)) else (0, 2)

theorem dist_ray {cx cy r d : Int} (h1 : vldB cx cy = true) (h2 : vldB (cx + rayX r d) (cy + rayY r d) = true) (hr : -8000000 ≤ r) (hr8 : r ≤ 8000000) :
    distF cx cy (cx + rayX r d) (cy + rayY r d) ≤ r.natAbs + 1 ∧ (r.natAbs : Int) ≤ distF cx cy (cx + rayX r d) (cy + rayY r d) + 1 := by
  have e : distF cx cy (cx + rayX r d) (cy + rayY r d) = isq (rayX r d * rayX r d + rayY r d * rayY r d).toNat := by
    unfold distF dist2
    rw [h1, h2]
    simp only [Bool.and_self, if_true]
    rw [show cx + rayX r d - cx = rayX r d from by omega, show cy + rayY r d - cy = rayY r d from by omega]
  exact ray_near r d hr hr8 _ e
theorem course_ray {cx cy p q : Int} (h1 : vldB cx cy = true) (h2 : vldB (cx + p) (cy + q) = true) (h0 : ¬ (p = 0 ∧ q = 0)) : courseF cx cy (cx + p) (cy + q) = (atan2F p q, 0) := by
  unfold courseF
  rw [h1, h2, if_neg (by simp), if_neg (by omega), show cx + p - cx = p from by omega, show cy + q - cy = q from by omega]
/-- a point of an arc, found again -/
theorem tracks {cx cy r f s al : Int} (hB : arcB cx cy r f s = true) (h0 : 0 ≤ al) (h1 : al ≤ arcLen cx cy r f s) (h : (arcAt cx cy r f s al).2.2.2 = 0) (hr : 100 ≤ r) (hs : -64800000 ≤ s) (hs2 : s ≤ 64800000) :
    (arcOff cx cy r f s (arcAt cx cy r f s al).1 (arcAt cx cy r f s al).2.1).2.2 = 0 ∧
    ((arcOff cx cy r f s (arcAt cx cy r f s al).1 (arcAt cx cy r f s al).2.1).1 ≤ 2 ∧ -(arcOff cx cy r f s (arcAt cx cy r f s al).1 (arcAt cx cy r f s al).2.1).1 ≤ 2) ∧
    ((arcOff cx cy r f s (arcAt cx cy r f s al).1 (arcAt cx cy r f s al).2.1).2.1 - al ≤ 4 ∧ al - (arcOff cx cy r f s (arcAt cx cy r f s al).1 (arcAt cx cy r f s al).2.1).2.1 ≤ 4) := by
  have hB' := (arcB_iff _ _ _ _ _).1 hB
  have hat := arcAt_ok hB h0 h1 h
  have hv : vldB (cx + rayX r (arcDir f s (arcLen cx cy r f s) al)) (cy + rayY r (arcDir f s (arcLen cx cy r f s) al)) = true := by
    unfold arcAt at h
    rw [hB] at h
    simp only [Bool.not_true, Bool.false_eq_true, if_false] at h
    rw [if_neg (by omega)] at h
    split at h
    · rename_i h2
      exact (ray_ok h2).2.2.2.1
    · exact absurd h (fun h => by cases h)
  rw [hat.1, hat.2]
  have hlen := arcLen_eq hB
  clear hat h
  have hdn := dir_near (R := r) (d := arcDir f s (arcLen cx cy r f s) al) hr hB'.2.2.1 rfl rfl
  have hdist := dist_ray hB'.1 hv (by omega) hB'.2.2.1
  have hcr := course_ray hB'.1 hv hdn.1
  obtain ⟨_, δ, hδ, hδ1, hδ2, hδ3⟩ := hdn
  unfold arcOff
  rw [hB, hv, if_neg (by simp), if_neg (by rename_i h0'; omega), hcr]
  refine ⟨rfl, ?_, ?_⟩
  · show sideOf s (r - _) ≤ 2 ∧ -(sideOf s (r - _)) ≤ 2
    clear hδ hδ3 hcr hv hlen
    generalize distF cx cy (cx + rayX r (arcDir f s (arcLen cx cy r f s) al)) (cy + rayY r (arcDir f s (arcLen cx cy r f s) al)) = D at *
    unfold sideOf
    split <;> omega
  · show arcAlong (sweepF (decide (0 ≤ s)) f (atan2F _ _)) s.natAbs _ - al ≤ 4 ∧ al - arcAlong (sweepF (decide (0 ≤ s)) f (atan2F _ _)) s.natAbs _ ≤ 4
    generalize arcLen cx cy r f s = n at *
    unfold arcDir at hδ ⊢
    generalize atan2F (rayX r (turnF f (sideOf s (arcW n s al)))) (rayY r (turnF f (sideOf s (arcW n s al)))) = c at *
    by_cases hs0 : 0 ≤ s
    · refine along_near (R := r) (s := s.natAbs) (n := n) (w := arcW n s al) (δ := δ) hr hB'.2.2.1 (by omega) (by omega) hlen h0 h1 rfl ⟨hδ1, hδ2⟩ hδ3 ?_
      rw [show decide (0 ≤ s) = true from by simpa using hs0]
      unfold sweepF
      rw [if_pos rfl]
      unfold sideOf at hδ
      rw [if_neg (by omega), turnF_eq] at hδ
      clear hδ3 hlen hdist
      generalize arcW n s al = w at *
      unfold norm at *
      omega
    · refine along_near (R := r) (s := s.natAbs) (n := n) (w := arcW n s al) (δ := -δ) hr hB'.2.2.1 (by omega) (by omega) hlen h0 h1 rfl ⟨by omega, by omega⟩ (by rw [Int.mul_neg, Int.mul_neg]; clear hlen hdist hδ; generalize r * δ = k at *; omega) ?_
      rw [show decide (0 ≤ s) = false from by simpa using hs0]
      unfold sweepF
      rw [if_neg (by simp)]
      unfold sideOf at hδ
      rw [if_pos (by omega), turnF_eq] at hδ
      clear hδ3 hlen hdist
      generalize arcW n s al = w at *
      unfold norm at *
      omega

/-! ### tangents -/
theorem tan_ok {cx cy r px py : Int} {right : Bool} (h : (tanF cx cy r px py right).2.2 = 0) :
    vldB cx cy = true ∧ vldB px py = true ∧ 1 ≤ r ∧ r ≤ 8000000 ∧ r * r < dist2 cx cy px py ∧
    vldB (cx + rayX r (tanDir cx cy r px py right)) (cy + rayY r (tanDir cx cy r px py right)) = true ∧
    (tanF cx cy r px py right).1 = cx + rayX r (tanDir cx cy r px py right) ∧ (tanF cx cy r px py right).2.1 = cy + rayY r (tanDir cx cy r px py right) := by
  unfold tanF at h ⊢
  by_cases h1 : (!(vldB cx cy && vldB px py)) = true
  · rw [if_pos h1] at h; exact absurd h (fun h => by cases h)
  rw [if_neg h1] at h ⊢
  by_cases h2 : r < 1 ∨ r > 8000000
  · rw [if_pos h2] at h; exact absurd h (fun h => by cases h)
  rw [if_neg h2] at h ⊢
  by_cases h3 : dist2 cx cy px py ≤ r * r
  · rw [if_pos h3] at h; exact absurd h (fun h => by cases h)
  rw [if_neg h3] at h ⊢
  by_cases h4 : (rayF cx cy (tanDir cx cy r px py right) r).2.2 ≠ 0
  · rw [if_pos h4] at h; exact absurd h (fun h => by cases h)
  rw [if_neg h4]
  have := ray_ok (Decidable.of_not_not h4)
  have hv : vldB cx cy = true ∧ vldB px py = true := by simpa using h1
  exact ⟨hv.1, hv.2, by omega, by omega, by omega, this.2.2.2.1, this.2.2.2.2.1, this.2.2.2.2.2⟩
theorem tan_err {cx cy r px py : Int} {right : Bool} (h : (tanF cx cy r px py right).2.2 ≠ 0) : (tanF cx cy r px py right).1 = 0 ∧ (tanF cx cy r px py right).2.1 = 0 := by
  unfold tanF at h ⊢
  by_cases h1 : (!(vldB cx cy && vldB px py)) = true
  · rw [if_pos h1]; exact ⟨rfl, rfl⟩
  rw [if_neg h1] at h ⊢
  by_cases h2 : r < 1 ∨ r > 8000000
  · rw [if_pos h2]; exact ⟨rfl, rfl⟩
  rw [if_neg h2] at h ⊢
  by_cases h3 : dist2 cx cy px py ≤ r * r
  · rw [if_pos h3]; exact ⟨rfl, rfl⟩
  rw [if_neg h3] at h ⊢
  by_cases h4 : (rayF cx cy (tanDir cx cy r px py right) r).2.2 ≠ 0
  · rw [if_pos h4]; exact ⟨rfl, rfl⟩
  · rw [if_neg h4] at h; exact absurd rfl h
def sideR (right : Bool) (r : Int) : Int := if right then r else -r
theorem touches {cx cy r px py tx ty : Int} {right : Bool} (h : (tanF cx cy r px py right).2.2 = 0) (htx : tx = (tanF cx cy r px py right).1) (hty : ty = (tanF cx cy r px py right).2.1) (hr : 100 ≤ r) (hD : r ≤ distF tx ty px py) :
    (offF tx ty px py cx cy).2.2 = 0 ∧ ((offF tx ty px py cx cy).1 - sideR right r ≤ 8 ∧ sideR right r - (offF tx ty px py cx cy).1 ≤ 8) ∧
    ((offF tx ty px py cx cy).2.1 ≤ 8 ∧ -(offF tx ty px py cx cy).2.1 ≤ 8) ∧ (distF cx cy tx ty - r ≤ 2 ∧ r - distF cx cy tx ty ≤ 2) := by
  obtain ⟨h1, h2, h3, h4, h5, h6, h7, h8⟩ := tan_ok h
  rw [h7] at htx
  rw [h8] at hty
  clear h7 h8 h
  have hdist := dist_ray h1 h6 (by omega) h4
  have h6' := h6
  rw [← htx, ← hty] at hdist h6'
  have hDe : distF tx ty px py = isq (dist2 tx ty px py).toNat := by unfold distF; rw [h6', h2]; rfl
  have hDs := isq_int _ (dist2_nonneg tx ty px py)
  rw [← hDe] at hDs
  have hne : ¬ (tx = px ∧ ty = py) := by
    rintro ⟨rfl, rfl⟩
    have : distF tx ty tx ty = 0 := by
      rw [hDe]; unfold dist2; simp; exact (isq_zero_iff 0).2 rfl
    omega
  have hc := isq_int _ (dist2_nonneg cx cy px py)
  have hcb := distF_bd cx cy px py
  have hce : distF cx cy px py = isq (dist2 cx cy px py).toNat := by unfold distF; rw [h1, h2]; rfl
  rw [hce] at hcb
  have hL := isq_int (dist2 cx cy px py - r * r) (by omega)
  have hv0 : ¬ (px - cx = 0 ∧ py - cy = 0) := by
    rintro ⟨e1, e2⟩
    unfold dist2 at h5
    rw [e1, e2] at h5
    have := sq_nonneg r
    omega
  have hg : (if right then (-1 : Int) else 1) = 1 ∨ (if right then (-1 : Int) else 1) = -1 := by cases right <;> simp
  have hdir : tanDir cx cy r px py right = turnF (atan2F (px - cx) (py - cy)) ((if right then (-1 : Int) else 1) * atan2F (isq (dist2 cx cy px py - r * r).toNat) r) := by
    unfold tanDir
    cases right <;> simp [Int.neg_mul]
  have e1 : dist2 cx cy px py = (px - cx) * (px - cx) + (py - cy) * (py - cy) := rfl
  have e2 : dist2 tx ty px py = (px - cx - (tx - cx)) * (px - cx - (tx - cx)) + (py - cy - (ty - cy)) * (py - cy - (ty - cy)) := by
    unfold dist2
    rw [show px - cx - (tx - cx) = px - tx from by omega, show py - cy - (ty - cy) = py - ty from by omega]
  have T := touch (vx := px - cx) (vy := py - cy) (R := r) (L := isq (dist2 cx cy px py - r * r).toNat) (r := isq (dist2 cx cy px py).toNat) (g := if right then (-1 : Int) else 1) (tx := tx - cx) (ty := ty - cy) (D := distF tx ty px py)
    hv0 (by rw [← e1]; exact hc.1) (by rw [← e1]; exact hc.2) (by omega) hr h4 (by rw [← e1]; exact h5) (by omega) (by rw [← e1]; exact hL.1) (by rw [← e1]; exact hL.2) hg
    (by rw [htx, hdir]; omega) (by rw [hty, hdir]; omega) (by rw [← e2]; exact hDs.1) (by rw [← e2]; exact hDs.2) hD
  rw [← e2] at T
  unfold offF
  rw [h6', h2, h1, if_neg (by simp), if_neg hne]
  have e3 : -((px - tx) * (cy - ty) - (py - ty) * (cx - tx)) = (px - cx) * (ty - cy) - (py - cy) * (tx - cx) := by grind
  have e4 : (px - tx) * (cx - tx) + (py - ty) * (cy - ty) = (tx - cx) * (tx - cx) + (ty - cy) * (ty - cy) - ((px - cx) * (tx - cx) + (py - cy) * (ty - cy)) := by grind
  rw [e3, e4]
  refine ⟨rfl, ?_, ?_, ?_⟩
  · have := T.1
    unfold sideR
    cases right <;> simp at this ⊢ <;> exact this
  · exact T.2
  · clear T
    omega

/-! ### arcs around a center -/
theorem sweep_norm (right : Bool) (x y : Int) (hx : 0 ≤ x) (hx2 : x < 129600000) (hy : 0 ≤ y) (hy2 : y < 129600000) :
    (arSweep right x y).natAbs ≤ 129600000 ∧ 1 ≤ (arSweep right x y).natAbs ∧ norm (x + arSweep right x y) = y := by
  unfold arSweep sweepF norm
  cases right <;> simp <;> split <;> omega
theorem around_ok {ax ay cx cy bx b_y : Int} {right : Bool} (h : (aroundF ax ay cx cy bx b_y right).2 = 0) :
    vldB ax ay = true ∧ vldB cx cy = true ∧ vldB bx b_y = true ∧ distF cx cy ax ay ≠ 0 ∧ distF cx cy bx b_y ≠ 0 ∧ (distF cx cy ax ay - distF cx cy bx b_y ≤ 8 ∧ distF cx cy bx b_y - distF cx cy ax ay ≤ 8) ∧
    (aroundF ax ay cx cy bx b_y right).1 = [cx, cy, distF cx cy ax ay, atan2F (ax - cx) (ay - cy), arSweep right (atan2F (ax - cx) (ay - cy)) (atan2F (bx - cx) (b_y - cy))] := by
  unfold aroundF at h ⊢
  by_cases h1 : (!(vldB ax ay && vldB cx cy && vldB bx b_y)) = true
  · rw [if_pos h1] at h; exact absurd h (fun h => by cases h)
  rw [if_neg h1] at h ⊢
  by_cases h2 : distF cx cy ax ay = 0 ∨ distF cx cy bx b_y = 0 ∨ distF cx cy ax ay - distF cx cy bx b_y > 8 ∨ distF cx cy bx b_y - distF cx cy ax ay > 8
  · rw [if_pos h2] at h; exact absurd h (fun h => by cases h)
  rw [if_neg h2]
  have hv : (vldB ax ay = true ∧ vldB cx cy = true) ∧ vldB bx b_y = true := by simpa using h1
  exact ⟨hv.1.1, hv.1.2, hv.2, by omega, by omega, by omega, rfl⟩
theorem dist_ne {cx cy ax ay : Int} (h1 : vldB cx cy = true) (h2 : vldB ax ay = true) (h : distF cx cy ax ay ≠ 0) :
    ¬ (ax - cx = 0 ∧ ay - cy = 0) ∧ 1 ≤ distF cx cy ax ay ∧ distF cx cy ax ay ≤ 6000000 ∧ distF cx cy ax ay * distF cx cy ax ay ≤ (ax - cx) * (ax - cx) + (ay - cy) * (ay - cy) ∧ (ax - cx) * (ax - cx) + (ay - cy) * (ay - cy) < (distF cx cy ax ay + 1) * (distF cx cy ax ay + 1) := by
  have hb := distF_bd cx cy ax ay
  have he : distF cx cy ax ay = isq (dist2 cx cy ax ay).toNat := by unfold distF; rw [h1, h2]; rfl
  have hs := isq_int _ (dist2_nonneg cx cy ax ay)
  rw [← he] at hs
  refine ⟨?_, by omega, by omega, hs.1, hs.2⟩
  rintro ⟨e1, e2⟩
  have : dist2 cx cy ax ay = 0 := by unfold dist2; rw [e1, e2]; rfl
  rw [he, this] at h
  exact h (by simp; exact (isq_zero_iff 0).2 rfl)
theorem arounds {ax ay cx cy bx b_y r x s : Int} {right : Bool} (h : (aroundF ax ay cx cy bx b_y right).2 = 0) (hr : r = distF cx cy ax ay) (hx : x = atan2F (ax - cx) (ay - cy)) (hs : s = arSweep right (atan2F (ax - cx) (ay - cy)) (atan2F (bx - cx) (b_y - cy))) :
    arcB cx cy r x s = true ∧
    ((arcAt cx cy r x s 0).2.2.2 = 0 → ((arcAt cx cy r x s 0).1 - ax ≤ 4 ∧ ax - (arcAt cx cy r x s 0).1 ≤ 4) ∧ ((arcAt cx cy r x s 0).2.1 - ay ≤ 4 ∧ ay - (arcAt cx cy r x s 0).2.1 ≤ 4)) ∧
    ((arcAt cx cy r x s (arcLen cx cy r x s)).2.2.2 = 0 → ((arcAt cx cy r x s (arcLen cx cy r x s)).1 - bx ≤ 12 ∧ bx - (arcAt cx cy r x s (arcLen cx cy r x s)).1 ≤ 12) ∧ ((arcAt cx cy r x s (arcLen cx cy r x s)).2.1 - b_y ≤ 12 ∧ b_y - (arcAt cx cy r x s (arcLen cx cy r x s)).2.1 ≤ 12)) := by
  obtain ⟨h1, h2, h3, h4, h5, h6, _⟩ := around_ok h
  obtain ⟨a0, a1, a2, a3, a4⟩ := dist_ne h2 h1 h4
  obtain ⟨b0, b1, b2, b3, b4⟩ := dist_ne h2 h3 h5
  rw [← hr] at a1 a2 a3 a4 h6
  have hxb := atan2F_bd (ax - cx) (ay - cy)
  have hyb := atan2F_bd (bx - cx) (b_y - cy)
  have hsw := sweep_norm right _ _ hxb.1 hxb.2 hyb.1 hyb.2
  rw [← hs] at hsw
  have hB : arcB cx cy r x s = true := by
    refine (arcB_iff _ _ _ _ _).2 ⟨h2, a1, by omega, ?_, ?_, ?_, ?_⟩ <;> clear a3 a4 b3 b4 hr <;> omega
  have hlen := arcLen_bd cx cy r x s
  have hle := arcLen_eq hB
  refine ⟨hB, fun h0 => ?_, fun h0 => ?_⟩
  · have hat := arcAt_ok hB (Int.le_refl 0) hlen.1 h0
    rw [arcDir_zero _ _ _ (by omega) (by omega)] at hat
    have S := around_start a0 a3 a4 a1 (by omega)
    rw [← hx] at S
    rw [hat.1, hat.2]
    clear hat h0
    generalize rayX r x = u at *
    generalize rayY r x = v at *
    clear a3 a4 b3 b4
    omega
  · have hat := arcAt_ok hB hlen.1 (Int.le_refl _) h0
    rw [hat.1, hat.2]
    clear hat h0
    have E := around_end (r := r) (dir := arcDir x s (arcLen cx cy r x s) (arcLen cx cy r x s)) b0 b3 b4 b1 b2 (by omega) (by omega) (by
      by_cases hn : arcLen cx cy r x s = 0
      · rw [hn, arcDir_zero _ _ _ (by omega) (by omega)]
        refine .inr ⟨s.natAbs, ?_, ?_⟩
        · have e := hsw.2.2
          rw [← hx] at e
          have hyy : norm (atan2F (bx - cx) (b_y - cy)) = atan2F (bx - cx) (b_y - cy) := norm_id hyb.1 hyb.2
          rw [hyy]
          by_cases h0 : 0 ≤ s
          · left
            rw [show ((s.natAbs : Nat) : Int) = s from by omega]
            exact e
          · right
            rw [show ((s.natAbs : Nat) : Int) = -s from by omega, ← e]
            unfold norm
            omega
        · rw [hn, rndLen] at hle
          have : 0 ≤ r * (s.natAbs : Int) := Int.mul_nonneg (by omega) (by omega)
          clear a3 a4 b3 b4
          omega
      · left
        rw [arcDir_end _ _ _ (by omega)]
        have e := hsw.2.2
        rw [← hx] at e
        rw [norm_id hyb.1 hyb.2, ← e]
        unfold norm
        omega)
    clear a3 a4 b3 b4
    generalize rayX r (arcDir x s (arcLen cx cy r x s) (arcLen cx cy r x s)) = u at *
    generalize rayY r (arcDir x s (arcLen cx cy r x s) (arcLen cx cy r x s)) = v at *
    omega
end Go.Proofs.YtdfkkknkiioghaaGreat

/-
  The laws of chapter 11 on the plain functions. No program.
-/
namespace Go.Proofs.YtdfkkknkiioghaaGreat
set_option linter.unusedVariables false

theorem sat_of {x : Int} (h1 : -2000000 ≤ sat x) (h2 : sat x ≤ 2000000) : sat x = x := by unfold sat clamp at *; omega
theorem vld_bds {x y : Int} (h : vldB x y = true) : -2000000 ≤ x ∧ x ≤ 2000000 ∧ -2000000 ≤ y ∧ y ≤ 2000000 := (vldB_iff x y).1 h
theorem muldiv_val {m : Nat} {a b c : Int} (h : (muldiv m a b c).2 = 0) : c ≠ 0 ∧ (muldiv m a b c).1 = rnd m (a * b) c := by
  unfold muldiv at h ⊢
  by_cases hc : c = 0
  · rw [if_pos hc] at h
    exact absurd h (fun h => by cases h)
  · rw [if_neg hc] at h ⊢
    refine ⟨hc, ?_⟩
    by_cases hi : in64 (rnd m (a * b) c) = true
    · rw [if_pos hi]
    · rw [if_neg hi] at h
      exact absurd h (fun h => by cases h)
theorem along_val {ax ay vx vy n d X Y : Int} (h : alongF ax ay vx vy n d = (X, Y, 0)) :
    d ≠ 0 ∧ X = ax + rnd 2 (vx * n) d ∧ Y = ay + rnd 2 (vy * n) d ∧ vldB X Y = true := by
  unfold alongF at h
  by_cases h1 : (muldiv 2 vx n d).2 = 0 ∧ (muldiv 2 vy n d).2 = 0
  · rw [if_pos h1] at h
    by_cases h2 : vldB (sat (ax + (muldiv 2 vx n d).1)) (sat (ay + (muldiv 2 vy n d).1)) = true
    · rw [if_pos h2] at h
      have b := vld_bds h2
      have e1 := sat_of b.1 b.2.1
      have e2 := sat_of b.2.2.1 b.2.2.2
      have m1 := muldiv_val h1.1
      have m2 := muldiv_val h1.2
      rw [m1.2] at e1 h h2
      rw [m2.2] at e2 h h2
      injection h with hx h
      injection h with hy _
      rw [hx, hy] at h2
      exact ⟨m1.1, by rw [← hx, e1], by rw [← hy, e2], h2⟩
    · rw [if_neg h2] at h
      exact absurd (congrArg (fun t => t.2.2) h) (fun h => by simp at h)
  · rw [if_neg h1] at h
    exact absurd (congrArg (fun t => t.2.2) h) (fun h => by simp at h)
theorem foot_val {ax ay bx b_y px py X Y : Int} (h : footF ax ay bx b_y px py = (X, Y, 0)) :
    (vldB ax ay = true ∧ vldB bx b_y = true ∧ vldB px py = true) ∧ ¬ (ax = bx ∧ ay = b_y) ∧ alongF ax ay (bx - ax) (b_y - ay) ((bx - ax) * (px - ax) + (b_y - ay) * (py - ay)) (dist2 ax ay bx b_y) = (X, Y, 0) := by
  unfold footF at h
  by_cases h1 : (!(vldB ax ay && vldB bx b_y && vldB px py)) = true
  · rw [if_pos h1] at h
    exact absurd (congrArg (fun t => t.2.2) h) (fun h => by simp at h)
  rw [if_neg h1] at h
  by_cases h2 : ax = bx ∧ ay = b_y
  · rw [if_pos h2] at h
    exact absurd (congrArg (fun t => t.2.2) h) (fun h => by simp at h)
  rw [if_neg h2] at h
  have hv : (vldB ax ay = true ∧ vldB bx b_y = true) ∧ vldB px py = true := by simpa using h1
  exact ⟨⟨hv.1.1, hv.1.2, hv.2⟩, h2, h⟩
theorem off_val {ax ay bx b_y px py : Int} (h1 : vldB ax ay = true) (h2 : vldB bx b_y = true) (h3 : vldB px py = true) (h4 : ¬ (ax = bx ∧ ay = b_y)) :
    offF ax ay bx b_y px py = (lenF (-((bx - ax) * (py - ay) - (b_y - ay) * (px - ax))) (dist2 ax ay bx b_y), lenF ((bx - ax) * (px - ax) + (b_y - ay) * (py - ay)) (dist2 ax ay bx b_y), 0) := by
  unfold offF
  rw [h1, h2, h3, if_neg (by simp), if_neg h4]
/-- LineFeet -/
theorem feet {ax ay bx b_y px py X Y off al e : Int} (h : footF ax ay bx b_y px py = (X, Y, 0)) (ho : offF ax ay bx b_y px py = (off, al, e)) :
    e = 0 ∧ (-5656855 ≤ off ∧ off ≤ 5656855) ∧ (0 ≤ distF px py X Y ∧ distF px py X Y ≤ 5656854) ∧ distF px py X Y ≤ off.natAbs + 1 ∧ (off.natAbs : Int) ≤ distF px py X Y + 1 := by
  obtain ⟨⟨v1, v2, v3⟩, hne, hal⟩ := foot_val h
  obtain ⟨hd, hX, hY, hv⟩ := along_val hal
  rw [off_val v1 v2 v3 hne] at ho
  injection ho with ho1 ho
  injection ho with _ ho2
  have hD := distF_bd px py X Y
  have hDe : distF px py X Y = isq ((rnd 2 ((bx - ax) * ((bx - ax) * (px - ax) + (b_y - ay) * (py - ay))) (dist2 ax ay bx b_y) - (px - ax)) * (rnd 2 ((bx - ax) * ((bx - ax) * (px - ax) + (b_y - ay) * (py - ay))) (dist2 ax ay bx b_y) - (px - ax)) + (rnd 2 ((b_y - ay) * ((bx - ax) * (px - ax) + (b_y - ay) * (py - ay))) (dist2 ax ay bx b_y) - (py - ay)) * (rnd 2 ((b_y - ay) * ((bx - ax) * (px - ax) + (b_y - ay) * (py - ay))) (dist2 ax ay bx b_y) - (py - ay))).toNat := by
    unfold distF
    rw [v3, hv]
    simp only [Bool.and_self, if_true]
    rw [show dist2 px py X Y = (X - px) * (X - px) + (Y - py) * (Y - py) from rfl, hX, hY,
      show ax + rnd 2 ((bx - ax) * ((bx - ax) * (px - ax) + (b_y - ay) * (py - ay))) (dist2 ax ay bx b_y) - px = rnd 2 ((bx - ax) * ((bx - ax) * (px - ax) + (b_y - ay) * (py - ay))) (dist2 ax ay bx b_y) - (px - ax) from by omega,
      show ay + rnd 2 ((b_y - ay) * ((bx - ax) * (px - ax) + (b_y - ay) * (py - ay))) (dist2 ax ay bx b_y) - py = rnd 2 ((b_y - ay) * ((bx - ax) * (px - ax) + (b_y - ay) * (py - ay))) (dist2 ax ay bx b_y) - (py - ay) from by omega]
  have hs := dist2_pos hne
  have F := foot_near (vx := px - ax) (vy := py - ay) (dx := bx - ax) (dy := b_y - ay) hs rfl rfl _ rfl
  rw [show (bx - ax) * (bx - ax) + (b_y - ay) * (b_y - ay) = dist2 ax ay bx b_y from rfl, ← hDe] at F
  have hc := lenF_cases (-((bx - ax) * (py - ay) - (b_y - ay) * (px - ax))) (dist2 ax ay bx b_y)
  rw [lenN_neg] at hc
  rw [ho1] at hc
  have hn := (lenN_spec ((bx - ax) * (py - ay) - (b_y - ay) * (px - ax)) (dist2 ax ay bx b_y) hs).1
  clear hDe hX hY hal h ho1
  generalize lenN ((bx - ax) * (py - ay) - (b_y - ay) * (px - ax)) (dist2 ax ay bx b_y) = L at *
  generalize distF px py X Y = D at *
  omega
theorem feet_err {ax ay bx b_y px py X Y E : Int} (h : footF ax ay bx b_y px py = (X, Y, E)) (hE : E ≠ 0) : True := trivial
/-- LineRays -/
theorem rays {px py c d X Y : Int} (h : rayF px py c d = (X, Y, 0)) : (-8000000 ≤ d ∧ d ≤ 8000000) ∧ (0 ≤ distF px py X Y ∧ distF px py X Y ≤ 5656854) ∧ distF px py X Y ≤ d.natAbs + 1 ∧ (d.natAbs : Int) ≤ distF px py X Y + 1 := by
  have h2 : (rayF px py c d).2.2 = 0 := by rw [h]
  obtain ⟨h1, d1, d2, h3, e1, e2⟩ := ray_ok h2
  rw [h] at e1 e2
  have hX : X = px + rayX d c := e1
  have hY : Y = py + rayY d c := e2
  have := dist_ray h1 h3 d1 d2
  rw [← hX, ← hY] at this
  have hD := distF_bd px py X Y
  exact ⟨⟨d1, d2⟩, by omega, this.1, this.2⟩
/-- LineMeets -/
theorem lenF_zero {n s : Int} (h : lenN n s = 0) : lenF (-n) s = 0 := by
  have := lenF_cases (-n) s
  rw [lenN_neg] at this
  omega
theorem meets {ax ay bx b_y cx cy dx dy X Y : Int} (h : meetF ax ay bx b_y cx cy dx dy = (X, Y, 0)) :
    (∃ al, offF ax ay bx b_y X Y = (0, al, 0)) ∧ ∃ al, offF cx cy dx dy X Y = (0, al, 0) := by
  unfold meetF at h
  by_cases h1 : (!(vldB ax ay && vldB bx b_y && vldB cx cy && vldB dx dy)) = true
  · rw [if_pos h1] at h
    exact absurd (congrArg (fun t => t.2.2) h) (fun h => by simp at h)
  rw [if_neg h1] at h
  by_cases h2 : (bx - ax) * (dy - cy) - (b_y - ay) * (dx - cx) = 0
  · rw [if_pos h2] at h
    exact absurd (congrArg (fun t => t.2.2) h) (fun h => by simp at h)
  rw [if_neg h2] at h
  have hv : ((vldB ax ay = true ∧ vldB bx b_y = true) ∧ vldB cx cy = true) ∧ vldB dx dy = true := by simpa using h1
  obtain ⟨hd, hX, hY, hvX⟩ := along_val h
  have hab : ¬ (ax = bx ∧ ay = b_y) := by
    rintro ⟨rfl, rfl⟩
    exact h2 (by simp)
  have hcd : ¬ (cx = dx ∧ cy = dy) := by
    rintro ⟨rfl, rfl⟩
    exact h2 (by simp)
  rw [off_val hv.1.1.1 hv.1.1.2 hvX hab, off_val hv.1.2 hv.2 hvX hcd]
  have m1 := meet_first (ux := bx - ax) (uy := b_y - ay) (wx := dx - cx) (wy := dy - cy) (cx := cx - ax) (cy := cy - ay) (n := (cx - ax) * (dy - cy) - (cy - ay) * (dx - cx)) rfl h2 rfl rfl
  have m2 := meet_second (ux := bx - ax) (uy := b_y - ay) (wx := dx - cx) (wy := dy - cy) (cx := cx - ax) (cy := cy - ay) (n := (cx - ax) * (dy - cy) - (cy - ay) * (dx - cx)) rfl h2 rfl rfl rfl
  rw [show rnd 2 ((bx - ax) * ((cx - ax) * (dy - cy) - (cy - ay) * (dx - cx))) ((bx - ax) * (dy - cy) - (b_y - ay) * (dx - cx)) = X - ax from by omega, show rnd 2 ((b_y - ay) * ((cx - ax) * (dy - cy) - (cy - ay) * (dx - cx))) ((bx - ax) * (dy - cy) - (b_y - ay) * (dx - cx)) = Y - ay from by omega] at m1 m2
  rw [show Y - ay - (cy - ay) = Y - cy from by omega, show X - ax - (cx - ax) = X - cx from by omega] at m2
  exact ⟨⟨_, by rw [show lenF (-((bx - ax) * (Y - ay) - (b_y - ay) * (X - ax))) (dist2 ax ay bx b_y) = 0 from lenF_zero m1]⟩, ⟨_, by rw [show lenF (-((dx - cx) * (Y - cy) - (dy - cy) * (X - cx))) (dist2 cx cy dx dy) = 0 from lenF_zero m2]⟩⟩
/-- LinePasts -/
theorem past_b (ax ay bx b_y cx cy : Int) : pastF ax ay bx b_y cx cy bx b_y = false := by
  unfold pastF
  split
  · rw [Int.sub_self, Int.sub_self, Int.zero_mul, Int.zero_mul]; rfl
  · rfl
/-- LineCourses: the way back -/
theorem atanQ_neg (y x : Int) : atanQ (-y) (-x) = atanQ y x := by unfold atanQ; rw [Int.natAbs_neg, Int.natAbs_neg]
theorem atanQ_x {x : Int} (h : x ≠ 0) : atanQ 0 x = 0 := by
  unfold atanQ
  rw [if_neg (by simp)]
  have hx : 0 < (x.natAbs : Int) := by omega
  have e1 : (((0 : Int).natAbs : Nat) : Int) = 0 := rfl
  rw [e1]
  unfold atanC
  rw [greatN_eq _ n45 0 (Nat.zero_le _) (.inl rfl) ?_]
  · rfl
  · intro d h1 h2
    rw [n45_eq] at h2
    unfold atP
    refine decide_eq_false ?_
    rw [Int.mul_zero]
    have := Sin_mono (a := 1) (b := d) (by omega) (by omega) (by omega)
    have e : 0 < Sin 1 := by decide +kernel
    have := Int.mul_pos (show 0 < Sin d by omega) hx
    omega
theorem atanQ_y {y : Int} (h : y ≠ 0) : atanQ y 0 = 32400000 := by
  have h2 := atanQ_x h
  unfold atanQ at h2 ⊢
  rw [if_neg (by simp)] at h2
  rw [if_pos (by simp; omega), h2]
  rfl
theorem atan2_opp {y x : Int} (h : ¬ (y = 0 ∧ x = 0)) : atan2F (-y) (-x) = turnF (atan2F y x) 64800000 := by
  have hq := atanQ_bd y x
  have q1 : y = 0 → atanQ y x = 0 := fun e => by rw [e]; exact atanQ_x (by omega)
  have q2 : x = 0 → atanQ y x = 32400000 := fun e => by rw [e]; exact atanQ_y (by omega)
  rw [turnF_eq]
  unfold atan2F
  rw [atanQ_neg]
  generalize atanQ y x = Q at *
  unfold norm
  split <;> split <;> (try split) <;> (try split) <;> omega
theorem courses (ax ay bx b_y : Int) : (courseF bx b_y ax ay).2 = (courseF ax ay bx b_y).2 ∧
    ((courseF ax ay bx b_y).2 ≠ 0 → (courseF ax ay bx b_y).1 = 0 ∧ (courseF bx b_y ax ay).1 = 0) ∧ ((courseF ax ay bx b_y).2 = 0 → (courseF bx b_y ax ay).1 = turnF (courseF ax ay bx b_y).1 64800000) := by
  unfold courseF
  rcases hv : (vldB ax ay && vldB bx b_y) with _ | _
  · rw [Bool.and_comm] at hv
    rw [hv]
    simp
  · rw [Bool.and_comm] at hv
    rw [hv]
    by_cases he : ax = bx ∧ ay = b_y
    · have he2 : bx = ax ∧ b_y = ay := ⟨he.1.symm, he.2.symm⟩
      simp [he]
    · have he2 : ¬ (bx = ax ∧ b_y = ay) := fun h => he ⟨h.1.symm, h.2.symm⟩
      have := atan2_opp (y := bx - ax) (x := b_y - ay) (by omega)
      rw [show -(bx - ax) = ax - bx from by omega, show -(b_y - ay) = ay - b_y from by omega] at this
      simp [he, he2, this]
theorem dist_comm (ax ay bx b_y : Int) : distF bx b_y ax ay = distF ax ay bx b_y := by
  unfold distF
  rw [dist2_comm, Bool.and_comm]
/-- LineTriangle -/
theorem triangle {ax ay bx b_y cx cy : Int} (h1 : vldB ax ay = true) (h2 : vldB bx b_y = true) (h3 : vldB cx cy = true) : distF ax ay cx cy ≤ distF ax ay bx b_y + distF bx b_y cx cy + 1 := by
  have := dist_triangle ax ay bx b_y cx cy
  unfold distF
  rw [h1, h2, h3]
  exact this
theorem dist_left {ax ay bx b_y : Int} (h : vldB ax ay = false) : distF ax ay bx b_y = 0 := by unfold distF; rw [h]; rfl
theorem dist_right {ax ay bx b_y : Int} (h : vldB bx b_y = false) : distF ax ay bx b_y = 0 := by unfold distF; rw [h, Bool.and_false]; rfl
end Go.Proofs.YtdfkkknkiioghaaGreat

/-
  The chapters' examples, reckoned. No program.
-/
namespace Go.Proofs.YtdfkkknkiioghaaGreat
set_option linter.unusedVariables false

theorem atan_x (m : Int) (h : 0 < m) : atanC m 0 = 0 := by
  unfold atanC
  rw [greatN_eq (atP m 0) n45 0 (Nat.zero_le _) (.inl rfl) ?_]
  · rfl
  · intro d h1 h2
    rw [n45_eq] at h2
    unfold atP
    refine decide_eq_false ?_
    rw [Int.mul_zero]
    have := Sin_mono (a := 1) (b := d) (by omega) (by omega) (by omega)
    have e : 0 < Sin 1 := by decide +kernel
    have := Int.mul_pos (show 0 < Sin d by omega) h
    omega
theorem atan_diag (m : Int) (h : 0 < m) : atanC m m = 16200000 := by
  unfold atanC
  rw [greatN_eq (atP m m) n45 16200000 (by rw [n45_eq]; omega) (.inr ?_) ?_]
  · rfl
  · unfold atP
    refine decide_eq_true ?_
    have e : Sin 16200000 ≤ Cos 16200000 := by decide +kernel
    exact Int.mul_le_mul_of_nonneg_right e (by omega)
  · intro d h1 h2
    rw [n45_eq] at h2
    omega
theorem aw_course : courseF 0 0 10 0 = (32400000, 0) := by
  have := atan_x 10 (by decide)
  unfold courseF atan2F atanQ
  simp [vldB, this]
theorem aw_off : offF 0 0 0 10 3 4 = (3, 4, 0) := by decide +kernel
theorem aw_meet : meetF 0 0 10 10 0 10 10 0 = (5, 5, 0) := by decide +kernel
theorem aw_foot : footF 0 0 10 0 3 4 = (3, 0, 0) := by decide +kernel
theorem aw_ray : rayF 0 0 10800000 1000 = (500, 866, 0) := by decide +kernel
theorem aw_dist : distF 0 0 3 4 = 5 := by decide +kernel
theorem aw_side1 : sideF 0 0 0 10 3 4 = 1 := by decide +kernel
theorem aw_side2 : sideF 0 0 0 10 (-3) 4 = -1 := by decide +kernel
theorem aw_ahead1 : aheadF 0 0 0 10 5 11 = 1 := by decide +kernel
theorem aw_ahead2 : aheadF 0 0 0 10 5 9 = -1 := by decide +kernel
theorem aw_c1 : courseF 0 0 0 10 = (0, 0) := by
  have := atan_x 10 (by decide)
  unfold courseF atan2F atanQ
  simp [vldB, this]
theorem aw_c2 : courseF 0 10 10 10 = (32400000, 0) := by
  have := atan_x 10 (by decide)
  unfold courseF atan2F atanQ
  simp [vldB, this]
theorem aw_past1 : pastF 0 0 0 10 10 10 1 10 = true := by
  unfold pastF
  rw [aw_c1, aw_c2]
  decide +kernel
theorem aw_past2 : pastF 0 0 0 10 10 10 0 9 = false := by
  unfold pastF
  rw [aw_c1, aw_c2]
  decide +kernel
end Go.Proofs.YtdfkkknkiioghaaGreat

