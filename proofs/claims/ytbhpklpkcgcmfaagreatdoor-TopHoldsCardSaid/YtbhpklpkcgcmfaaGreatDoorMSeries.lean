/-
  The squares of the sine and the cosine add up to the square of the scale, but for a small part. No program.
-/
import Derived.Test.YtbhpklpkcgcmfaaGreatDoorMPlain
namespace Go.Proofs.YtbhpklpkcgcmfaaGreatDoor
set_option linter.unusedVariables false
section
variable {u : Int}
theorem qsin_lo {x : Int} (h : x ≤ 16200000) : qsin x = sine x := if_pos h
theorem qsin_hi {x : Int} (h : 0 ≤ x) (h2 : x ≤ 16200000) : qsin (32400000 - x) = cosine x := by
 by_cases h0 : x = 16200000
 · subst h0; decide
 · unfold qsin
   rw [if_neg (by omega)]
   congr 1; omega
end
end Go.Proofs.YtbhpklpkcgcmfaaGreatDoor
/-
  Plain law of chapter 11: a point on a course is as far away as was asked for, but for one unit. No program.
-/
namespace Go.Proofs.YtbhpklpkcgcmfaaGreatDoor
set_option linter.unusedVariables false
theorem rnd2_one (n : Int) : -1073741824 ≤ 2 * (rnd 2 n 1073741824 * 1073741824 - n) ∧ 2 * (rnd 2 n 1073741824 * 1073741824 - n) ≤ 1073741824 := by
 have := rnd2_near n 1073741824 (by decide)
 simpa using this
end Go.Proofs.YtbhpklpkcgcmfaaGreatDoor
/-
  Polynomials in one and two variables as lists of coefficients, to be reckoned with: sums, products, a bound of the values. No program.
-/
namespace Go.Proofs.YtbhpklpkcgcmfaaGreatDoor
set_option linter.unusedVariables false
theorem mul_abs_le {x v X V : Int} (hx : -X ≤ x ∧ x ≤ X) (hv : -V ≤ v ∧ v ≤ V) : -(X * V) ≤ x * v ∧ x * v ≤ X * V := by
 have hX : 0 ≤ X := by omega
 have hV : 0 ≤ V := by omega
 have a := Int.mul_nonneg (show 0 ≤ X - x by omega) (show 0 ≤ V - v by omega)
 have b := Int.mul_nonneg (show 0 ≤ X + x by omega) (show 0 ≤ V + v by omega)
 have c := Int.mul_nonneg (show 0 ≤ X - x by omega) (show 0 ≤ V + v by omega)
 have d := Int.mul_nonneg (show 0 ≤ X + x by omega) (show 0 ≤ V - v by omega)
 have e1 : (X - x) * (V - v) = X * V - X * v - x * V + x * v := by grind
 have e2 : (X + x) * (V + v) = X * V + X * v + x * V + x * v := by grind
 have e3 : (X - x) * (V + v) = X * V + X * v - x * V - x * v := by grind
 have e4 : (X + x) * (V - v) = X * V - X * v + x * V - x * v := by grind
 omega
end Go.Proofs.YtbhpklpkcgcmfaaGreatDoor
/-
  The addition theorem of the sine and the cosine in integers. First: of their polynomials. No program.
-/
namespace Go.Proofs.YtbhpklpkcgcmfaaGreatDoor
set_option linter.unusedVariables false
end Go.Proofs.YtbhpklpkcgcmfaaGreatDoor
/-
  The sine and the cosine in integers against their polynomials. No program.
-/
namespace Go.Proofs.YtbhpklpkcgcmfaaGreatDoor
set_option linter.unusedVariables false
end Go.Proofs.YtbhpklpkcgcmfaaGreatDoor
/-
  The addition theorem of the sine and the cosine in integers, for all angles. No program.
-/
namespace Go.Proofs.YtbhpklpkcgcmfaaGreatDoor
set_option linter.unusedVariables false
end Go.Proofs.YtbhpklpkcgcmfaaGreatDoor
/-
  The addition theorem of the sine and the cosine in integers, for all angles: the last part. No program.
-/
namespace Go.Proofs.YtbhpklpkcgcmfaaGreatDoor
set_option linter.unusedVariables false
end Go.Proofs.YtbhpklpkcgcmfaaGreatDoor
/-
  The addition theorem of the sine and the cosine in integers, for all angles: Sin a * Cos b + Cos a * Sin b is One * Sin (a + b), but for 13 times One, and likewise the cosine. No program.
-/
namespace Go.Proofs.YtbhpklpkcgcmfaaGreatDoor
set_option linter.unusedVariables false
theorem Sin_q {a : Int} (h : 0 ≤ a) (h2 : a ≤ 32400000) : Sin a = qsin a := by
 unfold Sin
 rw [norm_id h (by omega), if_pos h2]
theorem Sin_norm (a b : Int) (h : norm a = norm b) : Sin a = Sin b := by unfold Sin; rw [h]
theorem Sin_add_quarter (a : Int) : Sin (a + 32400000) = Cos a := Sin_norm _ _ (by rw [turnF_eq]; unfold norm; omega)
theorem Sin_add_half (a : Int) : Sin (a + 64800000) = -Sin a := by
 have hb := norm_bd a
 have e : norm (a + 64800000) = if norm a < 64800000 then norm a + 64800000 else norm a - 64800000 := by unfold norm; split <;> omega
 have e0 : qsin 0 = 0 := by decide
 unfold Sin
 rw [e]
 generalize norm a = b at *
 by_cases h1 : b ≤ 32400000
 · rw [if_pos (show b < 64800000 by omega), if_pos h1, if_neg (by omega)]
   by_cases h0 : b = 0
   · subst h0; decide
   · rw [if_neg (by omega), if_pos (by omega), show b + 64800000 - 64800000 = b from by omega]
 · by_cases h2 : b ≤ 64800000
   · by_cases h0 : b = 64800000
     · subst h0; decide
     · rw [if_pos (show b < 64800000 by omega), if_neg (by omega), if_neg (by omega), if_neg (by omega), if_neg h1, if_pos h2, show 129600000 - (b + 64800000) = 64800000 - b from by omega]
   · rw [if_neg (show ¬ b < 64800000 by omega)]
     by_cases h3 : b ≤ 97200000
     · rw [if_pos (by omega), if_neg h1, if_neg h2, if_pos h3, Int.neg_neg]
     · rw [if_neg (by omega), if_pos (by omega), if_neg h1, if_neg h2, if_neg h3, Int.neg_neg, show 64800000 - (b - 64800000) = 129600000 - b from by omega]
theorem Cos_add_quarter (a : Int) : Cos (a + 32400000) = -Sin a := by
 rw [← Sin_add_quarter, show a + 32400000 + 32400000 = a + 64800000 from by omega, Sin_add_half]
theorem Cos_norm (a b : Int) (h : norm a = norm b) : Cos a = Cos b := by
 rw [← Sin_add_quarter, ← Sin_add_quarter]
 exact Sin_norm _ _ (by unfold norm at *; omega)
end Go.Proofs.YtbhpklpkcgcmfaaGreatDoor
/-
  How near a course is to the vector that it is the course of; how fast the sine and the cosine turn. No program.
-/
namespace Go.Proofs.YtbhpklpkcgcmfaaGreatDoor
set_option linter.unusedVariables false
theorem Sin_neg (a : Int) : Sin (-a) = -Sin a := by
 have hb := norm_bd a
 have e : norm (-a) = if norm a = 0 then 0 else 129600000 - norm a := by unfold norm; split <;> omega
 have e0 : qsin 0 = 0 := by decide
 unfold Sin
 rw [e]
 generalize norm a = b at *
 by_cases h0 : b = 0
 · subst h0; decide
 · rw [if_neg h0]
   by_cases h1 : b ≤ 32400000
   · rw [if_pos h1]
     by_cases h : b = 32400000
     · subst h; decide
     · rw [if_neg (by omega), if_neg (by omega), if_neg (by omega), show 129600000 - (129600000 - b) = b from by omega]
   · by_cases h2 : b ≤ 64800000
     · rw [if_neg h1, if_pos h2]
       by_cases h : b = 64800000
       · subst h; decide
       · rw [if_neg (by omega), if_neg (by omega), if_pos (by omega), show 129600000 - b - 64800000 = 64800000 - b from by omega]
     · by_cases h3 : b ≤ 97200000
       · rw [if_neg h1, if_neg h2, if_pos h3, Int.neg_neg]
         by_cases h : b = 97200000
         · subst h; decide
         · rw [if_neg (by omega), if_pos (by omega), show 64800000 - (129600000 - b) = b - 64800000 from by omega]
       · rw [if_neg h1, if_neg h2, if_neg h3, Int.neg_neg, if_pos (by omega)]
theorem Cos_neg (a : Int) : Cos (-a) = Cos a := by
 rw [← Sin_add_quarter, show -a + 32400000 = -(a + 64800000) + 97200000 - 0 from by omega]
 have h1 : Sin (-(a + 64800000) + 97200000 - 0) = Sin (-(a - 32400000)) := Sin_norm _ _ (by unfold norm; omega)
 rw [h1, Sin_neg]
 have h2 := Cos_add_quarter (a - 32400000)
 rw [show a - 32400000 + 32400000 = a from by omega] at h2
 omega
theorem sine_rise {a : Int} (h : 0 ≤ a) (h2 : a < 16200000) : sine (a + 1) - sine a ≤ 54 ∧ cosine a - cosine (a + 1) ≤ 84 := by
 have ht := tA_bd h (by omega)
 have ht' := tA_bd (a := a + 1) (by omega) (by omega)
 have hd : tA a ≤ tA (a + 1) ∧ tA (a + 1) ≤ tA a + 105 := by unfold tA; omega
 have hu := u_of_t ht.1 ht.2
 have hu' := u_of_t ht'.1 ht'.2
 have hr := sr5_bd hu.1 hu.2
 have hr' := sr5_bd hu'.1 hu'.2
 unfold sine cosine uA
 generalize tA (a + 1) = t' at *
 generalize tA a = t at *
 have htt : 0 ≤ t * t := sq_nonneg t
 have e : t' * t' - t * t = (t' - t) * (t' + t) := by grind
 have hm : (t' - t) * (t' + t) ≤ 105 * 3373259426 := Int.mul_le_mul (by omega) (by omega) (by omega) (by omega)
 have um := u_mono ht.1 hd.1
 have ud : mulS t' t' ≤ mulS t t + 166 := by unfold mulS; omega
 have rm : sr5 (mulS t' t') ≤ sr5 (mulS t t) := by
  have : -sr5 (mulS t t) ≤ -sr5 (mulS t' t') := mono_le (f := fun x => -sr5 x) (lo := 0) (hi := 1325000000) (fun x a b => by
   have := sv5_step a b
   unfold sv5 at this
   show -sr5 x ≤ -sr5 (x + 1)
   unfold sr5 divS
   omega) hu.1 um hu'.2
  omega
 have cm : cr5 (mulS t t) ≤ cr5 (mulS t' t') + 166 := by
  have : cr5 (mulS t t) + mulS t t ≤ cr5 (mulS t' t') + mulS t' t' := mono_le (f := fun x => cr5 x + x) (lo := 0) (hi := 1325000000) (fun x a b => by
   have := cr5_step a b
   show cr5 x + x ≤ cr5 (x + 1) + (x + 1)
   omega) hu.1 um hu'.2
  omega
 have s1 : t' * sr5 (mulS t' t') ≤ t' * sr5 (mulS t t) := Int.mul_le_mul_of_nonneg_left rm ht'.1
 have s2 : (t' - t) * sr5 (mulS t t) ≤ 105 * 2147483648 := Int.mul_le_mul (by omega) hr.2 (by omega) (by decide)
 have e2 : (t' - t) * sr5 (mulS t t) = t' * sr5 (mulS t t) - t * sr5 (mulS t t) := by grind
 constructor
 · generalize sr5 (mulS t' t') = r' at *
   generalize sr5 (mulS t t) = r at *
   unfold mulS
   omega
 · omega
theorem Sin_mono {a b : Int} (h : 0 ≤ a) (h1 : a ≤ b) (h2 : b ≤ 32400000) : Sin a ≤ Sin b := by
 rw [Sin_q h (by omega), Sin_q (by omega) h2]
 by_cases hb : b ≤ 16200000
 · rw [qsin_lo (by omega), qsin_lo hb]
   exact sine_mono h h1 hb
 · have eb := qsin_hi (x := 32400000 - b) (by omega) (by omega)
   rw [show 32400000 - (32400000 - b) = b from by omega] at eb
   rw [eb]
   by_cases ha : a ≤ 16200000
   · rw [qsin_lo ha]
     have := sine_bd h ha
     have := cosine_bd (a := 32400000 - b) (by omega) (by omega)
     omega
   · have ea := qsin_hi (x := 32400000 - a) (by omega) (by omega)
     rw [show 32400000 - (32400000 - a) = a from by omega] at ea
     rw [ea]
     exact cosine_anti (by omega) (by omega) (by omega)
end Go.Proofs.YtbhpklpkcgcmfaaGreatDoor
/-
  The course of a vector leads to it; the course of a point of a circle is its direction. No program.
-/
namespace Go.Proofs.YtbhpklpkcgcmfaaGreatDoor
set_option linter.unusedVariables false
theorem Sin_quarter_sub (a : Int) : Sin (32400000 - a) = Cos a := by
 rw [show 32400000 - a = -a + 32400000 from by omega, Sin_add_quarter, Cos_neg]
theorem Sin_normed (a : Int) : Sin (norm a) = Sin a := Sin_norm _ _ (by unfold norm; omega)
theorem Cos_normed (a : Int) : Cos (norm a) = Cos a := Cos_norm _ _ (by unfold norm; omega)
end Go.Proofs.YtbhpklpkcgcmfaaGreatDoor
