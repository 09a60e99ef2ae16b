/-
  The squares of the sine and the cosine add up to the square of the scale, but for a small part. No program.
-/
import Derived.Test.YtjjdojokkmfbmaaGreatDoorMPlain
namespace Go.Proofs.YtjjdojokkmfbmaaGreatDoor
set_option linter.unusedVariables false
theorem hstep {u U s v s' n P A : Int} (hu : 0 ≤ u) (hU : u ≤ U) (hP : 0 ≤ P) (hn : 0 ≤ n) (hA : -P ≤ P * s - A ∧ P * s - A ≤ P) (hv : -U ≤ 2 * (U * v - u * s) ∧ 2 * (U * v - u * s) ≤ U)
    (hs : -n ≤ 2 * (n * s' - (n * U - v)) ∧ 2 * (n * s' - (n * U - v)) ≤ n) :
    -(P * U * (n + 3)) ≤ 2 * (n * P * U * s' - (n * P * U * U - u * A)) ∧ 2 * (n * P * U * s' - (n * P * U * U - u * A)) ≤ P * U * (n + 3) := by
  have e : n * P * U * s' - (n * P * U * U - u * A) = P * U * (n * s' - (n * U - v)) - P * (U * v - u * s) - u * (P * s - A) := by grind
  have hPU : 0 ≤ P * U := Int.mul_nonneg hP (by omega)
  have a1 := Int.mul_le_mul_of_nonneg_left hs.1 hPU
  have a2 := Int.mul_le_mul_of_nonneg_left hs.2 hPU
  have b1 := Int.mul_le_mul_of_nonneg_left hv.1 hP
  have b2 := Int.mul_le_mul_of_nonneg_left hv.2 hP
  have c1 := Int.mul_le_mul_of_nonneg_left hA.1 hu
  have c2 := Int.mul_le_mul_of_nonneg_left hA.2 hu
  have d := Int.mul_le_mul_of_nonneg_right hU hP
  have e1 : P * U * (2 * (n * s' - (n * U - v))) = 2 * (P * U * (n * s' - (n * U - v))) := by grind
  have e2 : P * (2 * (U * v - u * s)) = 2 * (P * (U * v - u * s)) := by grind
  have e3 : P * U * (n + 3) = P * U * n + 3 * (P * U) := by grind
  have e4 : U * P = P * U := Int.mul_comm _ _
  have e5 : P * U * -n = -(P * U * n) := by grind
  have e6 : P * -U = -(P * U) := by grind
  have e7 : u * -P = -(u * P) := by grind
  rw [e, e3]
  omega
section
variable {u : Int}
theorem qsin_lo {x : Int} (h : x ≤ 16200000) : qsin x = sine x := if_pos h
theorem qsin_hi {x : Int} (h : 0 ≤ x) (h2 : x ≤ 16200000) : qsin (32400000 - x) = cosine x := by
  by_cases h0 : x = 16200000
  · subst h0; decide
  · unfold qsin
    rw [if_neg (by omega)]
    congr 1; omega
end
end Go.Proofs.YtjjdojokkmfbmaaGreatDoor
/-
  Plain law of chapter 11: a point on a course is as far away as was asked for, but for one unit. No program.
-/
namespace Go.Proofs.YtjjdojokkmfbmaaGreatDoor
set_option linter.unusedVariables false
theorem rnd2_one (n : Int) : -1073741824 ≤ 2 * (rnd 2 n 1073741824 * 1073741824 - n) ∧ 2 * (rnd 2 n 1073741824 * 1073741824 - n) ≤ 1073741824 := by
  have := rnd2_near n 1073741824 (by decide)
  simpa using this
end Go.Proofs.YtjjdojokkmfbmaaGreatDoor
/-
  Polynomials in one and two variables as lists of coefficients, to be reckoned with: sums, products, a bound of the values. No program.
-/
namespace Go.Proofs.YtjjdojokkmfbmaaGreatDoor
set_option linter.unusedVariables false
end Go.Proofs.YtjjdojokkmfbmaaGreatDoor
/-
  The addition theorem of the sine and the cosine in integers. First: of their polynomials. No program.
-/
namespace Go.Proofs.YtjjdojokkmfbmaaGreatDoor
set_option linter.unusedVariables false
def mp : Int := 15511210043330985984000000 * 2147483648^25
end Go.Proofs.YtjjdojokkmfbmaaGreatDoor
/-
  The sine and the cosine in integers against their polynomials. No program.
-/
namespace Go.Proofs.YtjjdojokkmfbmaaGreatDoor
set_option linter.unusedVariables false
def hp1 : List Int := [3628800 * 2147483648^10, 0, -1814400 * 2147483648^8, 0, 151200 * 2147483648^6, 0, -5040 * 2147483648^4, 0, 90 * 2147483648^2, 0, -1]
end Go.Proofs.YtjjdojokkmfbmaaGreatDoor
/-
  The addition theorem of the sine and the cosine in integers, for all angles. No program.
-/
namespace Go.Proofs.YtjjdojokkmfbmaaGreatDoor
set_option linter.unusedVariables false
end Go.Proofs.YtjjdojokkmfbmaaGreatDoor
/-
  The addition theorem of the sine and the cosine in integers, for all angles: the last part. No program.
-/
namespace Go.Proofs.YtjjdojokkmfbmaaGreatDoor
set_option linter.unusedVariables false
def Near (k : Int) (p P : Int) : Prop := -(k * mp) ≤ 10 * (mp * p - 1073741824 * P) ∧ 10 * (mp * p - 1073741824 * P) ≤ k * mp
end Go.Proofs.YtjjdojokkmfbmaaGreatDoor
/-
  The addition theorem of the sine and the cosine in integers, for all angles: Sin a * Cos b + Cos a * Sin b is One * Sin (a + b), but for 13 times One, and likewise the cosine. No program.
-/
namespace Go.Proofs.YtjjdojokkmfbmaaGreatDoor
set_option linter.unusedVariables false
theorem Sin_q {a : Int} (h : 0 ≤ a) (h2 : a ≤ 32400000) : Sin a = qsin a := by
  unfold Sin
  rw [norm_id h (by omega), if_pos h2]
theorem Near.neg {k p P : Int} (h : Near k p P) : Near k (-p) (-P) := by
  unfold Near at *
  rw [Int.mul_neg, Int.mul_neg]
  omega
end Go.Proofs.YtjjdojokkmfbmaaGreatDoor
/-
  How near a course is to the vector that it is the course of; how fast the sine and the cosine turn. No program.
-/
namespace Go.Proofs.YtjjdojokkmfbmaaGreatDoor
set_option linter.unusedVariables false
theorem Sin_mono {a b : Int} (h : 0 ≤ a) (h1 : a ≤ b) (h2 : b ≤ 32400000) : Sin a ≤ Sin b := by
  rw [Sin_q h (by omega), Sin_q (by omega) h2]
  by_cases hb : b ≤ 16200000
  · rw [qsin_lo (by omega), qsin_lo hb]
    exact sine_mono h h1 hb
  · have eb := qsin_hi (x := 32400000 - b) (by omega) (by omega)
    rw [show 32400000 - (32400000 - b) = b from by omega] at eb
    rw [eb]
    by_cases ha : a ≤ 16200000
    · rw [qsin_lo ha]
      have := sine_bd h ha
      have := cosine_bd (a := 32400000 - b) (by omega) (by omega)
      omega
    · have ea := qsin_hi (x := 32400000 - a) (by omega) (by omega)
      rw [show 32400000 - (32400000 - a) = a from by omega] at ea
      rw [ea]
      exact cosine_anti (by omega) (by omega) (by omega)
end Go.Proofs.YtjjdojokkmfbmaaGreatDoor
/-
  The course of a vector leads to it; the course of a point of a circle is its direction. No program.
-/
namespace Go.Proofs.YtjjdojokkmfbmaaGreatDoor
set_option linter.unusedVariables false
def big (p q : Int) : Int := max (p.natAbs : Int) q.natAbs
end Go.Proofs.YtjjdojokkmfbmaaGreatDoor
