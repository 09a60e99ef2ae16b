/-
  The squares of the sine and the cosine add up to the square of the scale, but for a small part. No program.
-/
import Derived.Test.YtdfkkknkiioghaaGreatMPlain
namespace Go.Proofs.YtdfkkknkiioghaaGreat
set_option linter.unusedVariables false

theorem circ (u U A B : Int) (hA : A = 39916800 * U^5 - 6652800 * u * U^4 + 332640 * u^2 * U^3 - 7920 * u^3 * U^2 + 110 * u^4 * U - u^5)
    (hB : B = 3628800 * U^5 - 1814400 * u * U^4 + 151200 * u^2 * U^3 - 5040 * u^3 * U^2 + 90 * u^4 * U - u^5) :
    u * (A * A) + 121 * U * (B * B) = 1593350922240000 * U^11 + u^6 * (-6652800 * U^5 + 2851200 * u * U^4 - 207900 * u^2 * U^3 + 6160 * u^3 * U^2 - 99 * u^4 * U + u^5) := by
  subst hA hB
  grind

/-- a step of the series with its rounding: v is u * s / U, s' is U - v / n; P s is A but for P -/
theorem hstep {u U s v s' n P A : Int} (hu : 0 ≤ u) (hU : u ≤ U) (hP : 0 ≤ P) (hn : 0 ≤ n) (hA : -P ≤ P * s - A ∧ P * s - A ≤ P) (hv : -U ≤ 2 * (U * v - u * s) ∧ 2 * (U * v - u * s) ≤ U)
    (hs : -n ≤ 2 * (n * s' - (n * U - v)) ∧ 2 * (n * s' - (n * U - v)) ≤ n) :
    -(P * U * (n + 3)) ≤ 2 * (n * P * U * s' - (n * P * U * U - u * A)) ∧ 2 * (n * P * U * s' - (n * P * U * U - u * A)) ≤ P * U * (n + 3) := by
  have e : n * P * U * s' - (n * P * U * U - u * A) = P * U * (n * s' - (n * U - v)) - P * (U * v - u * s) - u * (P * s - A) := by grind
  have hPU : 0 ≤ P * U := Int.mul_nonneg hP (by omega)
  have a1 := Int.mul_le_mul_of_nonneg_left hs.1 hPU
  have a2 := Int.mul_le_mul_of_nonneg_left hs.2 hPU
  have b1 := Int.mul_le_mul_of_nonneg_left hv.1 hP
  have b2 := Int.mul_le_mul_of_nonneg_left hv.2 hP
  have c1 := Int.mul_le_mul_of_nonneg_left hA.1 hu
  have c2 := Int.mul_le_mul_of_nonneg_left hA.2 hu
  have d := Int.mul_le_mul_of_nonneg_right hU hP
  have e1 : P * U * (2 * (n * s' - (n * U - v))) = 2 * (P * U * (n * s' - (n * U - v))) := by grind
  have e2 : P * (2 * (U * v - u * s)) = 2 * (P * (U * v - u * s)) := by grind
  have e3 : P * U * (n + 3) = P * U * n + 3 * (P * U) := by grind
  have e4 : U * P = P * U := Int.mul_comm _ _
  have e5 : P * U * -n = -(P * U * n) := by grind
  have e6 : P * -U = -(P * U) := by grind
  have e7 : u * -P = -(u * P) := by grind
  rw [e, e3]
  omega
theorem mulS_near (u s : Int) : -2147483648 ≤ 2 * (2147483648 * mulS u s - u * s) ∧ 2 * (2147483648 * mulS u s - u * s) ≤ 2147483648 := by unfold mulS; omega

section
variable {u : Int}
theorem nsr1 : -110 ≤ 2 * (110 * sr1 u - (110 * 2147483648 - u)) ∧ 2 * (110 * sr1 u - (110 * 2147483648 - u)) ≤ 110 := by unfold sr1 divS; omega
theorem nsr2 : -72 ≤ 2 * (72 * sr2 u - (72 * 2147483648 - mulS u (sr1 u))) ∧ 2 * (72 * sr2 u - (72 * 2147483648 - mulS u (sr1 u))) ≤ 72 := by unfold sr2 divS; omega
theorem nsr3 : -42 ≤ 2 * (42 * sr3 u - (42 * 2147483648 - mulS u (sr2 u))) ∧ 2 * (42 * sr3 u - (42 * 2147483648 - mulS u (sr2 u))) ≤ 42 := by unfold sr3 divS; omega
theorem nsr4 : -20 ≤ 2 * (20 * sr4 u - (20 * 2147483648 - mulS u (sr3 u))) ∧ 2 * (20 * sr4 u - (20 * 2147483648 - mulS u (sr3 u))) ≤ 20 := by unfold sr4 divS; omega
theorem nsr5 : -6 ≤ 2 * (6 * sr5 u - (6 * 2147483648 - mulS u (sr4 u))) ∧ 2 * (6 * sr5 u - (6 * 2147483648 - mulS u (sr4 u))) ≤ 6 := by unfold sr5 divS; omega
theorem ncr1 : -90 ≤ 2 * (90 * cr1 u - (90 * 2147483648 - u)) ∧ 2 * (90 * cr1 u - (90 * 2147483648 - u)) ≤ 90 := by unfold cr1 divS; omega
theorem ncr2 : -56 ≤ 2 * (56 * cr2 u - (56 * 2147483648 - mulS u (cr1 u))) ∧ 2 * (56 * cr2 u - (56 * 2147483648 - mulS u (cr1 u))) ≤ 56 := by unfold cr2 divS; omega
theorem ncr3 : -30 ≤ 2 * (30 * cr3 u - (30 * 2147483648 - mulS u (cr2 u))) ∧ 2 * (30 * cr3 u - (30 * 2147483648 - mulS u (cr2 u))) ≤ 30 := by unfold cr3 divS; omega
theorem ncr4 : -12 ≤ 2 * (12 * cr4 u - (12 * 2147483648 - mulS u (cr3 u))) ∧ 2 * (12 * cr4 u - (12 * 2147483648 - mulS u (cr3 u))) ≤ 12 := by unfold cr4 divS; omega
theorem ncr5 : -2 ≤ 2 * (2 * cr5 u - (2 * 2147483648 - mulS u (cr4 u))) ∧ 2 * (2 * cr5 u - (2 * 2147483648 - mulS u (cr4 u))) ≤ 2 := by unfold cr5 divS; omega

/-- the series' last number against its polynomial -/
theorem sr_poly (hu : 0 ≤ u) (hU : u ≤ 1325000000) : ∃ A : Int, A = 39916800 * 2147483648^5 - 6652800 * u * 2147483648^4 + 332640 * u^2 * 2147483648^3 - 7920 * u^3 * 2147483648^2 + 110 * u^4 * 2147483648 - u^5 ∧
    -(39916800 * 2147483648^4) ≤ 39916800 * 2147483648^4 * sr5 u - A ∧ 39916800 * 2147483648^4 * sr5 u - A ≤ 39916800 * 2147483648^4 := by
  have h1 : -110 ≤ 110 * sr1 u - (110 * 2147483648 - u) ∧ 110 * sr1 u - (110 * 2147483648 - u) ≤ 110 := by have := nsr1 (u := u); omega
  have h2 := hstep hu (show u ≤ 2147483648 by omega) (by decide) (by decide) h1 (mulS_near u _) nsr2
  generalize hA1 : 110 * 2147483648 - u = A1 at *
  have h2' : -(72 * 110 * 2147483648) ≤ 72 * 110 * 2147483648 * sr2 u - (72 * 110 * 2147483648 * 2147483648 - u * A1) ∧ 72 * 110 * 2147483648 * sr2 u - (72 * 110 * 2147483648 * 2147483648 - u * A1) ≤ 72 * 110 * 2147483648 := by omega
  have h3 := hstep hu (show u ≤ 2147483648 by omega) (by decide) (by decide) h2' (mulS_near u _) nsr3
  generalize hA2 : 72 * 110 * 2147483648 * 2147483648 - u * A1 = A2 at *
  have h3' : -(42 * (72 * 110 * 2147483648) * 2147483648) ≤ 42 * (72 * 110 * 2147483648) * 2147483648 * sr3 u - (42 * (72 * 110 * 2147483648) * 2147483648 * 2147483648 - u * A2) ∧ 42 * (72 * 110 * 2147483648) * 2147483648 * sr3 u - (42 * (72 * 110 * 2147483648) * 2147483648 * 2147483648 - u * A2) ≤ 42 * (72 * 110 * 2147483648) * 2147483648 := by omega
  have h4 := hstep hu (show u ≤ 2147483648 by omega) (by decide) (by decide) h3' (mulS_near u _) nsr4
  generalize hA3 : 42 * (72 * 110 * 2147483648) * 2147483648 * 2147483648 - u * A2 = A3 at *
  have h4' : -(20 * (42 * (72 * 110 * 2147483648) * 2147483648) * 2147483648) ≤ 20 * (42 * (72 * 110 * 2147483648) * 2147483648) * 2147483648 * sr4 u - (20 * (42 * (72 * 110 * 2147483648) * 2147483648) * 2147483648 * 2147483648 - u * A3) ∧ 20 * (42 * (72 * 110 * 2147483648) * 2147483648) * 2147483648 * sr4 u - (20 * (42 * (72 * 110 * 2147483648) * 2147483648) * 2147483648 * 2147483648 - u * A3) ≤ 20 * (42 * (72 * 110 * 2147483648) * 2147483648) * 2147483648 := by omega
  have h5 := hstep hu (show u ≤ 2147483648 by omega) (by decide) (by decide) h4' (mulS_near u _) nsr5
  generalize hA4 : 20 * (42 * (72 * 110 * 2147483648) * 2147483648) * 2147483648 * 2147483648 - u * A3 = A4 at *
  refine ⟨6 * (20 * (42 * (72 * 110 * 2147483648) * 2147483648) * 2147483648) * 2147483648 * 2147483648 - u * A4, ?_, ?_, ?_⟩
  · subst hA1 hA2 hA3 hA4
    grind
  · omega
  · omega
theorem cr_poly (hu : 0 ≤ u) (hU : u ≤ 1325000000) : ∃ B : Int, B = 3628800 * 2147483648^5 - 1814400 * u * 2147483648^4 + 151200 * u^2 * 2147483648^3 - 5040 * u^3 * 2147483648^2 + 90 * u^4 * 2147483648 - u^5 ∧
    -(3628800 * 2147483648^4 * 5) ≤ 4 * (3628800 * 2147483648^4 * cr5 u - B) ∧ 4 * (3628800 * 2147483648^4 * cr5 u - B) ≤ 3628800 * 2147483648^4 * 5 := by
  have h1 : -90 ≤ 90 * cr1 u - (90 * 2147483648 - u) ∧ 90 * cr1 u - (90 * 2147483648 - u) ≤ 90 := by have := ncr1 (u := u); omega
  have h2 := hstep hu (show u ≤ 2147483648 by omega) (by decide) (by decide) h1 (mulS_near u _) ncr2
  generalize hA1 : 90 * 2147483648 - u = A1 at *
  have h2' : -(56 * 90 * 2147483648) ≤ 56 * 90 * 2147483648 * cr2 u - (56 * 90 * 2147483648 * 2147483648 - u * A1) ∧ 56 * 90 * 2147483648 * cr2 u - (56 * 90 * 2147483648 * 2147483648 - u * A1) ≤ 56 * 90 * 2147483648 := by omega
  have h3 := hstep hu (show u ≤ 2147483648 by omega) (by decide) (by decide) h2' (mulS_near u _) ncr3
  generalize hA2 : 56 * 90 * 2147483648 * 2147483648 - u * A1 = A2 at *
  have h3' : -(30 * (56 * 90 * 2147483648) * 2147483648) ≤ 30 * (56 * 90 * 2147483648) * 2147483648 * cr3 u - (30 * (56 * 90 * 2147483648) * 2147483648 * 2147483648 - u * A2) ∧ 30 * (56 * 90 * 2147483648) * 2147483648 * cr3 u - (30 * (56 * 90 * 2147483648) * 2147483648 * 2147483648 - u * A2) ≤ 30 * (56 * 90 * 2147483648) * 2147483648 := by omega
  have h4 := hstep hu (show u ≤ 2147483648 by omega) (by decide) (by decide) h3' (mulS_near u _) ncr4
  generalize hA3 : 30 * (56 * 90 * 2147483648) * 2147483648 * 2147483648 - u * A2 = A3 at *
  have h4' : -(12 * (30 * (56 * 90 * 2147483648) * 2147483648) * 2147483648) ≤ 12 * (30 * (56 * 90 * 2147483648) * 2147483648) * 2147483648 * cr4 u - (12 * (30 * (56 * 90 * 2147483648) * 2147483648) * 2147483648 * 2147483648 - u * A3) ∧ 12 * (30 * (56 * 90 * 2147483648) * 2147483648) * 2147483648 * cr4 u - (12 * (30 * (56 * 90 * 2147483648) * 2147483648) * 2147483648 * 2147483648 - u * A3) ≤ 12 * (30 * (56 * 90 * 2147483648) * 2147483648) * 2147483648 := by omega
  have h5 := hstep hu (show u ≤ 2147483648 by omega) (by decide) (by decide) h4' (mulS_near u _) ncr5
  generalize hA4 : 12 * (30 * (56 * 90 * 2147483648) * 2147483648) * 2147483648 * 2147483648 - u * A3 = A4 at *
  refine ⟨2 * (12 * (30 * (56 * 90 * 2147483648) * 2147483648) * 2147483648) * 2147483648 * 2147483648 - u * A4, ?_, ?_, ?_⟩
  · subst hA1 hA2 hA3 hA4
    grind
  · omega
  · omega

theorem pow_bd {u U : Int} (hu : 0 ≤ u) (hU : u ≤ U) : ∀ k : Nat, 0 ≤ u^k ∧ u^k ≤ U^k
  | 0 => by simp
  | k + 1 => by
    have := pow_bd hu hU k
    rw [Int.pow_succ, Int.pow_succ]
    exact ⟨Int.mul_nonneg this.1 hu, Int.mul_le_mul this.2 hU hu (by omega)⟩
theorem rest_bd (hu : 0 ≤ u) (hU : u ≤ 2147483648) : ∃ q : Int, u^6 * (-6652800 * 2147483648^5 + 2851200 * u * 2147483648^4 - 207900 * u^2 * 2147483648^3 + 6160 * u^3 * 2147483648^2 - 99 * u^4 * 2147483648 + u^5) = q ∧
    -(9718160 * 2147483648^11) ≤ q ∧ q ≤ 9718160 * 2147483648^11 := by
  have p2 := pow_bd hu hU 2
  have p3 := pow_bd hu hU 3
  have p4 := pow_bd hu hU 4
  have p5 := pow_bd hu hU 5
  have p6 := pow_bd hu hU 6
  have hq : -(9718160 * 2147483648^5) ≤ -6652800 * 2147483648^5 + 2851200 * u * 2147483648^4 - 207900 * u^2 * 2147483648^3 + 6160 * u^3 * 2147483648^2 - 99 * u^4 * 2147483648 + u^5 ∧
      -6652800 * 2147483648^5 + 2851200 * u * 2147483648^4 - 207900 * u^2 * 2147483648^3 + 6160 * u^3 * 2147483648^2 - 99 * u^4 * 2147483648 + u^5 ≤ 9718160 * 2147483648^5 := by
    generalize u^2 = a2 at *
    generalize u^3 = a3 at *
    generalize u^4 = a4 at *
    generalize u^5 = a5 at *
    omega
  refine ⟨_, rfl, ?_⟩
  generalize -6652800 * 2147483648^5 + 2851200 * u * 2147483648^4 - 207900 * u^2 * 2147483648^3 + 6160 * u^3 * 2147483648^2 - 99 * u^4 * 2147483648 + u^5 = q at *
  generalize u^6 = a6 at *
  have h1 := Int.mul_le_mul_of_nonneg_left hq.1 p6.1
  have h2 := Int.mul_le_mul_of_nonneg_left hq.2 p6.1
  have h3 := Int.mul_le_mul_of_nonneg_right p6.2 (show (0 : Int) ≤ 9718160 * 2147483648^5 by decide)
  omega
theorem sq_near {X A P M : Int} (hP : 0 ≤ P) (h : -P ≤ X - A ∧ X - A ≤ P) (hX : 0 ≤ X) (hM : X ≤ M) : -(P * (2 * M + P)) ≤ X * X - A * A ∧ X * X - A * A ≤ P * (2 * M + P) := by
  have e : X * X - A * A = (X - A) * (X + A) := by grind
  have hs : -(2 * M + P) ≤ X + A ∧ X + A ≤ 2 * M + P := by omega
  have := sq_bd h.1 h.2
  rw [e]
  generalize X - A = d at *
  generalize X + A = s at *
  generalize hk : 2 * M + P = k at *
  have hk0 : 0 ≤ k := by omega
  constructor
  · rcases Int.le_total 0 d with h1 | h1
    · have a := Int.mul_le_mul_of_nonneg_left hs.1 h1
      have b := Int.mul_le_mul_of_nonneg_right h.2 hk0
      have : d * -k = -(d * k) := by grind
      omega
    · have a := Int.mul_le_mul_of_nonpos_left h1 hs.2
      have b := Int.mul_le_mul_of_nonneg_right h.1 hk0
      have : -P * k = -(P * k) := by grind
      omega
  · rcases Int.le_total 0 d with h1 | h1
    · have a := Int.mul_le_mul_of_nonneg_left hs.2 h1
      have b := Int.mul_le_mul_of_nonneg_right h.2 hk0
      omega
    · have a := Int.mul_le_mul_of_nonpos_left h1 hs.1
      have b := Int.mul_le_mul_of_nonneg_right h.1 hk0
      have : -P * k = -(P * k) := by grind
      have : d * -k = -(d * k) := by grind
      omega
theorem unit_u (hu : 0 ≤ u) (hU : u ≤ 1325000000) : -(20 * 2147483648^2) ≤ u * (sr5 u * sr5 u) + 2147483648 * (cr5 u * cr5 u) - 2147483648^3 ∧ u * (sr5 u * sr5 u) + 2147483648 * (cr5 u * cr5 u) - 2147483648^3 ≤ 20 * 2147483648^2 := by
  obtain ⟨A, eA, a1, a2⟩ := sr_poly hu hU
  obtain ⟨B, eB, b1, b2⟩ := cr_poly hu hU
  have hc := circ u 2147483648 A B eA eB
  obtain ⟨q, hq, q1, q2⟩ := rest_bd hu (show u ≤ 2147483648 by omega)
  rw [hq] at hc
  have r := sr5_bd hu hU
  have c := cr5_bd hu hU
  generalize sr5 u = r5 at *
  generalize cr5 u = c5 at *
  clear hq eA eB
  have X2 := sq_near (X := 39916800 * 2147483648^4 * r5) (A := A) (P := 39916800 * 2147483648^4) (M := 39916800 * 2147483648^4 * 2147483648) (by decide) ⟨a1, a2⟩ (by omega) (by omega)
  have Y2 := sq_near (X := 3628800 * 2147483648^4 * c5) (A := B) (P := 3628800 * 2147483648^4 * 5 / 4) (M := 3628800 * 2147483648^4 * 2147483648) (by decide) ⟨by omega, by omega⟩ (by omega) (by omega)
  have e1 : 39916800 * 2147483648^4 * r5 * (39916800 * 2147483648^4 * r5) = 1593350922240000 * 2147483648^8 * (r5 * r5) := by grind
  have e2 : 3628800 * 2147483648^4 * c5 * (3628800 * 2147483648^4 * c5) = 13168189440000 * 2147483648^8 * (c5 * c5) := by grind
  rw [e1] at X2
  rw [e2] at Y2
  have u1 := Int.mul_le_mul_of_nonneg_left X2.1 hu
  have u2 := Int.mul_le_mul_of_nonneg_left X2.2 hu
  have e3 : u * (1593350922240000 * 2147483648^8 * (r5 * r5) - A * A) = 1593350922240000 * 2147483648^8 * (u * (r5 * r5)) - u * (A * A) := by grind
  rw [e3] at u1 u2
  generalize r5 * r5 = rr at *
  generalize u * rr = urr at *
  generalize c5 * c5 = cc at *
  generalize A * A = AA at *
  generalize u * AA = uAA at *
  generalize B * B = BB at *
  omega
theorem unit_circle {a : Int} (h : 0 ≤ a) (h2 : a ≤ 16200000) : -(15 * 1073741824) ≤ sine a * sine a + cosine a * cosine a - 1152921504606846976 ∧ sine a * sine a + cosine a * cosine a - 1152921504606846976 ≤ 15 * 1073741824 := by
  have ht := tA_bd h h2
  have hu := u_of_t ht.1 ht.2
  have hun := unit_u hu.1 hu.2
  have r := sr5_bd hu.1 hu.2
  have c := cr5_bd hu.1 hu.2
  have sb := sine_bd h h2
  have cb := cosine_bd h h2
  unfold sine cosine uA at *
  have m1 := mulS_near (tA a) (tA a)
  have m2 := mulS_near (tA a) (sr5 (mulS (tA a) (tA a)))
  generalize tA a = t at *
  generalize mulS t t = u at *
  generalize sr5 u = r5 at *
  generalize cr5 u = c5 at *
  generalize mulS t r5 = v at *
  generalize hS : (v + 1) / 2 = S at *
  generalize hC : (c5 + 1) / 2 = C at *
  have tr0 : 0 ≤ t * r5 := Int.mul_nonneg ht.1 (by omega)
  have tr1 : t * r5 ≤ 1686629713 * 2147483648 := Int.mul_le_mul ht.2 r.2 (by omega) (by decide)
  have X2 := sq_near (X := 2 * 2147483648 * S) (A := t * r5) (P := 3 * 1073741824) (M := 2 * 2147483648 * 759250125) (by decide) ⟨by omega, by omega⟩ (by omega) (by omega)
  have e1 : 2 * 2147483648 * S * (2 * 2147483648 * S) = 4 * 2147483648 * 2147483648 * (S * S) := by grind
  have e2 : t * r5 * (t * r5) = t * t * (r5 * r5) := by grind
  rw [e1, e2] at X2
  have rr0 := sq_nonneg r5
  have rr1 := sq_bd (a := r5) (m := 2147483648) (by omega) (by omega)
  have w1 := Int.mul_le_mul_of_nonneg_right m1.1 rr0
  have w2 := Int.mul_le_mul_of_nonneg_right m1.2 rr0
  have e3 : 2 * (2147483648 * u - t * t) * (r5 * r5) = 2 * (2147483648 * (u * (r5 * r5))) - 2 * (t * t * (r5 * r5)) := by grind
  rw [e3] at w1 w2
  have C2 : c5 * c5 ≤ 4 * (C * C) ∧ 4 * (C * C) ≤ c5 * c5 + 2 * c5 + 1 := by
    have : 2 * C = c5 ∨ 2 * C = c5 + 1 := by omega
    rcases this with h | h
    · have : 4 * (C * C) = c5 * c5 := by rw [← h]; grind
      omega
    · have : 4 * (C * C) = c5 * c5 + 2 * c5 + 1 := by rw [show 4 * (C * C) = 2 * C * (2 * C) from by grind, h]; grind
      omega
  generalize r5 * r5 = rr at *
  generalize u * rr = urr at *
  generalize t * t * rr = ttrr at *
  generalize c5 * c5 = cc at *
  generalize S * S = SS at *
  generalize C * C = CC at *
  omega
/-- the quarter of an angle -/
theorem quad (a : Int) : ∃ x : Int, 0 ≤ x ∧ x ≤ 32400000 ∧
    ((norm a = x ∧ Sin a = qsin x ∧ Cos a = qsin (32400000 - x)) ∨ (norm a = 64800000 - x ∧ Sin a = qsin x ∧ Cos a = -qsin (32400000 - x)) ∨
     (norm a = 64800000 + x ∧ Sin a = -qsin x ∧ Cos a = -qsin (32400000 - x)) ∨ (norm a = 129600000 - x ∧ Sin a = -qsin x ∧ Cos a = qsin (32400000 - x))) := by
  have hb := norm_bd a
  have e : norm (turnF a 32400000) = (norm a + 32400000) % 129600000 := by rw [turnF_eq]; unfold norm; omega
  unfold Cos Sin
  rw [e]
  generalize norm a = b at *
  by_cases h1 : b ≤ 32400000
  · refine ⟨b, by omega, h1, .inl ⟨rfl, if_pos h1, ?_⟩⟩
    by_cases h0 : b = 0
    · subst h0; decide
    · rw [if_neg (by omega), if_pos (by omega)]
      congr 1; omega
  · by_cases h2 : b ≤ 64800000
    · refine ⟨64800000 - b, by omega, by omega, .inr (.inl ⟨by omega, by rw [if_neg h1, if_pos h2], ?_⟩)⟩
      rw [if_neg (by omega), if_neg (by omega), if_pos (by omega)]
      congr 2; omega
    · by_cases h3 : b ≤ 97200000
      · refine ⟨b - 64800000, by omega, by omega, .inr (.inr (.inl ⟨by omega, by rw [if_neg h1, if_neg h2, if_pos h3], ?_⟩))⟩
        by_cases h0 : b = 97200000
        · subst h0; decide
        · rw [if_neg (by omega), if_neg (by omega), if_neg (by omega)]
          congr 2; omega
      · refine ⟨129600000 - b, by omega, by omega, .inr (.inr (.inr ⟨by omega, by rw [if_neg h1, if_neg h2, if_neg h3], ?_⟩))⟩
        rw [if_pos (by omega)]
        congr 1; omega
theorem qsin_lo {x : Int} (h : x ≤ 16200000) : qsin x = sine x := if_pos h
theorem qsin_hi {x : Int} (h : 0 ≤ x) (h2 : x ≤ 16200000) : qsin (32400000 - x) = cosine x := by
  by_cases h0 : x = 16200000
  · subst h0; decide
  · unfold qsin
    rw [if_neg (by omega)]
    congr 1; omega
theorem unit_q {x : Int} (h : 0 ≤ x) (h2 : x ≤ 32400000) : -(15 * 1073741824) ≤ qsin x * qsin x + qsin (32400000 - x) * qsin (32400000 - x) - 1152921504606846976 ∧ qsin x * qsin x + qsin (32400000 - x) * qsin (32400000 - x) - 1152921504606846976 ≤ 15 * 1073741824 := by
  by_cases h3 : x ≤ 16200000
  · rw [qsin_lo h3, qsin_hi h h3]
    exact unit_circle h h3
  · have e1 := qsin_hi (x := 32400000 - x) (by omega) (by omega)
    rw [show 32400000 - (32400000 - x) = x from by omega] at e1
    rw [e1, qsin_lo (x := 32400000 - x) (by omega)]
    have := unit_circle (a := 32400000 - x) (by omega) (by omega)
    omega
/-- at every angle -/
theorem unit_all (a : Int) : -(15 * 1073741824) ≤ Sin a * Sin a + Cos a * Cos a - 1152921504606846976 ∧ Sin a * Sin a + Cos a * Cos a - 1152921504606846976 ≤ 15 * 1073741824 := by
  obtain ⟨x, h1, h2, h⟩ := quad a
  have := unit_q h1 h2
  rcases h with ⟨_, h, h'⟩ | ⟨_, h, h'⟩ | ⟨_, h, h'⟩ | ⟨_, h, h'⟩ <;> rw [h, h'] <;> simpa [Int.neg_mul_neg] using this
end
end Go.Proofs.YtdfkkknkiioghaaGreat

/-
  Plain law of chapter 11: a point on a course is as far away as was asked for, but for one unit. No program.
-/
namespace Go.Proofs.YtdfkkknkiioghaaGreat
set_option linter.unusedVariables false

theorem rnd2_one (n : Int) : -1073741824 ≤ 2 * (rnd 2 n 1073741824 * 1073741824 - n) ∧ 2 * (rnd 2 n 1073741824 * 1073741824 - n) ≤ 1073741824 := by
  have := rnd2_near n 1073741824 (by decide)
  simpa using this
/-- the rounding of a ray -/
theorem ray_round (dist c : Int) : (rayX dist c * 1073741824 - dist * Sin c) * (rayX dist c * 1073741824 - dist * Sin c) + (rayY dist c * 1073741824 - dist * Cos c) * (rayY dist c * 1073741824 - dist * Cos c) ≤ 2 * (536870912 * 536870912) := by
  have h1 := rnd2_one (dist * Sin c)
  have h2 := rnd2_one (dist * Cos c)
  unfold rayX rayY
  have a := sq_bd (a := rnd 2 (dist * Sin c) 1073741824 * 1073741824 - dist * Sin c) (m := 536870912) (by omega) (by omega)
  have b := sq_bd (a := rnd 2 (dist * Cos c) 1073741824 * 1073741824 - dist * Cos c) (m := 536870912) (by omega) (by omega)
  omega
/-- the exact vector of a ray -/
theorem ray_exact (dist c : Int) : dist * Sin c * (dist * Sin c) + dist * Cos c * (dist * Cos c) = dist * dist * (Sin c * Sin c + Cos c * Cos c) := by grind
theorem ray_exact_bd {d dist c : Int} (hd : d * d = dist * dist) (h0 : 0 ≤ d) (h8 : d ≤ 8000000) :
    d * d * 1152921504606846976 - 128850000000000000 * d ≤ dist * Sin c * (dist * Sin c) + dist * Cos c * (dist * Cos c) ∧ dist * Sin c * (dist * Sin c) + dist * Cos c * (dist * Cos c) ≤ d * d * 1152921504606846976 + 128850000000000000 * d := by
  rw [ray_exact, ← hd]
  have h := unit_all c
  generalize Sin c * Sin c + Cos c * Cos c = q at *
  have hdd := sq_nonneg d
  have h1 := Int.mul_le_mul_of_nonneg_left h.1 hdd
  have h2 := Int.mul_le_mul_of_nonneg_left h.2 hdd
  have h3 : d * d ≤ d * 8000000 := Int.mul_le_mul_of_nonneg_left h8 h0
  have e : d * d * (q - 1152921504606846976) = d * d * q - d * d * 1152921504606846976 := by grind
  rw [e] at h1 h2
  generalize d * d * q = x at *
  omega
theorem ray_near (dist c : Int) (h : -8000000 ≤ dist) (h2 : dist ≤ 8000000) (D : Int) (hD : D = isq (rayX dist c * rayX dist c + rayY dist c * rayY dist c).toNat) :
    D ≤ dist.natAbs + 1 ∧ (dist.natAbs : Int) ≤ D + 1 := by
  have hr := ray_round dist c
  have hW : 0 ≤ rayX dist c * rayX dist c + rayY dist c * rayY dist c := by have := sq_nonneg (rayX dist c); have := sq_nonneg (rayY dist c); omega
  have hq := isq_int _ hW
  rw [← hD] at hq
  have hD0 : 0 ≤ D := by omega
  generalize hk : (dist.natAbs : Int) = k at *
  have hkk : k * k = dist * dist := by
    rcases Int.le_total 0 dist with h1 | h1
    · rw [show k = dist from by omega]
    · rw [show k = -dist from by omega, Int.neg_mul_neg]
  have ex := ray_exact_bd (c := c) hkk (by omega) (by omega)
  have hkk0 := sq_nonneg k
  generalize hX : rayX dist c = X at *
  generalize hY : rayY dist c = Y at *
  generalize hA : dist * Sin c = A at *
  generalize hB : dist * Cos c = B at *
  have hs : 1073741824 * 1073741824 = (1152921504606846976 : Int) := by decide
  constructor
  · refine near_len (A := A) (B := B) (C := X * 1073741824) (D := Y * 1073741824) (s := 1073741824) (by decide) (by omega) hD0 ?_ ?_ ?_
    · have e : (k + 1) * (k + 1) = k * k + 2 * k + 1 := by grind
      rw [e, hs]
      omega
    · omega
    · have e : X * 1073741824 * (X * 1073741824) + Y * 1073741824 * (Y * 1073741824) = (X * X + Y * Y) * (1073741824 * 1073741824) := by grind
      rw [e, hs]
      omega
  · -- otherwise the exact vector would be too long
    have e1 : (2 * (X * 1073741824)) * (2 * (X * 1073741824)) + (2 * (Y * 1073741824)) * (2 * (Y * 1073741824)) = (X * X + Y * Y) * 4611686018427387904 := by grind
    have e2 : (2 * (D + 1) * 1073741824) * (2 * (D + 1) * 1073741824) = (D + 1) * (D + 1) * 4611686018427387904 := by grind
    have e3 : (2 * (A - X * 1073741824)) * (2 * (A - X * 1073741824)) + (2 * (B - Y * 1073741824)) * (2 * (B - Y * 1073741824)) = 4 * ((X * 1073741824 - A) * (X * 1073741824 - A) + (Y * 1073741824 - B) * (Y * 1073741824 - B)) := by grind
    have h3 := tri_lt (a := 2 * (X * 1073741824)) (b := 2 * (Y * 1073741824)) (c := 2 * (A - X * 1073741824)) (d := 2 * (B - Y * 1073741824)) (x := 2 * (D + 1) * 1073741824) (y := 1610612736) (by omega) (by decide) (by rw [e1, e2]; omega) (by rw [e3]; omega)
    rw [show 2 * (X * 1073741824) + 2 * (A - X * 1073741824) = 2 * A from by omega, show 2 * (Y * 1073741824) + 2 * (B - Y * 1073741824) = 2 * B from by omega] at h3
    have e4 : 2 * A * (2 * A) + 2 * B * (2 * B) = 4 * (A * A + B * B) := by grind
    rw [e4] at h3
    rcases Int.lt_or_le (D + 1) k with h4 | h4
    · exfalso
      have h5 : (2 * (D + 1) * 1073741824 + 1610612736) * (2 * (D + 1) * 1073741824 + 1610612736) ≤ (2 * k * 1073741824 - 536870912) * (2 * k * 1073741824 - 536870912) := Int.mul_le_mul (by omega) (by omega) (by omega) (by omega)
      have e5 : (2 * k * 1073741824 - 536870912) * (2 * k * 1073741824 - 536870912) = 4 * (k * k) * 1152921504606846976 - 2 * k * 1152921504606846976 + 288230376151711744 := by grind
      rw [e5] at h5
      omega
    · exact h4
end Go.Proofs.YtdfkkknkiioghaaGreat

/-
  Polynomials in one and two variables as lists of coefficients, to be reckoned with: sums, products, a bound of the values. No program.
-/
namespace Go.Proofs.YtdfkkknkiioghaaGreat
set_option linter.unusedVariables false

def ev1 : List Int → Int → Int
  | [], _ => 0
  | c :: cs, x => c + x * ev1 cs x
def ev2 : List (List Int) → Int → Int → Int
  | [], _, _ => 0
  | p :: ps, x, y => ev1 p x + y * ev2 ps x y
def add1 : List Int → List Int → List Int
  | [], q => q
  | p, [] => p
  | a :: p, b :: q => (a + b) :: add1 p q
theorem ev_add1 (x : Int) : ∀ p q : List Int, ev1 (add1 p q) x = ev1 p x + ev1 q x
  | [], q => by simp [add1, ev1]
  | a :: p, [] => by simp [add1, ev1]
  | a :: p, b :: q => by
    simp only [add1, ev1, ev_add1 x p q]
    grind
def scl1 (k : Int) : List Int → List Int
  | [] => []
  | a :: p => k * a :: scl1 k p
theorem ev_scl1 (k x : Int) : ∀ p : List Int, ev1 (scl1 k p) x = k * ev1 p x
  | [] => by simp [scl1, ev1]
  | a :: p => by
    simp only [scl1, ev1, ev_scl1 k x p]
    grind
def mul1 : List Int → List Int → List Int
  | [], _ => []
  | a :: p, q => add1 (scl1 a q) (0 :: mul1 p q)
theorem ev_mul1 (x : Int) : ∀ p q : List Int, ev1 (mul1 p q) x = ev1 p x * ev1 q x
  | [], q => by simp [mul1, ev1]
  | a :: p, q => by
    simp only [mul1, ev_add1, ev_scl1, ev1, ev_mul1 x p q]
    grind
def add2 : List (List Int) → List (List Int) → List (List Int)
  | [], q => q
  | p, [] => p
  | a :: p, b :: q => add1 a b :: add2 p q
theorem ev_add2 (x y : Int) : ∀ p q : List (List Int), ev2 (add2 p q) x y = ev2 p x y + ev2 q x y
  | [], q => by simp [add2, ev2]
  | a :: p, [] => by simp [add2, ev2]
  | a :: p, b :: q => by
    simp only [add2, ev2, ev_add1, ev_add2 x y p q]
    grind
/-- a polynomial in x times one in x and y -/
def scl2 (a : List Int) : List (List Int) → List (List Int)
  | [] => []
  | b :: q => mul1 a b :: scl2 a q
theorem ev_scl2 (a : List Int) (x y : Int) : ∀ q : List (List Int), ev2 (scl2 a q) x y = ev1 a x * ev2 q x y
  | [] => by simp [scl2, ev2]
  | b :: q => by
    simp only [scl2, ev2, ev_mul1, ev_scl2 a x y q]
    grind
def mul2 : List (List Int) → List (List Int) → List (List Int)
  | [], _ => []
  | a :: p, q => add2 (scl2 a q) ([] :: mul2 p q)
theorem ev_mul2 (x y : Int) : ∀ p q : List (List Int), ev2 (mul2 p q) x y = ev2 p x y * ev2 q x y
  | [], q => by simp [mul2, ev2]
  | a :: p, q => by
    simp only [mul2, ev_add2, ev_scl2, ev2, ev1, ev_mul2 x y p q]
    grind
def inX (p : List Int) : List (List Int) := [p]
theorem ev_inX (p : List Int) (x y : Int) : ev2 (inX p) x y = ev1 p x := by simp [inX, ev2]
def inY : List Int → List (List Int)
  | [] => []
  | a :: p => [a] :: inY p
theorem ev_inY (x y : Int) : ∀ p : List Int, ev2 (inY p) x y = ev1 p y
  | [] => by simp [inY, ev2, ev1]
  | a :: p => by simp [inY, ev2, ev1, ev_inY x y p]
/-- p at x + y -/
def shift : List Int → List (List Int)
  | [] => []
  | a :: p => add2 [[a]] (mul2 [[0, 1], [1]] (shift p))
theorem ev_shift (x y : Int) : ∀ p : List Int, ev2 (shift p) x y = ev1 p (x + y)
  | [] => by simp [shift, ev2, ev1]
  | a :: p => by
    simp only [shift, ev_add2, ev_mul2, ev2, ev1, ev_shift x y p]
    grind
/-- the quotient of differences: (p x - p y) / (x - y) -/
def dif : List Int → List (List Int)
  | [] => []
  | _ :: p => add2 (inX p) ([] :: dif p)
theorem ev_dif (x y : Int) : ∀ p : List Int, ev1 p x - ev1 p y = (x - y) * ev2 (dif p) x y
  | [] => by simp [dif, ev2, ev1]
  | a :: p => by
    have ih := ev_dif x y p
    simp only [dif, ev_add2, ev_inX, ev2, ev1]
    grind
def bd1 : List Int → Int → Int
  | [], _ => 0
  | c :: cs, X => c.natAbs + X * bd1 cs X
theorem bd1_nonneg {X : Int} (hX : 0 ≤ X) : ∀ p : List Int, 0 ≤ bd1 p X
  | [] => by simp [bd1]
  | c :: cs => by
    have := Int.mul_nonneg hX (bd1_nonneg hX cs)
    simp only [bd1]
    omega
theorem mul_abs_le {x v X V : Int} (hx : -X ≤ x ∧ x ≤ X) (hv : -V ≤ v ∧ v ≤ V) : -(X * V) ≤ x * v ∧ x * v ≤ X * V := by
  have hX : 0 ≤ X := by omega
  have hV : 0 ≤ V := by omega
  have a := Int.mul_nonneg (show 0 ≤ X - x by omega) (show 0 ≤ V - v by omega)
  have b := Int.mul_nonneg (show 0 ≤ X + x by omega) (show 0 ≤ V + v by omega)
  have c := Int.mul_nonneg (show 0 ≤ X - x by omega) (show 0 ≤ V + v by omega)
  have d := Int.mul_nonneg (show 0 ≤ X + x by omega) (show 0 ≤ V - v by omega)
  have e1 : (X - x) * (V - v) = X * V - X * v - x * V + x * v := by grind
  have e2 : (X + x) * (V + v) = X * V + X * v + x * V + x * v := by grind
  have e3 : (X - x) * (V + v) = X * V + X * v - x * V - x * v := by grind
  have e4 : (X + x) * (V - v) = X * V - X * v + x * V - x * v := by grind
  omega
theorem ev1_bd {x X : Int} (hx : -X ≤ x ∧ x ≤ X) : ∀ p : List Int, -(bd1 p X) ≤ ev1 p x ∧ ev1 p x ≤ bd1 p X
  | [] => by simp [ev1, bd1]
  | c :: cs => by
    have ih := ev1_bd hx cs
    have h := mul_abs_le hx ih
    simp only [ev1, bd1]
    omega
def bd2 : List (List Int) → Int → Int → Int
  | [], _, _ => 0
  | p :: ps, X, Y => bd1 p X + Y * bd2 ps X Y
theorem ev2_bd {x X y Y : Int} (hx : -X ≤ x ∧ x ≤ X) (hy : -Y ≤ y ∧ y ≤ Y) : ∀ p : List (List Int), -(bd2 p X Y) ≤ ev2 p x y ∧ ev2 p x y ≤ bd2 p X Y
  | [] => by simp [ev2, bd2]
  | c :: cs => by
    have ih := ev2_bd hx hy cs
    have h := mul_abs_le hy ih
    have h1 := ev1_bd hx c
    simp only [ev2, bd2]
    omega
end Go.Proofs.YtdfkkknkiioghaaGreat

/-
  The addition theorem of the sine and the cosine in integers. First: of their polynomials. No program.
-/
namespace Go.Proofs.YtdfkkknkiioghaaGreat
set_option linter.unusedVariables false

/-! The sine's and the cosine's series up to degree 25, at a scaled angle (2^31 a radian), times mp. -/
def tp : List Int := [0, 15511210043330985984000000 * 2147483648^24, 0, -2585201673888497664000000 * 2147483648^22, 0, 129260083694424883200000 * 2147483648^20, 0, -3077621040343449600000 * 2147483648^18, 0, 42744736671436800000 * 2147483648^16, 0, -388588515194880000 * 2147483648^14, 0, 2490952020480000 * 2147483648^12, 0, -11861676288000 * 2147483648^10, 0, 43609104000 * 2147483648^8, 0, -127512000 * 2147483648^6, 0, 303600 * 2147483648^4, 0, -600 * 2147483648^2, 0, 1 * 2147483648^0]
def kp : List Int := [15511210043330985984000000 * 2147483648^25, 0, -7755605021665492992000000 * 2147483648^23, 0, 646300418472124416000000 * 2147483648^21, 0, -21543347282404147200000 * 2147483648^19, 0, 384702630042931200000 * 2147483648^17, 0, -4274473667143680000 * 2147483648^15, 0, 32382376266240000 * 2147483648^13, 0, -177925144320000 * 2147483648^11, 0, 741354768000 * 2147483648^9, 0, -2422728000 * 2147483648^7, 0, 6375600 * 2147483648^5, 0, -13800 * 2147483648^3, 0, 25 * 2147483648^1, 0]
def mp : Int := 15511210043330985984000000 * 2147483648^25
def tT (t : Int) : Int := ev1 tp t
def kT (t : Int) : Int := ev1 kp t
def addS : List (List Int) := add2 (scl2 [mp] (shift tp)) (scl2 [-1] (add2 (mul2 (inX tp) (inY kp)) (mul2 (inX kp) (inY tp))))
def addC : List (List Int) := add2 (scl2 [mp] (shift kp)) (scl2 [-1] (add2 (mul2 (inX kp) (inY kp)) (scl2 [-1] (mul2 (inX tp) (inY tp)))))
theorem addS_bd : bd2 addS 3373259430 3373259430 * 1000000000000 ≤ mp * mp := by decide +kernel
theorem addC_bd : bd2 addC 3373259430 3373259430 * 1000000000000 ≤ mp * mp := by decide +kernel
theorem tT_add {x y : Int} (hx : -3373259430 ≤ x ∧ x ≤ 3373259430) (hy : -3373259430 ≤ y ∧ y ≤ 3373259430) :
    -(mp * mp) ≤ 1000000000000 * (mp * tT (x + y) - (tT x * kT y + kT x * tT y)) ∧ 1000000000000 * (mp * tT (x + y) - (tT x * kT y + kT x * tT y)) ≤ mp * mp := by
  have h := ev2_bd hx hy addS
  have hb := addS_bd
  have e : ev2 addS x y = mp * tT (x + y) - (tT x * kT y + kT x * tT y) := by
    unfold addS tT kT
    simp only [ev_add2, ev_scl2, ev_mul2, ev_inX, ev_inY, ev_shift, ev1]
    grind
  rw [e] at h
  omega
theorem kT_add {x y : Int} (hx : -3373259430 ≤ x ∧ x ≤ 3373259430) (hy : -3373259430 ≤ y ∧ y ≤ 3373259430) :
    -(mp * mp) ≤ 1000000000000 * (mp * kT (x + y) - (kT x * kT y - tT x * tT y)) ∧ 1000000000000 * (mp * kT (x + y) - (kT x * kT y - tT x * tT y)) ≤ mp * mp := by
  have h := ev2_bd hx hy addC
  have hb := addC_bd
  have e : ev2 addC x y = mp * kT (x + y) - (kT x * kT y - tT x * tT y) := by
    unfold addC tT kT
    simp only [ev_add2, ev_scl2, ev_mul2, ev_inX, ev_inY, ev_shift, ev1]
    grind
  rw [e] at h
  omega
end Go.Proofs.YtdfkkknkiioghaaGreat

/-
  The sine and the cosine in integers against their polynomials. No program.
-/
namespace Go.Proofs.YtdfkkknkiioghaaGreat
set_option linter.unusedVariables false

def gp : List Int := [39916800 * 2147483648^10, -6652800 * 2147483648^8, 332640 * 2147483648^6, -7920 * 2147483648^4, 110 * 2147483648^2, -1]
def hp : List Int := [3628800 * 2147483648^10, -1814400 * 2147483648^8, 151200 * 2147483648^6, -5040 * 2147483648^4, 90 * 2147483648^2, -1]
/-- t * G(t * t) and H(t * t) as polynomials in t -/
def gp1 : List Int := [0, 39916800 * 2147483648^10, 0, -6652800 * 2147483648^8, 0, 332640 * 2147483648^6, 0, -7920 * 2147483648^4, 0, 110 * 2147483648^2, 0, -1]
def hp1 : List Int := [3628800 * 2147483648^10, 0, -1814400 * 2147483648^8, 0, 151200 * 2147483648^6, 0, -5040 * 2147483648^4, 0, 90 * 2147483648^2, 0, -1]
theorem ev_gp1 (t : Int) : ev1 gp1 t = t * ev1 gp (t * t) := by simp only [gp1, gp, ev1]; grind
theorem ev_hp1 (t : Int) : ev1 hp1 t = ev1 hp (t * t) := by simp only [hp1, hp, ev1]; grind
theorem gp_at (u : Int) : ev1 gp (2147483648 * u) = 2147483648^5 * (39916800 * 2147483648^5 - 6652800 * u * 2147483648^4 + 332640 * u^2 * 2147483648^3 - 7920 * u^3 * 2147483648^2 + 110 * u^4 * 2147483648 - u^5) := by
  simp only [gp, ev1]; grind
theorem hp_at (u : Int) : ev1 hp (2147483648 * u) = 2147483648^5 * (3628800 * 2147483648^5 - 1814400 * u * 2147483648^4 + 151200 * u^2 * 2147483648^3 - 5040 * u^3 * 2147483648^2 + 90 * u^4 * 2147483648 - u^5) := by
  simp only [hp, ev1]; grind
theorem dif_gp : bd2 (dif gp) (1325000000 * 2147483648) (1325000000 * 2147483648) * 5 ≤ 39916800 * 2147483648^8 := by decide +kernel
theorem dif_hp : bd2 (dif hp) (1325000000 * 2147483648) (1325000000 * 2147483648) * 10 ≤ 6 * (3628800 * 2147483648^8) := by decide +kernel
/-- the long series against the short ones -/
theorem gp_tp : bd1 (add1 tp (scl1 (-(15511210043330985984000000 / 39916800) * 2147483648^14) gp1)) 1686629713 * 100000000000 ≤ mp := by decide +kernel
theorem hp_kp : bd1 (add1 kp (scl1 (-(15511210043330985984000000 / 3628800) * 2147483648^15) hp1)) 1686629713 * 5000000000 ≤ mp := by decide +kernel

theorem sq_dif {u t : Int} (hu : 0 ≤ u) (hU : u ≤ 1325000000) (h : -2147483648 ≤ 2 * (2147483648 * u - t * t) ∧ 2 * (2147483648 * u - t * t) ≤ 2147483648) (ht : 0 ≤ t) (hT : t ≤ 1686629713) :
    -(5 * 2147483648^9 * 39916800) ≤ 50 * (ev1 gp (2147483648 * u) - ev1 gp (t * t)) ∧ 50 * (ev1 gp (2147483648 * u) - ev1 gp (t * t)) ≤ 5 * 2147483648^9 * 39916800 ∧
    -(3 * 2147483648^9 * 3628800) ≤ 10 * (ev1 hp (2147483648 * u) - ev1 hp (t * t)) ∧ 10 * (ev1 hp (2147483648 * u) - ev1 hp (t * t)) ≤ 3 * 2147483648^9 * 3628800 := by
  have t0 := sq_nonneg t
  have t1 := sq_mono ht hT
  have b1 := ev2_bd (x := 2147483648 * u) (X := 1325000000 * 2147483648) (y := t * t) (Y := 1325000000 * 2147483648) (by omega) (by omega) (dif gp)
  have b2 := ev2_bd (x := 2147483648 * u) (X := 1325000000 * 2147483648) (y := t * t) (Y := 1325000000 * 2147483648) (by omega) (by omega) (dif hp)
  have e1 := ev_dif (2147483648 * u) (t * t) gp
  have e2 := ev_dif (2147483648 * u) (t * t) hp
  have d1 := dif_gp
  have d2 := dif_hp
  have m1 := mul_abs_le (x := 2147483648 * u - t * t) (X := 1073741824) (by omega) b1
  have m2 := mul_abs_le (x := 2147483648 * u - t * t) (X := 1073741824) (by omega) b2
  rw [← e1] at m1
  rw [← e2] at m2
  omega

theorem sine_poly {a : Int} (h : 0 ≤ a) (h2 : a ≤ 16200000) : -(5 * mp) ≤ 4 * (mp * sine a - 1073741824 * tT (tA a)) ∧ 4 * (mp * sine a - 1073741824 * tT (tA a)) ≤ 5 * mp := by
  have ht := tA_bd h h2
  have hu := u_of_t ht.1 ht.2
  obtain ⟨A, eA, a1, a2⟩ := sr_poly hu.1 hu.2
  have m1 := mulS_near (tA a) (tA a)
  have m2 := mulS_near (tA a) (sr5 (mulS (tA a) (tA a)))
  have eg := gp_at (mulS (tA a) (tA a))
  rw [← eA] at eg
  have hd := sq_dif hu.1 hu.2 m1 ht.1 ht.2
  have hl := ev1_bd (x := tA a) (X := 1686629713) (by omega) (add1 tp (scl1 (-(15511210043330985984000000 / 39916800) * 2147483648^14) gp1))
  have hb := gp_tp
  rw [ev_add1, ev_scl1, ev_gp1] at hl
  unfold sine uA tT
  clear eA
  generalize tA a = t at *
  generalize mulS t t = u at *
  generalize sr5 u = r at *
  generalize mulS t r = v at *
  generalize hS : (v + 1) / 2 = S at *
  generalize ev1 gp (2147483648 * u) = g0 at *
  generalize ev1 gp (t * t) = g at *
  generalize ev1 tp t = T at *
  have k1 := mul_abs_le (x := t) (X := 1686629713) (v := 10 * (39916800 * 2147483648^9 * r - g)) (V := 11 * 39916800 * 2147483648^9) (by omega) (by omega)
  have e3 : t * (10 * (39916800 * 2147483648^9 * r - g)) = 10 * (39916800 * 2147483648^9 * (t * r)) - 10 * (t * g) := by grind
  rw [e3] at k1
  generalize t * r = tr at *
  generalize t * g = tg at *
  unfold mp at *
  omega
theorem cosine_poly {a : Int} (h : 0 ≤ a) (h2 : a ≤ 16200000) : -(3 * mp) ≤ 2 * (mp * cosine a - 1073741824 * kT (tA a)) ∧ 2 * (mp * cosine a - 1073741824 * kT (tA a)) ≤ 3 * mp := by
  have ht := tA_bd h h2
  have hu := u_of_t ht.1 ht.2
  obtain ⟨B, eB, a1, a2⟩ := cr_poly hu.1 hu.2
  have m1 := mulS_near (tA a) (tA a)
  have eg := hp_at (mulS (tA a) (tA a))
  rw [← eB] at eg
  have hd := sq_dif hu.1 hu.2 m1 ht.1 ht.2
  have hl := ev1_bd (x := tA a) (X := 1686629713) (by omega) (add1 kp (scl1 (-(15511210043330985984000000 / 3628800) * 2147483648^15) hp1))
  have hb := hp_kp
  rw [ev_add1, ev_scl1, ev_hp1] at hl
  unfold cosine uA kT
  clear eB
  generalize tA a = t at *
  generalize mulS t t = u at *
  generalize cr5 u = r at *
  generalize hS : (r + 1) / 2 = S at *
  generalize ev1 hp (2147483648 * u) = g0 at *
  generalize ev1 hp (t * t) = g at *
  generalize ev1 kp t = T at *
  unfold mp at *
  omega
end Go.Proofs.YtdfkkknkiioghaaGreat

/-
  The addition theorem of the sine and the cosine in integers, for all angles. No program.
-/
namespace Go.Proofs.YtdfkkknkiioghaaGreat
set_option linter.unusedVariables false

theorem mp_pos : 0 < mp := by decide +kernel
theorem kT_0 : kT 0 = mp := by decide +kernel
theorem tT_0 : tT 0 = 0 := by decide +kernel
def evens : List Int → Bool
  | [] => true
  | [_] => true
  | _ :: b :: p => (b == 0) && evens p
theorem ev_evens (x : Int) : ∀ p : List Int, evens p = true → ev1 p (-x) = ev1 p x
  | [], _ => rfl
  | [a], _ => by simp [ev1]
  | a :: b :: p, h => by
    simp only [evens, Bool.and_eq_true, beq_iff_eq] at h
    obtain ⟨rfl, h⟩ := h
    have ih := ev_evens x p h
    simp only [ev1, ih]
    grind
theorem kT_neg (x : Int) : kT (-x) = kT x := ev_evens x kp (by decide +kernel)
def tp' : List Int := tp.tail
theorem tT_neg (x : Int) : tT (-x) = -tT x := by
  have e : ∀ y, tT y = y * ev1 tp' y := fun y => by
    show ev1 tp y = _
    have : tp = 0 :: tp' := by decide +kernel
    rw [this]; simp [ev1]
  rw [e, e, ev_evens x tp' (by decide +kernel)]
  grind
/-- the polynomials' squares -/
theorem kt_sq {x : Int} (hx : -3373259430 ≤ x ∧ x ≤ 3373259430) : 1000000000000 * (kT x * kT x + tT x * tT x) ≤ 1000000000001 * (mp * mp) := by
  have h := kT_add hx (y := -x) (by omega)
  rw [show x + -x = 0 from by omega, kT_0, kT_neg, tT_neg] at h
  have e : kT x * kT x - tT x * -tT x = kT x * kT x + tT x * tT x := by grind
  rw [e] at h
  omega
def mq : Int := mp + mp / 1000000000
theorem mq_sq : 1000000000001 * (mp * mp) ≤ 1000000000000 * (mq * mq) := by decide +kernel
theorem mq_pos : 0 ≤ mq := by decide +kernel
theorem kt_bd {x : Int} (hx : -3373259430 ≤ x ∧ x ≤ 3373259430) : (-mq ≤ kT x ∧ kT x ≤ mq) ∧ (-mq ≤ tT x ∧ tT x ≤ mq) := by
  have h := kt_sq hx
  have hq := mq_sq
  have a := sq_nonneg (kT x)
  have b := sq_nonneg (tT x)
  have h1 : kT x * kT x ≤ mq * mq := by omega
  have h2 : tT x * tT x ≤ mq * mq := by omega
  have k1 := isq_le' mq_pos h1
  have k2 := isq_le' (a := -kT x) mq_pos (by rw [Int.neg_mul_neg]; exact h1)
  have k3 := isq_le' mq_pos h2
  have k4 := isq_le' (a := -tT x) mq_pos (by rw [Int.neg_mul_neg]; exact h2)
  omega
theorem kT_1 : 0 ≤ mp - kT 1 ∧ (mp - kT 1) * 1000000000000 ≤ mp := by decide +kernel
theorem tT_1 : 0 ≤ tT 1 ∧ tT 1 * 2147483648 ≤ mp := by decide +kernel
/-- one unit of the scaled angle turns the series by its part of the scale at most -/
theorem kt_step {s : Int} (hs : -3373259429 ≤ s ∧ s ≤ 3373259429) :
    (-(mp + mp / 100) ≤ 2147483648 * (tT (s + 1) - tT s) ∧ 2147483648 * (tT (s + 1) - tT s) ≤ mp + mp / 100) ∧ (-(mp + mp / 100) ≤ 2147483648 * (kT (s + 1) - kT s) ∧ 2147483648 * (kT (s + 1) - kT s) ≤ mp + mp / 100) := by
  have h := tT_add (x := s) (y := 1) (by omega) (by omega)
  have h' := kT_add (x := s) (y := 1) (by omega) (by omega)
  have hb := kt_bd (x := s) (by omega)
  have k1 := kT_1
  have t1 := tT_1
  have hm := mp_pos
  have hq := mq_pos
  have a1 := mul_abs_le (x := tT s) (v := mp - kT 1) (X := mq) (V := mp / 1000000000000 + 1) hb.2 (by omega)
  have a2 := mul_abs_le (x := kT s) (v := mp - kT 1) (X := mq) (V := mp / 1000000000000 + 1) hb.1 (by omega)
  have a3 := mul_abs_le (x := kT s) (v := 2147483648 * tT 1) (X := mq) (V := mp) hb.1 (by omega)
  have a4 := mul_abs_le (x := tT s) (v := 2147483648 * tT 1) (X := mq) (V := mp) hb.2 (by omega)
  have e1 : tT s * (mp - kT 1) = mp * tT s - tT s * kT 1 := by grind
  have e2 : kT s * (mp - kT 1) = mp * kT s - kT s * kT 1 := by grind
  have e3 : kT s * (2147483648 * tT 1) = 2147483648 * (kT s * tT 1) := by grind
  have e4 : tT s * (2147483648 * tT 1) = 2147483648 * (tT s * tT 1) := by grind
  rw [e1] at a1
  rw [e2] at a2
  rw [e3] at a3
  rw [e4] at a4
  have hnum : mq * mp + 2147483648 * (mq * (mp / 1000000000000 + 1)) + 2147483648 * (mp * mp / 1000000000000 + 1) ≤ mp * (mp + mp / 100) := by decide +kernel
  have f1 : mp * (2147483648 * (tT (s + 1) - tT s)) = 2147483648 * (mp * tT (s + 1)) - 2147483648 * (mp * tT s) := by grind
  have f2 : mp * (2147483648 * (kT (s + 1) - kT s)) = 2147483648 * (mp * kT (s + 1)) - 2147483648 * (mp * kT s) := by grind
  have g1 : mp * (2147483648 * (tT (s + 1) - tT s)) ≤ mp * (mp + mp / 100) := by
    rw [f1]; generalize mp * (mp + mp / 100) = R at *; generalize mp * mp = MM at *; generalize mq * mp = QM at *; generalize mq * (mp / 1000000000000 + 1) = Z at *; omega
  have g2 : mp * -(mp + mp / 100) ≤ mp * (2147483648 * (tT (s + 1) - tT s)) := by
    rw [f1, Int.mul_neg]; generalize mp * (mp + mp / 100) = R at *; generalize mp * mp = MM at *; generalize mq * mp = QM at *; generalize mq * (mp / 1000000000000 + 1) = Z at *; omega
  have g3 : mp * (2147483648 * (kT (s + 1) - kT s)) ≤ mp * (mp + mp / 100) := by
    rw [f2]; generalize mp * (mp + mp / 100) = R at *; generalize mp * mp = MM at *; generalize mq * mp = QM at *; generalize mq * (mp / 1000000000000 + 1) = Z at *; omega
  have g4 : mp * -(mp + mp / 100) ≤ mp * (2147483648 * (kT (s + 1) - kT s)) := by
    rw [f2, Int.mul_neg]; generalize mp * (mp + mp / 100) = R at *; generalize mp * mp = MM at *; generalize mq * mp = QM at *; generalize mq * (mp / 1000000000000 + 1) = Z at *; omega
  exact ⟨⟨Int.le_of_mul_le_mul_left g2 hm, Int.le_of_mul_le_mul_left g1 hm⟩, Int.le_of_mul_le_mul_left g4 hm, Int.le_of_mul_le_mul_left g3 hm⟩
end Go.Proofs.YtdfkkknkiioghaaGreat

/-
  The addition theorem of the sine and the cosine in integers, for all angles: the last part. No program.
-/
namespace Go.Proofs.YtdfkkknkiioghaaGreat
set_option linter.unusedVariables false

theorem quarter_num : 0 ≤ mp - tT 3373259426 ∧ (mp - tT 3373259426) * 1000000000000 ≤ mp ∧ 0 ≤ kT 3373259426 ∧ kT 3373259426 * 12000000000 ≤ mp := by decide +kernel
theorem comp_num : 1000000000000 * (mq * (mp / 1000000000000 + 1)) + 1000000000000 * (mq * (mp / 12000000000 + 1)) + mp * mp ≤ 100 * (mp * mp) := by decide +kernel
/-- the series at a quarter less w, or plus w -/
theorem comp {w : Int} (hw : -3373259430 ≤ w ∧ w ≤ 3373259430) :
    (-mp ≤ 10000000000 * (tT (3373259426 + w) - kT w) ∧ 10000000000 * (tT (3373259426 + w) - kT w) ≤ mp) ∧ (-mp ≤ 10000000000 * (kT (3373259426 + w) + tT w) ∧ 10000000000 * (kT (3373259426 + w) + tT w) ≤ mp) := by
  have h := tT_add (x := 3373259426) (by omega) hw
  have h' := kT_add (x := 3373259426) (by omega) hw
  have hb := kt_bd hw
  have q := quarter_num
  have hm := mp_pos
  have hn := comp_num
  have a1 := mul_abs_le (x := kT w) (v := mp - tT 3373259426) (X := mq) (V := mp / 1000000000000 + 1) hb.1 (by omega)
  have a2 := mul_abs_le (x := tT w) (v := mp - tT 3373259426) (X := mq) (V := mp / 1000000000000 + 1) hb.2 (by omega)
  have a3 := mul_abs_le (x := kT w) (v := kT 3373259426) (X := mq) (V := mp / 12000000000 + 1) hb.1 (by omega)
  have a4 := mul_abs_le (x := tT w) (v := kT 3373259426) (X := mq) (V := mp / 12000000000 + 1) hb.2 (by omega)
  have e1 : kT w * (mp - tT 3373259426) = mp * kT w - tT 3373259426 * kT w := by grind
  have e2 : tT w * (mp - tT 3373259426) = mp * tT w - tT 3373259426 * tT w := by grind
  have e3 : kT w * kT 3373259426 = kT 3373259426 * kT w := by grind
  have e4 : tT w * kT 3373259426 = kT 3373259426 * tT w := by grind
  rw [e1] at a1
  rw [e2] at a2
  rw [e3] at a3
  rw [e4] at a4
  have f1 : mp * (10000000000 * (tT (3373259426 + w) - kT w)) = 10000000000 * (mp * tT (3373259426 + w)) - 10000000000 * (mp * kT w) := by grind
  have f2 : mp * (10000000000 * (kT (3373259426 + w) + tT w)) = 10000000000 * (mp * kT (3373259426 + w)) + 10000000000 * (mp * tT w) := by grind
  have g1 : mp * (10000000000 * (tT (3373259426 + w) - kT w)) ≤ mp * mp := by rw [f1]; generalize mp * mp = MM at *; generalize mq * (mp / 1000000000000 + 1) = Z at *; generalize mq * (mp / 12000000000 + 1) = Y at *; omega
  have g2 : mp * -mp ≤ mp * (10000000000 * (tT (3373259426 + w) - kT w)) := by rw [f1, Int.mul_neg]; generalize mp * mp = MM at *; generalize mq * (mp / 1000000000000 + 1) = Z at *; generalize mq * (mp / 12000000000 + 1) = Y at *; omega
  have g3 : mp * (10000000000 * (kT (3373259426 + w) + tT w)) ≤ mp * mp := by rw [f2]; generalize mp * mp = MM at *; generalize mq * (mp / 1000000000000 + 1) = Z at *; generalize mq * (mp / 12000000000 + 1) = Y at *; omega
  have g4 : mp * -mp ≤ mp * (10000000000 * (kT (3373259426 + w) + tT w)) := by rw [f2, Int.mul_neg]; generalize mp * mp = MM at *; generalize mq * (mp / 1000000000000 + 1) = Z at *; generalize mq * (mp / 12000000000 + 1) = Y at *; omega
  exact ⟨⟨Int.le_of_mul_le_mul_left g2 hm, Int.le_of_mul_le_mul_left g1 hm⟩, Int.le_of_mul_le_mul_left g4 hm, Int.le_of_mul_le_mul_left g3 hm⟩

/-- an integer sine or cosine is its series, but for 'k' tenths -/
def Near (k : Int) (p P : Int) : Prop := -(k * mp) ≤ 10 * (mp * p - 1073741824 * P) ∧ 10 * (mp * p - 1073741824 * P) ≤ k * mp
theorem Near.shift {k p s t : Int} (h : Near k p (tT t)) (hs : s = t - 1 ∨ s = t ∨ s = t + 1) (hb : -3373259428 ≤ t ∧ t ≤ 3373259428) : Near (k + 6) p (tT s) := by
  unfold Near at *
  have hm := mp_pos
  have e : (k + 6) * mp = k * mp + 6 * mp := by grind
  rw [e]
  rcases hs with rfl | rfl | rfl
  · have := (kt_step (s := t - 1) (by omega)).1
    rw [show t - 1 + 1 = t from by omega] at this
    generalize k * mp = km at *
    omega
  · generalize k * mp = km at *
    omega
  · have := (kt_step (s := t) (by omega)).1
    generalize k * mp = km at *
    omega
theorem Near.shiftK {k p s t : Int} (h : Near k p (kT t)) (hs : s = t - 1 ∨ s = t ∨ s = t + 1) (hb : -3373259428 ≤ t ∧ t ≤ 3373259428) : Near (k + 6) p (kT s) := by
  unfold Near at *
  have hm := mp_pos
  have e : (k + 6) * mp = k * mp + 6 * mp := by grind
  rw [e]
  rcases hs with rfl | rfl | rfl
  · have := (kt_step (s := t - 1) (by omega)).2
    rw [show t - 1 + 1 = t from by omega] at this
    generalize k * mp = km at *
    omega
  · generalize k * mp = km at *
    omega
  · have := (kt_step (s := t) (by omega)).2
    generalize k * mp = km at *
    omega
theorem tA_le {x : Int} (h : 0 ≤ x) (h2 : x ≤ 32400000) : 0 ≤ tA x ∧ tA x ≤ 3373259426 := by unfold tA; omega
theorem q_near {x : Int} (h : 0 ≤ x) (h2 : x ≤ 32400000) : Near 23 (qsin x) (tT (tA x)) ∧ Near 23 (qsin (32400000 - x)) (kT (tA x)) := by
  have hm := mp_pos
  by_cases h3 : x ≤ 16200000
  · have a := sine_poly h h3
    have b := cosine_poly h h3
    rw [qsin_lo h3, qsin_hi h h3]
    unfold Near
    omega
  · obtain ⟨z, rfl⟩ : ∃ z, x = 32400000 - z := ⟨32400000 - x, by omega⟩
    have a := sine_poly (a := z) (by omega) (by omega)
    have b := cosine_poly (a := z) (by omega) (by omega)
    rw [qsin_hi (by omega) (by omega), show 32400000 - (32400000 - z) = z from by omega, qsin_lo (x := z) (by omega)]
    have hz := tA_bd (a := z) (by omega) (by omega)
    have hw : 3373259426 - tA (32400000 - z) = tA z - 1 ∨ 3373259426 - tA (32400000 - z) = tA z ∨ 3373259426 - tA (32400000 - z) = tA z + 1 := by unfold tA; omega
    have s1 : Near 15 (cosine z) (kT (tA z)) := by unfold Near; omega
    have s2 : Near 13 (sine z) (tT (tA z)) := by unfold Near; omega
    have s1' := Near.shiftK s1 hw (by omega)
    have s2' := Near.shift s2 hw (by omega)
    generalize hwe : 3373259426 - tA (32400000 - z) = w at *
    have e : tA (32400000 - z) = 3373259426 + -w := by omega
    have c := comp (w := -w) (by omega)
    rw [kT_neg, tT_neg] at c
    rw [e]
    unfold Near at *
    omega

/-- a product of two near numbers -/
theorem prod_near {p q P Q k : Int} (h1 : Near k p P) (h2 : Near k q Q) (hk : 0 ≤ k) (hq : -1073741824 ≤ q ∧ q ≤ 1073741824) (hP : -mq ≤ P ∧ P ≤ mq) :
    -(k * mp * (1073741824 * mp) + 1073741824 * mq * (k * mp)) ≤ 10 * (mp * mp * (p * q) - 1152921504606846976 * (P * Q)) ∧ 10 * (mp * mp * (p * q) - 1152921504606846976 * (P * Q)) ≤ k * mp * (1073741824 * mp) + 1073741824 * mq * (k * mp) := by
  have hm := mp_pos
  have a := mul_abs_le (x := 10 * (mp * p - 1073741824 * P)) (v := mp * q) (X := k * mp) (V := 1073741824 * mp) h1 (by
    have b1 := Int.mul_le_mul_of_nonneg_left hq.1 (show 0 ≤ mp by omega)
    have b2 := Int.mul_le_mul_of_nonneg_left hq.2 (show 0 ≤ mp by omega)
    omega)
  have b := mul_abs_le (x := 1073741824 * P) (v := 10 * (mp * q - 1073741824 * Q)) (X := 1073741824 * mq) (V := k * mp) (by omega) h2
  have e : 10 * (mp * mp * (p * q) - 1152921504606846976 * (P * Q)) = 10 * (mp * p - 1073741824 * P) * (mp * q) + 1073741824 * P * (10 * (mp * q - 1073741824 * Q)) := by grind
  rw [e]
  omega
end Go.Proofs.YtdfkkknkiioghaaGreat

/-
  The addition theorem of the sine and the cosine in integers, for all angles: Sin a * Cos b + Cos a * Sin b is One * Sin (a + b), but for 13 times One, and likewise the cosine. No program.
-/
namespace Go.Proofs.YtdfkkknkiioghaaGreat
set_option linter.unusedVariables false

theorem Sin_q {a : Int} (h : 0 ≤ a) (h2 : a ≤ 32400000) : Sin a = qsin a := by
  unfold Sin
  rw [norm_id h (by omega), if_pos h2]
theorem Sin_q2 {a : Int} (h : 32400000 ≤ a) (h2 : a ≤ 64800000) : Sin a = qsin (64800000 - a) := by
  by_cases h0 : a = 32400000
  · subst h0; decide
  · unfold Sin
    rw [norm_id (by omega) (by omega), if_neg (by omega), if_pos h2]
theorem Sin_norm (a b : Int) (h : norm a = norm b) : Sin a = Sin b := by unfold Sin; rw [h]
theorem Sin_add_quarter (a : Int) : Sin (a + 32400000) = Cos a := Sin_norm _ _ (by rw [turnF_eq]; unfold norm; omega)
theorem Sin_add_half (a : Int) : Sin (a + 64800000) = -Sin a := by
  have hb := norm_bd a
  have e : norm (a + 64800000) = if norm a < 64800000 then norm a + 64800000 else norm a - 64800000 := by unfold norm; split <;> omega
  have e0 : qsin 0 = 0 := by decide
  unfold Sin
  rw [e]
  generalize norm a = b at *
  by_cases h1 : b ≤ 32400000
  · rw [if_pos (show b < 64800000 by omega), if_pos h1, if_neg (by omega)]
    by_cases h0 : b = 0
    · subst h0; decide
    · rw [if_neg (by omega), if_pos (by omega), show b + 64800000 - 64800000 = b from by omega]
  · by_cases h2 : b ≤ 64800000
    · by_cases h0 : b = 64800000
      · subst h0; decide
      · rw [if_pos (show b < 64800000 by omega), if_neg (by omega), if_neg (by omega), if_neg (by omega), if_neg h1, if_pos h2, show 129600000 - (b + 64800000) = 64800000 - b from by omega]
    · rw [if_neg (show ¬ b < 64800000 by omega)]
      by_cases h3 : b ≤ 97200000
      · rw [if_pos (by omega), if_neg h1, if_neg h2, if_pos h3, Int.neg_neg]
      · rw [if_neg (by omega), if_pos (by omega), if_neg h1, if_neg h2, if_neg h3, Int.neg_neg, show 64800000 - (b - 64800000) = 129600000 - b from by omega]
theorem Cos_add_quarter (a : Int) : Cos (a + 32400000) = -Sin a := by
  rw [← Sin_add_quarter, show a + 32400000 + 32400000 = a + 64800000 from by omega, Sin_add_half]
theorem Cos_q {a : Int} (h : 0 ≤ a) (h2 : a ≤ 32400000) : Cos a = qsin (32400000 - a) := by
  rw [← Sin_add_quarter, Sin_q2 (by omega) (by omega)]
  congr 1; omega
theorem Cos_q2 {a : Int} (h : 32400000 ≤ a) (h2 : a ≤ 64800000) : Cos a = -qsin (a - 32400000) := by
  have := Cos_add_quarter (a - 32400000)
  rw [show a - 32400000 + 32400000 = a from by omega, Sin_q (by omega) (by omega)] at this
  exact this
theorem Cos_norm (a b : Int) (h : norm a = norm b) : Cos a = Cos b := by
  rw [← Sin_add_quarter, ← Sin_add_quarter]
  exact Sin_norm _ _ (by unfold norm at *; omega)

/-- the addition theorem at two angles -/
def Adds (a b : Int) : Prop :=
  (-13958643712 ≤ Sin a * Cos b + Cos a * Sin b - 1073741824 * Sin (a + b) ∧ Sin a * Cos b + Cos a * Sin b - 1073741824 * Sin (a + b) ≤ 13958643712) ∧
  (-13958643712 ≤ Cos a * Cos b - Sin a * Sin b - 1073741824 * Cos (a + b) ∧ Cos a * Cos b - Sin a * Sin b - 1073741824 * Cos (a + b) ≤ 13958643712)
theorem Near.weak {k l p P : Int} (h : Near k p P) (hl : k ≤ l) : Near l p P := by
  unfold Near at *
  have := Int.mul_le_mul_of_nonneg_right hl (Int.le_of_lt mp_pos)
  omega
theorem Near.neg {k p P : Int} (h : Near k p P) : Near k (-p) (-P) := by
  unfold Near at *
  rw [Int.mul_neg, Int.mul_neg]
  omega
theorem Near.comp {k l p P Q : Int} (h : Near k p P) (hQ : -mp ≤ 10000000000 * (Q - P) ∧ 10000000000 * (Q - P) ≤ mp) (hl : k + 2 ≤ l) : Near l p Q := by
  unfold Near at *
  have := Int.mul_le_mul_of_nonneg_right hl (Int.le_of_lt mp_pos)
  have e : (k + 2) * mp = k * mp + 2 * mp := by grind
  rw [e] at this
  have := mp_pos
  generalize l * mp = lm at *
  generalize k * mp = km at *
  omega
theorem sum_near {x y : Int} (hx : 0 ≤ x) (hx2 : x ≤ 32400000) (hy : 0 ≤ y) (hy2 : y ≤ 32400000) : Near 31 (Sin (x + y)) (tT (tA x + tA y)) ∧ Near 31 (Cos (x + y)) (kT (tA x + tA y)) := by
  by_cases h : x + y ≤ 32400000
  · rw [Sin_q (by omega) h, Cos_q (by omega) h]
    have q := q_near (x := x + y) (by omega) h
    have hs : tA x + tA y = tA (x + y) - 1 ∨ tA x + tA y = tA (x + y) ∨ tA x + tA y = tA (x + y) + 1 := by unfold tA; omega
    have hb := tA_le (x := x + y) (by omega) h
    exact ⟨(q.1.shift hs (by omega)).weak (by omega), (q.2.shiftK hs (by omega)).weak (by omega)⟩
  · rw [Sin_q2 (by omega) (by omega), Cos_q2 (by omega) (by omega)]
    obtain ⟨z, hz⟩ : ∃ z, z = x + y - 32400000 := ⟨_, rfl⟩
    rw [show 64800000 - (x + y) = 32400000 - z from by omega, ← hz]
    have q := q_near (x := z) (by omega) (by omega)
    have hb := tA_le (x := z) (by omega) (by omega)
    have hs : tA x + tA y - 3373259426 = tA z - 1 ∨ tA x + tA y - 3373259426 = tA z ∨ tA x + tA y - 3373259426 = tA z + 1 := by subst hz; unfold tA; omega
    have s1 := q.1.shift hs (by omega)
    have s2 := q.2.shiftK hs (by omega)
    have c := comp (w := tA x + tA y - 3373259426) (by omega)
    rw [show 3373259426 + (tA x + tA y - 3373259426) = tA x + tA y from by omega] at c
    exact ⟨s2.comp c.1 (by omega), s1.neg.comp (by rw [Int.sub_neg]; exact c.2) (by omega)⟩
theorem adds_num : 2 * (23 * mp * (1073741824 * mp) + 1073741824 * mq * (23 * mp)) + 1152921504606846976 * (mp * mp / 100000000000 + 10) + 31 * 1073741824 * (mp * mp) ≤ 130 * 1073741824 * (mp * mp) := by decide +kernel
theorem adds_q {x y : Int} (hx : 0 ≤ x) (hx2 : x ≤ 32400000) (hy : 0 ≤ y) (hy2 : y ≤ 32400000) : Adds x y := by
  have n := sum_near hx hx2 hy hy2
  have qx := q_near hx hx2
  have qy := q_near hy hy2
  have tx := tA_le hx hx2
  have ty := tA_le hy hy2
  have bx := kt_bd (x := tA x) (by omega)
  have by' := kt_bd (x := tA y) (by omega)
  have aS := tT_add (x := tA x) (y := tA y) (by omega) (by omega)
  have aC := kT_add (x := tA x) (y := tA y) (by omega) (by omega)
  have sx := Sin_bd x
  have cx := Cos_bd x
  have sy := Sin_bd y
  have cy := Cos_bd y
  have hm := mp_pos
  have hn := adds_num
  rw [← Sin_q hx hx2, ← Cos_q hx hx2] at qx
  rw [← Sin_q hy hy2, ← Cos_q hy hy2] at qy
  have p1 := prod_near qx.1 qy.2 (by decide) cy bx.2
  have p2 := prod_near qx.2 qy.1 (by decide) sy bx.1
  have p3 := prod_near qx.2 qy.2 (by decide) cy bx.1
  have p4 := prod_near qx.1 qy.1 (by decide) sy bx.2
  obtain ⟨n1, n2⟩ := n
  unfold Near at n1 n2
  unfold Adds
  have m1 := Int.mul_le_mul_of_nonneg_left n1.1 (Int.le_of_lt hm)
  have m2 := Int.mul_le_mul_of_nonneg_left n1.2 (Int.le_of_lt hm)
  have m3 := Int.mul_le_mul_of_nonneg_left n2.1 (Int.le_of_lt hm)
  have m4 := Int.mul_le_mul_of_nonneg_left n2.2 (Int.le_of_lt hm)
  generalize tT (tA x) = TX at *
  generalize tT (tA y) = TY at *
  generalize kT (tA x) = KX at *
  generalize kT (tA y) = KY at *
  generalize tT (tA x + tA y) = TS at *
  generalize kT (tA x + tA y) = KS at *
  generalize Sin x = SX at *
  generalize Sin y = SY at *
  generalize Cos x = CX at *
  generalize Cos y = CY at *
  have e1 : mp * (10 * (mp * Sin (x + y) - 1073741824 * TS)) = 10 * (mp * mp * Sin (x + y)) - 10 * 1073741824 * (mp * TS) := by grind
  have e2 : mp * (10 * (mp * Cos (x + y) - 1073741824 * KS)) = 10 * (mp * mp * Cos (x + y)) - 10 * 1073741824 * (mp * KS) := by grind
  have e3 : mp * -(31 * mp) = -(31 * (mp * mp)) := by grind
  have e4 : mp * (31 * mp) = 31 * (mp * mp) := by grind
  rw [e1, e3] at m1
  rw [e1, e4] at m2
  rw [e2, e3] at m3
  rw [e2, e4] at m4
  have hM : 0 < mp * mp := Int.mul_pos hm hm
  have f1 : mp * mp * (SX * CY + CX * SY - 1073741824 * Sin (x + y)) = mp * mp * (SX * CY) + mp * mp * (CX * SY) - 1073741824 * (mp * mp * Sin (x + y)) := by grind
  have f2 : mp * mp * (CX * CY - SX * SY - 1073741824 * Cos (x + y)) = mp * mp * (CX * CY) - mp * mp * (SX * SY) - 1073741824 * (mp * mp * Cos (x + y)) := by grind
  have e5 : mp * mp * 13958643712 = 13 * 1073741824 * (mp * mp) := by grind
  have g1 : mp * mp * (SX * CY + CX * SY - 1073741824 * Sin (x + y)) ≤ mp * mp * 13958643712 := by
    rw [f1, e5]
    generalize mp * mp * (SX * CY) = u1 at *
    generalize mp * mp * (CX * SY) = u2 at *
    generalize mp * mp * Sin (x + y) = u3 at *
    generalize 23 * mp * (1073741824 * mp) + 1073741824 * mq * (23 * mp) = Z at *
    generalize mp * mp = MM at *
    omega
  have g2 : mp * mp * -13958643712 ≤ mp * mp * (SX * CY + CX * SY - 1073741824 * Sin (x + y)) := by
    rw [f1, Int.mul_neg, e5]
    generalize mp * mp * (SX * CY) = u1 at *
    generalize mp * mp * (CX * SY) = u2 at *
    generalize mp * mp * Sin (x + y) = u3 at *
    generalize 23 * mp * (1073741824 * mp) + 1073741824 * mq * (23 * mp) = Z at *
    generalize mp * mp = MM at *
    omega
  have g3 : mp * mp * (CX * CY - SX * SY - 1073741824 * Cos (x + y)) ≤ mp * mp * 13958643712 := by
    rw [f2, e5]
    generalize mp * mp * (CX * CY) = u1 at *
    generalize mp * mp * (SX * SY) = u2 at *
    generalize mp * mp * Cos (x + y) = u3 at *
    generalize 23 * mp * (1073741824 * mp) + 1073741824 * mq * (23 * mp) = Z at *
    generalize mp * mp = MM at *
    omega
  have g4 : mp * mp * -13958643712 ≤ mp * mp * (CX * CY - SX * SY - 1073741824 * Cos (x + y)) := by
    rw [f2, Int.mul_neg, e5]
    generalize mp * mp * (CX * CY) = u1 at *
    generalize mp * mp * (SX * SY) = u2 at *
    generalize mp * mp * Cos (x + y) = u3 at *
    generalize 23 * mp * (1073741824 * mp) + 1073741824 * mq * (23 * mp) = Z at *
    generalize mp * mp = MM at *
    omega
  exact ⟨⟨Int.le_of_mul_le_mul_left g2 hM, Int.le_of_mul_le_mul_left g1 hM⟩, Int.le_of_mul_le_mul_left g4 hM, Int.le_of_mul_le_mul_left g3 hM⟩

theorem Adds.turn {a b : Int} (h : Adds a b) : Adds (a + 32400000) b := by
  unfold Adds at *
  rw [show a + 32400000 + b = a + b + 32400000 from by omega, Sin_add_quarter, Cos_add_quarter, Sin_add_quarter, Cos_add_quarter]
  have e1 : Cos a * Cos b + -Sin a * Sin b = Cos a * Cos b - Sin a * Sin b := by grind
  have e2 : -Sin a * Cos b - Cos a * Sin b = -(Sin a * Cos b + Cos a * Sin b) := by grind
  rw [e1, e2]
  omega
theorem Adds.comm {a b : Int} (h : Adds a b) : Adds b a := by
  unfold Adds at *
  rw [show b + a = a + b from by omega]
  have e1 : Sin b * Cos a + Cos b * Sin a = Sin a * Cos b + Cos a * Sin b := by grind
  have e2 : Cos b * Cos a - Sin b * Sin a = Cos a * Cos b - Sin a * Sin b := by grind
  rw [e1, e2]
  exact h
theorem Adds.period {a a' b : Int} (h : Adds a b) (ha : norm a = norm a') : Adds a' b := by
  unfold Adds at *
  rw [Sin_norm a' a ha.symm, Cos_norm a' a ha.symm, Sin_norm (a' + b) (a + b) (by unfold norm at *; omega), Cos_norm (a' + b) (a + b) (by unfold norm at *; omega)]
  exact h
theorem adds_left {b : Int} (H : ∀ x, 0 ≤ x → x ≤ 32400000 → Adds x b) (a : Int) : Adds a b := by
  have hb := norm_bd a
  have e : norm (norm a) = norm a := norm_id hb.1 hb.2
  refine Adds.period (a := norm a) ?_ e
  generalize norm a = n at *
  by_cases h1 : n ≤ 32400000
  · exact H n (by omega) h1
  · by_cases h2 : n ≤ 64800000
    · have := (H (n - 32400000) (by omega) (by omega)).turn
      rwa [show n - 32400000 + 32400000 = n from by omega] at this
    · by_cases h3 : n ≤ 97200000
      · have := (H (n - 64800000) (by omega) (by omega)).turn.turn
        rwa [show n - 64800000 + 32400000 + 32400000 = n from by omega] at this
      · have := (H (n - 97200000) (by omega) (by omega)).turn.turn.turn
        rwa [show n - 97200000 + 32400000 + 32400000 + 32400000 = n from by omega] at this
/-- The addition theorem. -/
theorem adds (a b : Int) : Adds a b :=
  adds_left (fun x hx hx2 => (adds_left (fun y hy hy2 => adds_q hy hy2 hx hx2) b).comm) a
end Go.Proofs.YtdfkkknkiioghaaGreat

/-
  How near a course is to the vector that it is the course of; how fast the sine and the cosine turn. No program.
-/
namespace Go.Proofs.YtdfkkknkiioghaaGreat
set_option linter.unusedVariables false

theorem Sin_neg (a : Int) : Sin (-a) = -Sin a := by
  have hb := norm_bd a
  have e : norm (-a) = if norm a = 0 then 0 else 129600000 - norm a := by unfold norm; split <;> omega
  have e0 : qsin 0 = 0 := by decide
  unfold Sin
  rw [e]
  generalize norm a = b at *
  by_cases h0 : b = 0
  · subst h0; decide
  · rw [if_neg h0]
    by_cases h1 : b ≤ 32400000
    · rw [if_pos h1]
      by_cases h : b = 32400000
      · subst h; decide
      · rw [if_neg (by omega), if_neg (by omega), if_neg (by omega), show 129600000 - (129600000 - b) = b from by omega]
    · by_cases h2 : b ≤ 64800000
      · rw [if_neg h1, if_pos h2]
        by_cases h : b = 64800000
        · subst h; decide
        · rw [if_neg (by omega), if_neg (by omega), if_pos (by omega), show 129600000 - b - 64800000 = 64800000 - b from by omega]
      · by_cases h3 : b ≤ 97200000
        · rw [if_neg h1, if_neg h2, if_pos h3, Int.neg_neg]
          by_cases h : b = 97200000
          · subst h; decide
          · rw [if_neg (by omega), if_pos (by omega), show 64800000 - (129600000 - b) = b - 64800000 from by omega]
        · rw [if_neg h1, if_neg h2, if_neg h3, Int.neg_neg, if_pos (by omega)]
theorem Cos_neg (a : Int) : Cos (-a) = Cos a := by
  rw [← Sin_add_quarter, show -a + 32400000 = -(a + 64800000) + 97200000 - 0 from by omega]
  have h1 : Sin (-(a + 64800000) + 97200000 - 0) = Sin (-(a - 32400000)) := Sin_norm _ _ (by unfold norm; omega)
  rw [h1, Sin_neg]
  have h2 := Cos_add_quarter (a - 32400000)
  rw [show a - 32400000 + 32400000 = a from by omega] at h2
  omega
/-- the products of two directions -/
theorem subs (a b : Int) : (-13958643712 ≤ Sin a * Cos b - Cos a * Sin b - 1073741824 * Sin (a - b) ∧ Sin a * Cos b - Cos a * Sin b - 1073741824 * Sin (a - b) ≤ 13958643712) ∧
    (-13958643712 ≤ Cos a * Cos b + Sin a * Sin b - 1073741824 * Cos (a - b) ∧ Cos a * Cos b + Sin a * Sin b - 1073741824 * Cos (a - b) ≤ 13958643712) := by
  have h := adds a (-b)
  unfold Adds at h
  rw [Sin_neg, Cos_neg, show a + -b = a - b from by omega] at h
  have e1 : Sin a * Cos b + Cos a * -Sin b = Sin a * Cos b - Cos a * Sin b := by grind
  have e2 : Cos a * Cos b - Sin a * -Sin b = Cos a * Cos b + Sin a * Sin b := by grind
  rw [e1, e2] at h
  exact h

/-! ### how fast they turn -/
theorem sine_rise {a : Int} (h : 0 ≤ a) (h2 : a < 16200000) : sine (a + 1) - sine a ≤ 54 ∧ cosine a - cosine (a + 1) ≤ 84 := by
  have ht := tA_bd h (by omega)
  have ht' := tA_bd (a := a + 1) (by omega) (by omega)
  have hd : tA a ≤ tA (a + 1) ∧ tA (a + 1) ≤ tA a + 105 := by unfold tA; omega
  have hu := u_of_t ht.1 ht.2
  have hu' := u_of_t ht'.1 ht'.2
  have hr := sr5_bd hu.1 hu.2
  have hr' := sr5_bd hu'.1 hu'.2
  unfold sine cosine uA
  generalize tA (a + 1) = t' at *
  generalize tA a = t at *
  have htt : 0 ≤ t * t := sq_nonneg t
  have e : t' * t' - t * t = (t' - t) * (t' + t) := by grind
  have hm : (t' - t) * (t' + t) ≤ 105 * 3373259426 := Int.mul_le_mul (by omega) (by omega) (by omega) (by omega)
  have um := u_mono ht.1 hd.1
  have ud : mulS t' t' ≤ mulS t t + 166 := by unfold mulS; omega
  have rm : sr5 (mulS t' t') ≤ sr5 (mulS t t) := by
    have : -sr5 (mulS t t) ≤ -sr5 (mulS t' t') := mono_le (f := fun x => -sr5 x) (lo := 0) (hi := 1325000000) (fun x a b => by
      have := sv5_step a b
      unfold sv5 at this
      show -sr5 x ≤ -sr5 (x + 1)
      unfold sr5 divS
      omega) hu.1 um hu'.2
    omega
  have cm : cr5 (mulS t t) ≤ cr5 (mulS t' t') + 166 := by
    have : cr5 (mulS t t) + mulS t t ≤ cr5 (mulS t' t') + mulS t' t' := mono_le (f := fun x => cr5 x + x) (lo := 0) (hi := 1325000000) (fun x a b => by
      have := cr5_step a b
      show cr5 x + x ≤ cr5 (x + 1) + (x + 1)
      omega) hu.1 um hu'.2
    omega
  have s1 : t' * sr5 (mulS t' t') ≤ t' * sr5 (mulS t t) := Int.mul_le_mul_of_nonneg_left rm ht'.1
  have s2 : (t' - t) * sr5 (mulS t t) ≤ 105 * 2147483648 := Int.mul_le_mul (by omega) hr.2 (by omega) (by decide)
  have e2 : (t' - t) * sr5 (mulS t t) = t' * sr5 (mulS t t) - t * sr5 (mulS t t) := by grind
  constructor
  · generalize sr5 (mulS t' t') = r' at *
    generalize sr5 (mulS t t) = r at *
    unfold mulS
    omega
  · omega
/-- the sine is at least a straight line -/
theorem sine_lo {a : Int} (h : 0 ≤ a) (h2 : a ≤ 16200000) : 46 * a - 1 ≤ sine a := by
  have ht := tA_bd h h2
  have hd : 104 * a ≤ tA a := by unfold tA; omega
  have hu := u_of_t ht.1 ht.2
  have hr := sr5_bd hu.1 hu.2
  unfold sine uA
  generalize sr5 (mulS (tA a) (tA a)) = r at *
  generalize tA a = t at *
  have : t * 1926000000 ≤ t * r := Int.mul_le_mul_of_nonneg_left hr.1 ht.1
  unfold mulS
  omega
theorem sine_hi {a : Int} (h : 0 ≤ a) (h2 : a ≤ 16200000) : sine a ≤ 53 * a := by
  have ht := tA_bd h h2
  have hd : tA a ≤ 105 * a := by unfold tA; omega
  have hu := u_of_t ht.1 ht.2
  have hr := sr5_bd hu.1 hu.2
  unfold sine uA
  generalize sr5 (mulS (tA a) (tA a)) = r at *
  generalize tA a = t at *
  have : t * r ≤ t * 2147483648 := Int.mul_le_mul_of_nonneg_left hr.2 ht.1
  unfold mulS
  omega
theorem Sin_mono {a b : Int} (h : 0 ≤ a) (h1 : a ≤ b) (h2 : b ≤ 32400000) : Sin a ≤ Sin b := by
  rw [Sin_q h (by omega), Sin_q (by omega) h2]
  by_cases hb : b ≤ 16200000
  · rw [qsin_lo (by omega), qsin_lo hb]
    exact sine_mono h h1 hb
  · have eb := qsin_hi (x := 32400000 - b) (by omega) (by omega)
    rw [show 32400000 - (32400000 - b) = b from by omega] at eb
    rw [eb]
    by_cases ha : a ≤ 16200000
    · rw [qsin_lo ha]
      have := sine_bd h ha
      have := cosine_bd (a := 32400000 - b) (by omega) (by omega)
      omega
    · have ea := qsin_hi (x := 32400000 - a) (by omega) (by omega)
      rw [show 32400000 - (32400000 - a) = a from by omega] at ea
      rw [ea]
      exact cosine_anti (by omega) (by omega) (by omega)
/-- a small sine is that of a small angle -/
theorem small_angle {d E : Int} (hd : -32400000 ≤ d ∧ d ≤ 32400000) (h : -E ≤ Sin d ∧ Sin d ≤ E) (hE : E < 759250125) : -(E + 1) ≤ 46 * d ∧ 46 * d ≤ E + 1 := by
  have key : ∀ x : Int, 0 ≤ x → x ≤ 32400000 → Sin x ≤ E → 46 * x ≤ E + 1 := by
    intro x h0 h1 h2
    by_cases h3 : x ≤ 16200000
    · rw [Sin_q h0 h1, qsin_lo h3] at h2
      have := sine_lo h0 h3
      omega
    · have := Sin_mono (a := 16200000) (b := x) (by decide) (by omega) h1
      have e : Sin 16200000 = 759250125 := by decide
      omega
  rcases Int.le_total 0 d with h0 | h0
  · have := key d h0 hd.2 h.2
    omega
  · have := key (-d) (by omega) (by omega) (by rw [Sin_neg]; omega)
    omega

/-! ### a course and its vector -/
/-- up to 45 degrees -/
theorem atanC_near {m n : Int} (hn : 0 ≤ n) (hnm : n ≤ m) (hm : 0 < m) :
    0 ≤ Cos (atanC m n) * n - Sin (atanC m n) * m ∧ Cos (atanC m n) * n - Sin (atanC m n) * m ≤ 138 * m := by
  obtain ⟨g, hg, h1, h2, h3⟩ := atanC_nat m n
  rw [hg]
  have hn45 := n45_eq
  have hg45 : g ≤ 16200000 := by omega
  have p0 : Sin g * m ≤ Cos g * n := by
    rcases h2 with h2 | h2
    · subst h2
      have e0 : Sin ((0 : Nat) : Int) = 0 := by decide
      have e1 : Cos ((0 : Nat) : Int) = 1073741824 := by decide
      rw [e0, e1]; omega
    · exact of_decide_eq_true h2
  refine ⟨by omega, ?_⟩
  by_cases he : g = 16200000
  · have e0 : Sin (16200000 : Int) = 759250125 := by decide
    have e1 : Cos (16200000 : Int) = 759250125 := by decide
    rw [he] at *
    rw [show ((16200000 : Nat) : Int) = 16200000 from rfl, e0, e1] at *
    omega
  · have h4 := h3 (g + 1) (by omega) (by omega)
    have h5 : ¬ Sin ((g + 1 : Nat) : Int) * m ≤ Cos ((g + 1 : Nat) : Int) * n := of_decide_eq_false h4
    rw [show ((g + 1 : Nat) : Int) = (g : Int) + 1 from by omega] at h5
    have r := sine_rise (a := g) (by omega) (by omega)
    rw [Sin_eq (Int.natCast_nonneg g) (by omega), Cos_eq (Int.natCast_nonneg g) (by omega)] at *
    rw [Sin_eq (by omega) (by omega), Cos_eq (by omega) (by omega)] at h5
    have k1 : (sine (g + 1) - sine g) * m ≤ 54 * m := Int.mul_le_mul_of_nonneg_right r.1 (by omega)
    have k2 : (cosine g - cosine (g + 1)) * n ≤ 84 * n := Int.mul_le_mul_of_nonneg_right r.2 hn
    rw [Int.sub_mul] at k1 k2
    omega
end Go.Proofs.YtdfkkknkiioghaaGreat

/-
  The course of a vector leads to it; the course of a point of a circle is its direction. No program.
-/
namespace Go.Proofs.YtdfkkknkiioghaaGreat
set_option linter.unusedVariables false

theorem Cos_add_half (a : Int) : Cos (a + 64800000) = -Cos a := by
  rw [show a + 64800000 = a + 32400000 + 32400000 from by omega, Cos_add_quarter, Sin_add_quarter]
theorem Sin_half_sub (a : Int) : Sin (64800000 - a) = Sin a := by
  rw [show 64800000 - a = -a + 64800000 from by omega, Sin_add_half, Sin_neg, Int.neg_neg]
theorem Cos_half_sub (a : Int) : Cos (64800000 - a) = -Cos a := by
  rw [show 64800000 - a = -a + 64800000 from by omega, Cos_add_half, Cos_neg]
theorem Sin_quarter_sub (a : Int) : Sin (32400000 - a) = Cos a := by
  rw [show 32400000 - a = -a + 32400000 from by omega, Sin_add_quarter, Cos_neg]
theorem Cos_quarter_sub (a : Int) : Cos (32400000 - a) = Sin a := by
  rw [show 32400000 - a = -a + 32400000 from by omega, Cos_add_quarter, Sin_neg, Int.neg_neg]
theorem Sin_normed (a : Int) : Sin (norm a) = Sin a := Sin_norm _ _ (by unfold norm; omega)
theorem Cos_normed (a : Int) : Cos (norm a) = Cos a := Cos_norm _ _ (by unfold norm; omega)

/-- in the first quarter -/
theorem atanQ_near {b a : Int} (ha : 0 ≤ a) (hb : 0 ≤ b) (h0 : 0 < a ∨ 0 < b) :
    (-(138 * max a b) ≤ Sin (atanQ b a) * a - Cos (atanQ b a) * b ∧ Sin (atanQ b a) * a - Cos (atanQ b a) * b ≤ 138 * max a b) ∧ 759250125 * max a b ≤ Sin (atanQ b a) * b + Cos (atanQ b a) * a := by
  unfold atanQ
  rw [show (a.natAbs : Int) = a from by omega, show (b.natAbs : Int) = b from by omega]
  have lo : ∀ m n : Int, 0 ≤ Sin (atanC m n) ∧ 759250125 ≤ Cos (atanC m n) := fun m n => by
    have g := atanC_bd m n
    rw [Sin_eq g.1 g.2, Cos_eq g.1 g.2]
    exact ⟨(sine_bd g.1 g.2).1, (cosine_bd g.1 g.2).1⟩
  by_cases h : a.natAbs < b.natAbs
  · rw [if_pos h, Sin_quarter_sub, Cos_quarter_sub, show max a b = b from by omega]
    have n := atanC_near ha (show a ≤ b by omega) (by omega)
    have l := lo b a
    have p1 := Int.mul_nonneg l.1 ha
    have p2 := Int.mul_le_mul_of_nonneg_right l.2 hb
    omega
  · rw [if_neg h, show max a b = a from by omega]
    have n := atanC_near hb (show b ≤ a by omega) (by omega)
    have l := lo a b
    have p1 := Int.mul_nonneg l.1 hb
    have p2 := Int.mul_le_mul_of_nonneg_right l.2 ha
    omega
/-- the greater part of a vector -/
def big (p q : Int) : Int := max (p.natAbs : Int) q.natAbs
theorem atan2_near {p q : Int} (h0 : ¬ (p = 0 ∧ q = 0)) :
    (-(138 * big p q) ≤ Sin (atan2F p q) * q - Cos (atan2F p q) * p ∧ Sin (atan2F p q) * q - Cos (atan2F p q) * p ≤ 138 * big p q) ∧ 759250125 * big p q ≤ Sin (atan2F p q) * p + Cos (atan2F p q) * q := by
  have e : atanQ p q = atanQ p.natAbs q.natAbs := by unfold atanQ; simp
  have h := atanQ_near (a := q.natAbs) (b := p.natAbs) (by omega) (by omega) (by omega)
  rw [← e] at h
  have hm : max (q.natAbs : Int) p.natAbs = big p q := by unfold big; omega
  rw [hm] at h
  unfold atan2F
  generalize atanQ p q = α at *
  generalize big p q = m at *
  by_cases hp : 0 ≤ p
  · rw [if_pos hp]
    rw [show (p.natAbs : Int) = p from by omega] at h
    by_cases hq : 0 ≤ q
    · rw [if_pos hq]
      rw [show (q.natAbs : Int) = q from by omega] at h
      exact h
    · rw [if_neg hq, Sin_half_sub, Cos_half_sub]
      rw [show (q.natAbs : Int) = -q from by omega, Int.mul_neg, Int.mul_neg] at h
      rw [Int.neg_mul, Int.neg_mul]
      omega
  · rw [if_neg hp]
    rw [show (p.natAbs : Int) = -p from by omega] at h
    by_cases hq : q < 0
    · rw [if_pos hq, show 64800000 + α = α + 64800000 from by omega, Sin_add_half, Cos_add_half]
      rw [show (q.natAbs : Int) = -q from by omega] at h
      simp only [Int.mul_neg, Int.neg_mul] at h ⊢
      omega
    · rw [if_neg hq, Sin_normed, Cos_normed, Sin_neg, Cos_neg]
      rw [show (q.natAbs : Int) = q from by omega] at h
      simp only [Int.mul_neg, Int.neg_mul] at h ⊢
      omega
theorem big_sq (p q : Int) : big p q * big p q ≤ p * p + q * q ∧ p * p + q * q ≤ 2 * (big p q * big p q) := by
  have hp : (p.natAbs : Int) * p.natAbs = p * p := by
    rcases Int.le_total 0 p with h | h
    · rw [show (p.natAbs : Int) = p from by omega]
    · rw [show (p.natAbs : Int) = -p from by omega, Int.neg_mul_neg]
  have hq : (q.natAbs : Int) * q.natAbs = q * q := by
    rcases Int.le_total 0 q with h | h
    · rw [show (q.natAbs : Int) = q from by omega]
    · rw [show (q.natAbs : Int) = -q from by omega, Int.neg_mul_neg]
  have a := sq_nonneg p
  have b := sq_nonneg q
  unfold big
  rcases Int.le_total (p.natAbs : Int) q.natAbs with h | h
  · rw [show max (p.natAbs : Int) q.natAbs = q.natAbs from by omega, hq]
    have := sq_mono (show (0 : Int) ≤ p.natAbs by omega) h
    omega
  · rw [show max (p.natAbs : Int) q.natAbs = p.natAbs from by omega, hp]
    have := sq_mono (show (0 : Int) ≤ q.natAbs by omega) h
    omega

/-- The vector of a course and a length is the vector that they are of. -/
theorem aim {p q r : Int} (h0 : ¬ (p = 0 ∧ q = 0)) (hr1 : r * r ≤ p * p + q * q) (hr2 : p * p + q * q < (r + 1) * (r + 1)) (hr : 1 ≤ r) (hr8 : r ≤ 6000000) :
    (-2147483648 ≤ r * Sin (atan2F p q) - 1073741824 * p ∧ r * Sin (atan2F p q) - 1073741824 * p ≤ 2147483648) ∧ (-2147483648 ≤ r * Cos (atan2F p q) - 1073741824 * q ∧ r * Cos (atan2F p q) - 1073741824 * q ≤ 2147483648) := by
  have hn := atan2_near h0
  have hb := big_sq p q
  have hbig0 : 0 ≤ big p q := by unfold big; omega
  have hbig : big p q ≤ r := by
    have := isq_lt' (a := big p q) (b := r + 1) (by omega) (by omega)
    omega
  have hu := unit_all (atan2F p q)
  have bs := Sin_bd (atan2F p q)
  have bc := Cos_bd (atan2F p q)
  generalize Sin (atan2F p q) = S at *
  generalize Cos (atan2F p q) = C at *
  generalize big p q = m at *
  generalize hK : S * q - C * p = K at *
  generalize hD : S * p + C * q = Dt at *
  have hD0 : 0 ≤ Dt := by omega
  have lag : Dt * Dt + K * K = (S * S + C * C) * (p * p + q * q) := by subst hK hD; grind
  generalize hN : S * S + C * C = N at *
  have hK2 := sq_bd (a := K) (m := 138 * r) (by omega) (by omega)
  have hrr : r * r ≤ r * 6000000 := Int.mul_le_mul_of_nonneg_left hr8 (by omega)
  have hrr1 : r * 1 ≤ r * r := Int.mul_le_mul_of_nonneg_left hr (by omega)
  have er1 : (r + 1) * (r + 1) = r * r + 2 * r + 1 := by grind
  have ek : 138 * r * (138 * r) = 19044 * (r * r) := by grind
  -- the part along
  have up : Dt ≤ 1073741832 * (r + 1) := by
    apply isq_le' (by omega)
    have h1 : N * (p * p + q * q) ≤ 1152921520713023656 * (p * p + q * q) := Int.mul_le_mul_of_nonneg_right (by omega) (by have := sq_nonneg p; have := sq_nonneg q; omega)
    have e : 1073741832 * (r + 1) * (1073741832 * (r + 1)) = 1152921521786716224 * ((r + 1) * (r + 1)) := by grind
    have := sq_nonneg K
    rw [e]
    omega
  have lo : 1073741815 * r ≤ Dt := by
    apply isq_le' hD0
    have h1 : 1152921488500719616 * (p * p + q * q) ≤ N * (p * p + q * q) := Int.mul_le_mul_of_nonneg_right (by omega) (by have := sq_nonneg p; have := sq_nonneg q; omega)
    have e : 1073741815 * r * (1073741815 * r) = 1152921485279494225 * (r * r) := by grind
    rw [e]
    omega
  have rN1 : r * 1152921488500719616 ≤ r * N := Int.mul_le_mul_of_nonneg_left (by omega) (by omega)
  have rN2 : r * N ≤ r * 1152921520713023656 := Int.mul_le_mul_of_nonneg_left (by omega) (by omega)
  have gap : -(1073741824 * 1073741824 + 24 * 1073741824 * r + 8 * 1073741824) ≤ r * N - 1073741824 * Dt ∧ r * N - 1073741824 * Dt ≤ 1073741824 * 1073741824 + 24 * 1073741824 * r + 8 * 1073741824 := by omega
  have ep : N * (r * S - 1073741824 * p) = S * (r * N - 1073741824 * Dt) + 1073741824 * (C * K) := by subst hN hD hK; grind
  have eq : N * (r * C - 1073741824 * q) = C * (r * N - 1073741824 * Dt) - 1073741824 * (S * K) := by subst hN hD hK; grind
  have m1 := mul_abs_le (x := S) (X := 1073741824) bs gap
  have m2 := mul_abs_le (x := C) (X := 1073741824) bc gap
  have m3 := mul_abs_le (x := C) (X := 1073741824) (v := K) (V := 138 * r) bc (by omega)
  have m4 := mul_abs_le (x := S) (X := 1073741824) (v := K) (V := 138 * r) bs (by omega)
  have hNpos : 0 < N := by omega
  have b1 : N * (r * S - 1073741824 * p) ≤ N * 2147483648 := by rw [ep]; omega
  have b2 : N * -2147483648 ≤ N * (r * S - 1073741824 * p) := by rw [ep]; omega
  have b3 : N * (r * C - 1073741824 * q) ≤ N * 2147483648 := by rw [eq]; omega
  have b4 : N * -2147483648 ≤ N * (r * C - 1073741824 * q) := by rw [eq]; omega
  exact ⟨⟨Int.le_of_mul_le_mul_left b2 hNpos, Int.le_of_mul_le_mul_left b1 hNpos⟩, Int.le_of_mul_le_mul_left b4 hNpos, Int.le_of_mul_le_mul_left b3 hNpos⟩
end Go.Proofs.YtdfkkknkiioghaaGreat

