/-
  The squares of the sine and the cosine add up to the square of the scale, but for a small part. No program.
-/
import Derived.Test.YtjjdojokkmfbmaaGreatDoorMPlain
namespace Go.Proofs.YtjjdojokkmfbmaaGreatDoor
set_option linter.unusedVariables false

theorem circ (u U A B : Int) (hA : A = 39916800 * U^5 - 6652800 * u * U^4 + 332640 * u^2 * U^3 - 7920 * u^3 * U^2 + 110 * u^4 * U - u^5)
    (hB : B = 3628800 * U^5 - 1814400 * u * U^4 + 151200 * u^2 * U^3 - 5040 * u^3 * U^2 + 90 * u^4 * U - u^5) :
    u * (A * A) + 121 * U * (B * B) = 1593350922240000 * U^11 + u^6 * (-6652800 * U^5 + 2851200 * u * U^4 - 207900 * u^2 * U^3 + 6160 * u^3 * U^2 - 99 * u^4 * U + u^5) := by
  subst hA hB
  grind

/-- a step of the series with its rounding: v is u * s / U, s' is U - v / n; P s is A but for P -/
theorem hstep {u U s v s' n P A : Int} (hu : 0 ≤ u) (hU : u ≤ U) (hP : 0 ≤ P) (hn : 0 ≤ n) (hA : -P ≤ P * s - A ∧ P * s - A ≤ P) (hv : -U ≤ 2 * (U * v - u * s) ∧ 2 * (U * v - u * s) ≤ U)
    (hs : -n ≤ 2 * (n * s' - (n * U - v)) ∧ 2 * (n * s' - (n * U - v)) ≤ n) :
    -(P * U * (n + 3)) ≤ 2 * (n * P * U * s' - (n * P * U * U - u * A)) ∧ 2 * (n * P * U * s' - (n * P * U * U - u * A)) ≤ P * U * (n + 3) := by
  have e : n * P * U * s' - (n * P * U * U - u * A) = P * U * (n * s' - (n * U - v)) - P * (U * v - u * s) - u * (P * s - A) := by grind
  have hPU : 0 ≤ P * U := Int.mul_nonneg hP (by omega)
  have a1 := Int.mul_le_mul_of_nonneg_left hs.1 hPU
  have a2 := Int.mul_le_mul_of_nonneg_left hs.2 hPU
  have b1 := Int.mul_le_mul_of_nonneg_left hv.1 hP
  have b2 := Int.mul_le_mul_of_nonneg_left hv.2 hP
  have c1 := Int.mul_le_mul_of_nonneg_left hA.1 hu
  have c2 := Int.mul_le_mul_of_nonneg_left hA.2 hu
  have d := Int.mul_le_mul_of_nonneg_right hU hP
  have e1 : P * U * (2 * (n * s' - (n * U - v))) = 2 * (P * U * (n * s' - (n * U - v))) := by grind
  have e2 : P * (2 * (U * v - u * s)) = 2 * (P * (U * v - u * s)) := by grind
  have e3 : P * U * (n + 3) = P * U * n + 3 * (P * U) := by grind
  have e4 : U * P = P * U := Int.mul_comm _ _
  have e5 : P * U * -n = -(P * U * n) := by grind
  have e6 : P * -U = -(P * U) := by grind
  have e7 : u * -P = -(u * P) := by grind
  rw [e, e3]
  omega
theorem mulS_near (u s : Int) : -2147483648 ≤ 2 * (2147483648 * mulS u s - u * s) ∧ 2 * (2147483648 * mulS u s - u * s) ≤ 2147483648 := by unfold mulS; omega

section
variable {u : Int}
theorem nsr1 : -110 ≤ 2 * (110 * sr1 u - (110 * 2147483648 - u)) ∧ 2 * (110 * sr1 u - (110 * 2147483648 - u)) ≤ 110 := by unfold sr1 divS; omega
theorem nsr2 : -72 ≤ 2 * (72 * sr2 u - (72 * 2147483648 - mulS u (sr1 u))) ∧ 2 * (72 * sr2 u - (72 * 2147483648 - mulS u (sr1 u))) ≤ 72 := by unfold sr2 divS; omega
theorem nsr3 : -42 ≤ 2 * (42 * sr3 u - (42 * 2147483648 - mulS u (sr2 u))) ∧ 2 * (42 * sr3 u - (42 * 2147483648 - mulS u (sr2 u))) ≤ 42 := by unfold sr3 divS; omega
theorem nsr4 : -20 ≤ 2 * (20 * sr4 u - (20 * 2147483648 - mulS u (sr3 u))) ∧ 2 * (20 * sr4 u - (20 * 2147483648 - mulS u (sr3 u))) ≤ 20 := by unfold sr4 divS; omega
theorem nsr5 : -6 ≤ 2 * (6 * sr5 u - (6 * 2147483648 - mulS u (sr4 u))) ∧ 2 * (6 * sr5 u - (6 * 2147483648 - mulS u (sr4 u))) ≤ 6 := by unfold sr5 divS; omega
theorem ncr1 : -90 ≤ 2 * (90 * cr1 u - (90 * 2147483648 - u)) ∧ 2 * (90 * cr1 u - (90 * 2147483648 - u)) ≤ 90 := by unfold cr1 divS; omega
theorem ncr2 : -56 ≤ 2 * (56 * cr2 u - (56 * 2147483648 - mulS u (cr1 u))) ∧ 2 * (56 * cr2 u - (56 * 2147483648 - mulS u (cr1 u))) ≤ 56 := by unfold cr2 divS; omega
theorem ncr3 : -30 ≤ 2 * (30 * cr3 u - (30 * 2147483648 - mulS u (cr2 u))) ∧ 2 * (30 * cr3 u - (30 * 2147483648 - mulS u (cr2 u))) ≤ 30 := by unfold cr3 divS; omega
theorem ncr4 : -12 ≤ 2 * (12 * cr4 u - (12 * 2147483648 - mulS u (cr3 u))) ∧ 2 * (12 * cr4 u - (12 * 2147483648 - mulS u (cr3 u))) ≤ 12 := by unfold cr4 divS; omega
theorem ncr5 : -2 ≤ 2 * (2 * cr5 u - (2 * 2147483648 - mulS u (cr4 u))) ∧ 2 * (2 * cr5 u - (2 * 2147483648 - mulS u (cr4 u))) ≤ 2 := by unfold cr5 divS; omega

/-- the series' last number against its polynomial -/
theorem sr_poly (hu : 0 ≤ u) (hU : u ≤ 1325000000) : ∃ A : Int, A = 39916800 * 2147483648^5 - 6652800 * u * 2147483648^4 + 332640 * u^2 * 2147483648^3 - 7920 * u^3 * 2147483648^2 + 110 * u^4 * 2147483648 - u^5 ∧
    -(39916800 * 2147483648^4) ≤ 39916800 * 2147483648^4 * sr5 u - A ∧ 39916800 * 2147483648^4 * sr5 u - A ≤ 39916800 * 2147483648^4 := by
  have h1 : -110 ≤ 110 * sr1 u - (110 * 2147483648 - u) ∧ 110 * sr1 u - (110 * 2147483648 - u) ≤ 110 := by have := nsr1 (u := u); omega
  have h2 := hstep hu (show u ≤ 2147483648 by omega) (by decide) (by decide) h1 (mulS_near u _) nsr2
  generalize hA1 : 110 * 2147483648 - u = A1 at *
  have h2' : -(72 * 110 * 2147483648) ≤ 72 * 110 * 2147483648 * sr2 u - (72 * 110 * 2147483648 * 2147483648 - u * A1) ∧ 72 * 110 * 2147483648 * sr2 u - (72 * 110 * 2147483648 * 2147483648 - u * A1) ≤ 72 * 110 * 2147483648 := by omega
  have h3 := hstep hu (show u ≤ 2147483648 by omega) (by decide) (by decide) h2' (mulS_near u _) nsr3
  generalize hA2 : 72 * 110 * 2147483648 * 2147483648 - u * A1 = A2 at *
  have h3' : -(42 * (72 * 110 * 2147483648) * 2147483648) ≤ 42 * (72 * 110 * 2147483648) * 2147483648 * sr3 u - (42 * (72 * 110 * 2147483648) * 2147483648 * 2147483648 - u * A2) ∧ 42 * (72 * 110 * 2147483648) * 2147483648 * sr3 u - (42 * (72 * 110 * 2147483648) * 2147483648 * 2147483648 - u * A2) ≤ 42 * (72 * 110 * 2147483648) * 2147483648 := by omega
  have h4 := hstep hu (show u ≤ 2147483648 by omega) (by decide) (by decide) h3' (mulS_near u _) nsr4
  generalize hA3 : 42 * (72 * 110 * 2147483648) * 2147483648 * 2147483648 - u * A2 = A3 at *
  have h4' : -(20 * (42 * (72 * 110 * 2147483648) * 2147483648) * 2147483648) ≤ 20 * (42 * (72 * 110 * 2147483648) * 2147483648) * 2147483648 * sr4 u - (20 * (42 * (72 * 110 * 2147483648) * 2147483648) * 2147483648 * 2147483648 - u * A3) ∧ 20 * (42 * (72 * 110 * 2147483648) * 2147483648) * 2147483648 * sr4 u - (20 * (42 * (72 * 110 * 2147483648) * 2147483648) * 2147483648 * 2147483648 - u * A3) ≤ 20 * (42 * (72 * 110 * 2147483648) * 2147483648) * 2147483648 := by omega
  have h5 := hstep hu (show u ≤ 2147483648 by omega) (by decide) (by decide) h4' (mulS_near u _) nsr5
  generalize hA4 : 20 * (42 * (72 * 110 * 2147483648) * 2147483648) * 2147483648 * 2147483648 - u * A3 = A4 at *
  refine ⟨6 * (20 * (42 * (72 * 110 * 2147483648) * 2147483648) * 2147483648) * 2147483648 * 2147483648 - u * A4, ?_, ?_, ?_⟩
  · subst hA1 hA2 hA3 hA4
    grind
  · omega
  · omega
theorem cr_poly (hu : 0 ≤ u) (hU : u ≤ 1325000000) : ∃ B : Int, B = 3628800 * 2147483648^5 - 1814400 * u * 2147483648^4 + 151200 * u^2 * 2147483648^3 - 5040 * u^3 * 2147483648^2 + 90 * u^4 * 2147483648 - u^5 ∧
    -(3628800 * 2147483648^4 * 5) ≤ 4 * (3628800 * 2147483648^4 * cr5 u - B) ∧ 4 * (3628800 * 2147483648^4 * cr5 u - B) ≤ 3628800 * 2147483648^4 * 5 := by
  have h1 : -90 ≤ 90 * cr1 u - (90 * 2147483648 - u) ∧ 90 * cr1 u - (90 * 2147483648 - u) ≤ 90 := by have := ncr1 (u := u); omega
  have h2 := hstep hu (show u ≤ 2147483648 by omega) (by decide) (by decide) h1 (mulS_near u _) ncr2
  generalize hA1 : 90 * 2147483648 - u = A1 at *
  have h2' : -(56 * 90 * 2147483648) ≤ 56 * 90 * 2147483648 * cr2 u - (56 * 90 * 2147483648 * 2147483648 - u * A1) ∧ 56 * 90 * 2147483648 * cr2 u - (56 * 90 * 2147483648 * 2147483648 - u * A1) ≤ 56 * 90 * 2147483648 := by omega
  have h3 := hstep hu (show u ≤ 2147483648 by omega) (by decide) (by decide) h2' (mulS_near u _) ncr3
  generalize hA2 : 56 * 90 * 2147483648 * 2147483648 - u * A1 = A2 at *
  have h3' : -(30 * (56 * 90 * 2147483648) * 2147483648) ≤ 30 * (56 * 90 * 2147483648) * 2147483648 * cr3 u - (30 * (56 * 90 * 2147483648) * 2147483648 * 2147483648 - u * A2) ∧ 30 * (56 * 90 * 2147483648) * 2147483648 * cr3 u - (30 * (56 * 90 * 2147483648) * 2147483648 * 2147483648 - u * A2) ≤ 30 * (56 * 90 * 2147483648) * 2147483648 := by omega
  have h4 := hstep hu (show u ≤ 2147483648 by omega) (by decide) (by decide) h3' (mulS_near u _) ncr4
  generalize hA3 : 30 * (56 * 90 * 2147483648) * 2147483648 * 2147483648 - u * A2 = A3 at *
  have h4' : -(12 * (30 * (56 * 90 * 2147483648) * 2147483648) * 2147483648) ≤ 12 * (30 * (56 * 90 * 2147483648) * 2147483648) * 2147483648 * cr4 u - (12 * (30 * (56 * 90 * 2147483648) * 2147483648) * 2147483648 * 2147483648 - u * A3) ∧ 12 * (30 * (56 * 90 * 2147483648) * 2147483648) * 2147483648 * cr4 u - (12 * (30 * (56 * 90 * 2147483648) * 2147483648) * 2147483648 * 2147483648 - u * A3) ≤ 12 * (30 * (56 * 90 * 2147483648) * 2147483648) * 2147483648 := by omega
  have h5 := hstep hu (show u ≤ 2147483648 by omega) (by decide) (by decide) h4' (mulS_near u _) ncr5
  generalize hA4 : 12 * (30 * (56 * 90 * 2147483648) * 2147483648) * 2147483648 * 2147483648 - u * A3 = A4 at *
  refine ⟨2 * (12 * (30 * (56 * 90 * 2147483648) * 2147483648) * 2147483648) * 2147483648 * 2147483648 - u * A4, ?_, ?_, ?_⟩
  · subst hA1 hA2 hA3 hA4
    grind
  · omega
  · omega

theorem pow_bd {u U : Int} (hu : 0 ≤ u) (hU : u ≤ U) : ∀ k : Nat, 0 ≤ u^k ∧ u^k ≤ U^k
  | 0 => by simp
  | k + 1 => by
    have := pow_bd hu hU k
    rw [Int.pow_succ, Int.pow_succ]
    exact ⟨Int.mul_nonneg this.1 hu, Int.mul_le_mul this.2 hU hu (by omega)⟩
theorem rest_bd (hu : 0 ≤ u) (hU : u ≤ 2147483648) : ∃ q : Int, u^6 * (-6652800 * 2147483648^5 + 2851200 * u * 2147483648^4 - 207900 * u^2 * 2147483648^3 + 6160 * u^3 * 2147483648^2 - 99 * u^4 * 2147483648 + u^5) = q ∧
    -(9718160 * 2147483648^11) ≤ q ∧ q ≤ 9718160 * 2147483648^11 := by
  have p2 := pow_bd hu hU 2
  have p3 := pow_bd hu hU 3
  have p4 := pow_bd hu hU 4
  have p5 := pow_bd hu hU 5
  have p6 := pow_bd hu hU 6
  have hq : -(9718160 * 2147483648^5) ≤ -6652800 * 2147483648^5 + 2851200 * u * 2147483648^4 - 207900 * u^2 * 2147483648^3 + 6160 * u^3 * 2147483648^2 - 99 * u^4 * 2147483648 + u^5 ∧
      -6652800 * 2147483648^5 + 2851200 * u * 2147483648^4 - 207900 * u^2 * 2147483648^3 + 6160 * u^3 * 2147483648^2 - 99 * u^4 * 2147483648 + u^5 ≤ 9718160 * 2147483648^5 := by
    generalize u^2 = a2 at *
    generalize u^3 = a3 at *
    generalize u^4 = a4 at *
    generalize u^5 = a5 at *
    omega
  refine ⟨_, rfl, ?_⟩
  generalize -6652800 * 2147483648^5 + 2851200 * u * 2147483648^4 - 207900 * u^2 * 2147483648^3 + 6160 * u^3 * 2147483648^2 - 99 * u^4 * 2147483648 + u^5 = q at *
  generalize u^6 = a6 at *
  have h1 := Int.mul_le_mul_of_nonneg_left hq.1 p6.1
  have h2 := Int.mul_le_mul_of_nonneg_left hq.2 p6.1
  have h3 := Int.mul_le_mul_of_nonneg_right p6.2 (show (0 : Int) ≤ 9718160 * 2147483648^5 by decide)
  omega
theorem sq_near {X A P M : Int} (hP : 0 ≤ P) (h : -P ≤ X - A ∧ X - A ≤ P) (hX : 0 ≤ X) (hM : X ≤ M) : -(P * (2 * M + P)) ≤ X * X - A * A ∧ X * X - A * A ≤ P * (2 * M + P) := by
  have e : X * X - A * A = (X - A) * (X + A) := by grind
  have hs : -(2 * M + P) ≤ X + A ∧ X + A ≤ 2 * M + P := by omega
  have := sq_bd h.1 h.2
  rw [e]
  generalize X - A = d at *
  generalize X + A = s at *
  generalize hk : 2 * M + P = k at *
  have hk0 : 0 ≤ k := by omega
  constructor
  · rcases Int.le_total 0 d with h1 | h1
    · have a := Int.mul_le_mul_of_nonneg_left hs.1 h1
      have b := Int.mul_le_mul_of_nonneg_right h.2 hk0
      have : d * -k = -(d * k) := by grind
      omega
    · have a := Int.mul_le_mul_of_nonpos_left h1 hs.2
      have b := Int.mul_le_mul_of_nonneg_right h.1 hk0
      have : -P * k = -(P * k) := by grind
      omega
  · rcases Int.le_total 0 d with h1 | h1
    · have a := Int.mul_le_mul_of_nonneg_left hs.2 h1
      have b := Int.mul_le_mul_of_nonneg_right h.2 hk0
      omega
    · have a := Int.mul_le_mul_of_nonpos_left h1 hs.1
      have b := Int.mul_le_mul_of_nonneg_right h.1 hk0
      have : -P * k = -(P * k) := by grind
      have : d * -k = -(d * k) := by grind
      omega
theorem unit_u (hu : 0 ≤ u) (hU : u ≤ 1325000000) : -(20 * 2147483648^2) ≤ u * (sr5 u * sr5 u) + 2147483648 * (cr5 u * cr5 u) - 2147483648^3 ∧ u * (sr5 u * sr5 u) + 2147483648 * (cr5 u * cr5 u) - 2147483648^3 ≤ 20 * 2147483648^2 := by
  obtain ⟨A, eA, a1, a2⟩ := sr_poly hu hU
  obtain ⟨B, eB, b1, b2⟩ := cr_poly hu hU
  have hc := circ u 2147483648 A B eA eB
  obtain ⟨q, hq, q1, q2⟩ := rest_bd hu (show u ≤ 2147483648 by omega)
  rw [hq] at hc
  have r := sr5_bd hu hU
  have c := cr5_bd hu hU
  generalize sr5 u = r5 at *
  generalize cr5 u = c5 at *
  clear hq eA eB
  have X2 := sq_near (X := 39916800 * 2147483648^4 * r5) (A := A) (P := 39916800 * 2147483648^4) (M := 39916800 * 2147483648^4 * 2147483648) (by decide) ⟨a1, a2⟩ (by omega) (by omega)
  have Y2 := sq_near (X := 3628800 * 2147483648^4 * c5) (A := B) (P := 3628800 * 2147483648^4 * 5 / 4) (M := 3628800 * 2147483648^4 * 2147483648) (by decide) ⟨by omega, by omega⟩ (by omega) (by omega)
  have e1 : 39916800 * 2147483648^4 * r5 * (39916800 * 2147483648^4 * r5) = 1593350922240000 * 2147483648^8 * (r5 * r5) := by grind
  have e2 : 3628800 * 2147483648^4 * c5 * (3628800 * 2147483648^4 * c5) = 13168189440000 * 2147483648^8 * (c5 * c5) := by grind
  rw [e1] at X2
  rw [e2] at Y2
  have u1 := Int.mul_le_mul_of_nonneg_left X2.1 hu
  have u2 := Int.mul_le_mul_of_nonneg_left X2.2 hu
  have e3 : u * (1593350922240000 * 2147483648^8 * (r5 * r5) - A * A) = 1593350922240000 * 2147483648^8 * (u * (r5 * r5)) - u * (A * A) := by grind
  rw [e3] at u1 u2
  generalize r5 * r5 = rr at *
  generalize u * rr = urr at *
  generalize c5 * c5 = cc at *
  generalize A * A = AA at *
  generalize u * AA = uAA at *
  generalize B * B = BB at *
  omega
theorem unit_circle {a : Int} (h : 0 ≤ a) (h2 : a ≤ 16200000) : -(15 * 1073741824) ≤ sine a * sine a + cosine a * cosine a - 1152921504606846976 ∧ sine a * sine a + cosine a * cosine a - 1152921504606846976 ≤ 15 * 1073741824 := by
  have ht := tA_bd h h2
  have hu := u_of_t ht.1 ht.2
  have hun := unit_u hu.1 hu.2
  have r := sr5_bd hu.1 hu.2
  have c := cr5_bd hu.1 hu.2
  have sb := sine_bd h h2
  have cb := cosine_bd h h2
  unfold sine cosine uA at *
  have m1 := mulS_near (tA a) (tA a)
  have m2 := mulS_near (tA a) (sr5 (mulS (tA a) (tA a)))
  generalize tA a = t at *
  generalize mulS t t = u at *
  generalize sr5 u = r5 at *
  generalize cr5 u = c5 at *
  generalize mulS t r5 = v at *
  generalize hS : (v + 1) / 2 = S at *
  generalize hC : (c5 + 1) / 2 = C at *
  have tr0 : 0 ≤ t * r5 := Int.mul_nonneg ht.1 (by omega)
  have tr1 : t * r5 ≤ 1686629713 * 2147483648 := Int.mul_le_mul ht.2 r.2 (by omega) (by decide)
  have X2 := sq_near (X := 2 * 2147483648 * S) (A := t * r5) (P := 3 * 1073741824) (M := 2 * 2147483648 * 759250125) (by decide) ⟨by omega, by omega⟩ (by omega) (by omega)
  have e1 : 2 * 2147483648 * S * (2 * 2147483648 * S) = 4 * 2147483648 * 2147483648 * (S * S) := by grind
  have e2 : t * r5 * (t * r5) = t * t * (r5 * r5) := by grind
  rw [e1, e2] at X2
  have rr0 := sq_nonneg r5
  have rr1 := sq_bd (a := r5) (m := 2147483648) (by omega) (by omega)
  have w1 := Int.mul_le_mul_of_nonneg_right m1.1 rr0
  have w2 := Int.mul_le_mul_of_nonneg_right m1.2 rr0
  have e3 : 2 * (2147483648 * u - t * t) * (r5 * r5) = 2 * (2147483648 * (u * (r5 * r5))) - 2 * (t * t * (r5 * r5)) := by grind
  rw [e3] at w1 w2
  have C2 : c5 * c5 ≤ 4 * (C * C) ∧ 4 * (C * C) ≤ c5 * c5 + 2 * c5 + 1 := by
    have : 2 * C = c5 ∨ 2 * C = c5 + 1 := by omega
    rcases this with h | h
    · have : 4 * (C * C) = c5 * c5 := by rw [← h]; grind
      omega
    · have : 4 * (C * C) = c5 * c5 + 2 * c5 + 1 := by rw [show 4 * (C * C) = 2 * C * (2 * C) from by grind, h]; grind
      omega
  generalize r5 * r5 = rr at *
  generalize u * rr = urr at *
  generalize t * t * rr = ttrr at *
  generalize c5 * c5 = cc at *
  generalize S * S = SS at *
  generalize C * C = CC at *
  omega
/-- the quarter of an angle -/
theorem quad (a : Int) : ∃ x : Int, 0 ≤ x ∧ x ≤ 32400000 ∧
    ((norm a = x ∧ Sin a = qsin x ∧ Cos a = qsin (32400000 - x)) ∨ (norm a = 64800000 - x ∧ Sin a = qsin x ∧ Cos a = -qsin (32400000 - x)) ∨
     (norm a = 64800000 + x ∧ Sin a = -qsin x ∧ Cos a = -qsin (32400000 - x)) ∨ (norm a = 129600000 - x ∧ Sin a = -qsin x ∧ Cos a = qsin (32400000 - x))) := by
  have hb := norm_bd a
  have e : norm (turnF a 32400000) = (norm a + 32400000) % 129600000 := by rw [turnF_eq]; unfold norm; omega
  unfold Cos Sin
  rw [e]
  generalize norm a = b at *
  by_cases h1 : b ≤ 32400000
  · refine ⟨b, by omega, h1, .inl ⟨rfl, if_pos h1, ?_⟩⟩
    by_cases h0 : b = 0
    · subst h0; decide
    · rw [if_neg (by omega), if_pos (by omega)]
      congr 1; omega
  · by_cases h2 : b ≤ 64800000
    · refine ⟨64800000 - b, by omega, by omega, .inr (.inl ⟨by omega, by rw [if_neg h1, if_pos h2], ?_⟩)⟩
      rw [if_neg (by omega), if_neg (by omega), if_pos (by omega)]
      congr 2; omega
    · by_cases h3 : b ≤ 97200000
      · refine ⟨b - 64800000, by omega, by omega, .inr (.inr (.inl ⟨by omega, by rw [if_neg h1, if_neg h2, if_pos h3], ?_⟩))⟩
        by_cases h0 : b = 97200000
        · subst h0; decide
        · rw [if_neg (by omega), if_neg (by omega), if_neg (by omega)]
          congr 2; omega
      · refine ⟨129600000 - b, by omega, by omega, .inr (.inr (.inr ⟨by omega, by rw [if_neg h1, if_neg h2, if_neg h3], ?_⟩))⟩
        rw [if_pos (by omega)]
        congr 1; omega
theorem qsin_lo {x : Int} (h : x ≤ 16200000) : qsin x = sine x := if_pos h
theorem qsin_hi {x : Int} (h : 0 ≤ x) (h2 : x ≤ 16200000) : qsin (32400000 - x) = cosine x := by
  by_cases h0 : x = 16200000
  · subst h0; decide
  · unfold qsin
    rw [if_neg (by omega)]
    congr 1; omega
theorem unit_q {x : Int} (h : 0 ≤ x) (h2 : x ≤ 32400000) : -(15 * 1073741824) ≤ qsin x * qsin x + qsin (32400000 - x) * qsin (32400000 - x) - 1152921504606846976 ∧ qsin x * qsin x + qsin (32400000 - x) * qsin (32400000 - x) - 1152921504606846976 ≤ 15 * 1073741824 := by
  by_cases h3 : x ≤ 16200000
  · rw [qsin_lo h3, qsin_hi h h3]
    exact unit_circle h h3
  · have e1 := qsin_hi (x := 32400000 - x) (by omega) (by omega)
    rw [show 32400000 - (32400000 - x) = x from by omega] at e1
    rw [e1, qsin_lo (x := 32400000 - x) (by omega)]
    have := unit_circle (a := 32400000 - x) (by omega) (by omega)
    omega
/-- at every angle -/
theorem unit_all (a : Int) : -(15 * 1073741824) ≤ Sin a * Sin a + Cos a * Cos a - 1152921504606846976 ∧ Sin a * Sin a + Cos a * Cos a - 1152921504606846976 ≤ 15 * 1073741824 := by
  obtain ⟨x, h1, h2, h⟩ := quad a
  have := unit_q h1 h2
  rcases h with ⟨_, h, h'⟩ | ⟨_, h, h'⟩ | ⟨_, h, h'⟩ | ⟨_, h, h'⟩ <;> rw [h, h'] <;> simpa [Int.neg_mul_neg] using this
end
end Go.Proofs.YtjjdojokkmfbmaaGreatDoor

/-
  Plain law of chapter 11: a point on a course is as far away as was asked for, but for one unit. No program.
-/
namespace Go.Proofs.YtjjdojokkmfbmaaGreatDoor
set_option linter.unusedVariables false

theorem rnd2_one (n : Int) : -1073741824 ≤ 2 * (rnd 2 n 1073741824 * 1073741824 - n) ∧ 2 * (rnd 2 n 1073741824 * 1073741824 - n) ≤ 1073741824 := by
  have := rnd2_near n 1073741824 (by decide)
  simpa using this
/-- the rounding of a ray -/
theorem ray_round (dist c : Int) : (rayX dist c * 1073741824 - dist * Sin c) * (rayX dist c * 1073741824 - dist * Sin c) + (rayY dist c * 1073741824 - dist * Cos c) * (rayY dist c * 1073741824 - dist * Cos c) ≤ 2 * (536870912 * 536870912) := by
  have h1 := rnd2_one (dist * Sin c)
  have h2 := rnd2_one (dist * Cos c)
  unfold rayX rayY
  have a := sq_bd (a := rnd 2 (dist * Sin c) 1073741824 * 1073741824 - dist * Sin c) (m := 536870912) (by omega) (by omega)
  have b := sq_bd (a := rnd 2 (dist * Cos c) 1073741824 * 1073741824 - dist * Cos c) (m := 536870912) (by omega) (by omega)
  omega
/-- the exact vector of a ray -/
theorem ray_exact (dist c : Int) : dist * Sin c * (dist * Sin c) + dist * Cos c * (dist * Cos c) = dist * dist * (Sin c * Sin c + Cos c * Cos c) := by grind
theorem ray_exact_bd {d dist c : Int} (hd : d * d = dist * dist) (h0 : 0 ≤ d) (h8 : d ≤ 8000000) :
    d * d * 1152921504606846976 - 128850000000000000 * d ≤ dist * Sin c * (dist * Sin c) + dist * Cos c * (dist * Cos c) ∧ dist * Sin c * (dist * Sin c) + dist * Cos c * (dist * Cos c) ≤ d * d * 1152921504606846976 + 128850000000000000 * d := by
  rw [ray_exact, ← hd]
  have h := unit_all c
  generalize Sin c * Sin c + Cos c * Cos c = q at *
  have hdd := sq_nonneg d
  have h1 := Int.mul_le_mul_of_nonneg_left h.1 hdd
  have h2 := Int.mul_le_mul_of_nonneg_left h.2 hdd
  have h3 : d * d ≤ d * 8000000 := Int.mul_le_mul_of_nonneg_left h8 h0
  have e : d * d * (q - 1152921504606846976) = d * d * q - d * d * 1152921504606846976 := by grind
  rw [e] at h1 h2
  generalize d * d * q = x at *
  omega
theorem ray_near (dist c : Int) (h : -8000000 ≤ dist) (h2 : dist ≤ 8000000) (D : Int) (hD : D = isq (rayX dist c * rayX dist c + rayY dist c * rayY dist c).toNat) :
    D ≤ dist.natAbs + 1 ∧ (dist.natAbs : Int) ≤ D + 1 := by
  have hr := ray_round dist c
  have hW : 0 ≤ rayX dist c * rayX dist c + rayY dist c * rayY dist c := by have := sq_nonneg (rayX dist c); have := sq_nonneg (rayY dist c); omega
  have hq := isq_int _ hW
  rw [← hD] at hq
  have hD0 : 0 ≤ D := by omega
  generalize hk : (dist.natAbs : Int) = k at *
  have hkk : k * k = dist * dist := by
    rcases Int.le_total 0 dist with h1 | h1
    · rw [show k = dist from by omega]
    · rw [show k = -dist from by omega, Int.neg_mul_neg]
  have ex := ray_exact_bd (c := c) hkk (by omega) (by omega)
  have hkk0 := sq_nonneg k
  generalize hX : rayX dist c = X at *
  generalize hY : rayY dist c = Y at *
  generalize hA : dist * Sin c = A at *
  generalize hB : dist * Cos c = B at *
  have hs : 1073741824 * 1073741824 = (1152921504606846976 : Int) := by decide
  constructor
  · refine near_len (A := A) (B := B) (C := X * 1073741824) (D := Y * 1073741824) (s := 1073741824) (by decide) (by omega) hD0 ?_ ?_ ?_
    · have e : (k + 1) * (k + 1) = k * k + 2 * k + 1 := by grind
      rw [e, hs]
      omega
    · omega
    · have e : X * 1073741824 * (X * 1073741824) + Y * 1073741824 * (Y * 1073741824) = (X * X + Y * Y) * (1073741824 * 1073741824) := by grind
      rw [e, hs]
      omega
  · -- otherwise the exact vector would be too long
    have e1 : (2 * (X * 1073741824)) * (2 * (X * 1073741824)) + (2 * (Y * 1073741824)) * (2 * (Y * 1073741824)) = (X * X + Y * Y) * 4611686018427387904 := by grind
    have e2 : (2 * (D + 1) * 1073741824) * (2 * (D + 1) * 1073741824) = (D + 1) * (D + 1) * 4611686018427387904 := by grind
    have e3 : (2 * (A - X * 1073741824)) * (2 * (A - X * 1073741824)) + (2 * (B - Y * 1073741824)) * (2 * (B - Y * 1073741824)) = 4 * ((X * 1073741824 - A) * (X * 1073741824 - A) + (Y * 1073741824 - B) * (Y * 1073741824 - B)) := by grind
    have h3 := tri_lt (a := 2 * (X * 1073741824)) (b := 2 * (Y * 1073741824)) (c := 2 * (A - X * 1073741824)) (d := 2 * (B - Y * 1073741824)) (x := 2 * (D + 1) * 1073741824) (y := 1610612736) (by omega) (by decide) (by rw [e1, e2]; omega) (by rw [e3]; omega)
    rw [show 2 * (X * 1073741824) + 2 * (A - X * 1073741824) = 2 * A from by omega, show 2 * (Y * 1073741824) + 2 * (B - Y * 1073741824) = 2 * B from by omega] at h3
    have e4 : 2 * A * (2 * A) + 2 * B * (2 * B) = 4 * (A * A + B * B) := by grind
    rw [e4] at h3
    rcases Int.lt_or_le (D + 1) k with h4 | h4
    · exfalso
      have h5 : (2 * (D + 1) * 1073741824 + 1610612736) * (2 * (D + 1) * 1073741824 + 1610612736) ≤ (2 * k * 1073741824 - 536870912) * (2 * k * 1073741824 - 536870912) := Int.mul_le_mul (by omega) (by omega) (by omega) (by omega)
      have e5 : (2 * k * 1073741824 - 536870912) * (2 * k * 1073741824 - 536870912) = 4 * (k * k) * 1152921504606846976 - 2 * k * 1152921504606846976 + 288230376151711744 := by grind
      rw [e5] at h5
      omega
    · exact h4
end Go.Proofs.YtjjdojokkmfbmaaGreatDoor

/-
  Polynomials in one and two variables as lists of coefficients, to be reckoned with: sums, products, a bound of the values. No program.
-/
namespace Go.Proofs.YtjjdojokkmfbmaaGreatDoor
set_option linter.unusedVariables false

end Go.Proofs.YtjjdojokkmfbmaaGreatDoor

/-
  The addition theorem of the sine and the cosine in integers. First: of their polynomials. No program.
-/
namespace Go.Proofs.YtjjdojokkmfbmaaGreatDoor
set_option linter.unusedVariables false

/-! The sine's and the cosine's series up to degree 25, at a scaled angle (2^31 a radian), times mp. -/
def mp : Int := 15511210043330985984000000 * 2147483648^25
end Go.Proofs.YtjjdojokkmfbmaaGreatDoor

/-
  The sine and the cosine in integers against their polynomials. No program.
-/
namespace Go.Proofs.YtjjdojokkmfbmaaGreatDoor
set_option linter.unusedVariables false

def hp1 : List Int := [3628800 * 2147483648^10, 0, -1814400 * 2147483648^8, 0, 151200 * 2147483648^6, 0, -5040 * 2147483648^4, 0, 90 * 2147483648^2, 0, -1]
end Go.Proofs.YtjjdojokkmfbmaaGreatDoor

/-
  The addition theorem of the sine and the cosine in integers, for all angles. No program.
-/
namespace Go.Proofs.YtjjdojokkmfbmaaGreatDoor
set_option linter.unusedVariables false

end Go.Proofs.YtjjdojokkmfbmaaGreatDoor

/-
  The addition theorem of the sine and the cosine in integers, for all angles: the last part. No program.
-/
namespace Go.Proofs.YtjjdojokkmfbmaaGreatDoor
set_option linter.unusedVariables false

/-- an integer sine or cosine is its series, but for 'k' tenths -/
def Near (k : Int) (p P : Int) : Prop := -(k * mp) ≤ 10 * (mp * p - 1073741824 * P) ∧ 10 * (mp * p - 1073741824 * P) ≤ k * mp
end Go.Proofs.YtjjdojokkmfbmaaGreatDoor

/-
  The addition theorem of the sine and the cosine in integers, for all angles: Sin a * Cos b + Cos a * Sin b is One * Sin (a + b), but for 13 times One, and likewise the cosine. No program.
-/
namespace Go.Proofs.YtjjdojokkmfbmaaGreatDoor
set_option linter.unusedVariables false

theorem Sin_q {a : Int} (h : 0 ≤ a) (h2 : a ≤ 32400000) : Sin a = qsin a := by
  unfold Sin
  rw [norm_id h (by omega), if_pos h2]
theorem Near.neg {k p P : Int} (h : Near k p P) : Near k (-p) (-P) := by
  unfold Near at *
  rw [Int.mul_neg, Int.mul_neg]
  omega
end Go.Proofs.YtjjdojokkmfbmaaGreatDoor

/-
  How near a course is to the vector that it is the course of; how fast the sine and the cosine turn. No program.
-/
namespace Go.Proofs.YtjjdojokkmfbmaaGreatDoor
set_option linter.unusedVariables false

/-! ### how fast they turn -/
theorem Sin_mono {a b : Int} (h : 0 ≤ a) (h1 : a ≤ b) (h2 : b ≤ 32400000) : Sin a ≤ Sin b := by
  rw [Sin_q h (by omega), Sin_q (by omega) h2]
  by_cases hb : b ≤ 16200000
  · rw [qsin_lo (by omega), qsin_lo hb]
    exact sine_mono h h1 hb
  · have eb := qsin_hi (x := 32400000 - b) (by omega) (by omega)
    rw [show 32400000 - (32400000 - b) = b from by omega] at eb
    rw [eb]
    by_cases ha : a ≤ 16200000
    · rw [qsin_lo ha]
      have := sine_bd h ha
      have := cosine_bd (a := 32400000 - b) (by omega) (by omega)
      omega
    · have ea := qsin_hi (x := 32400000 - a) (by omega) (by omega)
      rw [show 32400000 - (32400000 - a) = a from by omega] at ea
      rw [ea]
      exact cosine_anti (by omega) (by omega) (by omega)
/-! ### a course and its vector -/
end Go.Proofs.YtjjdojokkmfbmaaGreatDoor

/-
  The course of a vector leads to it; the course of a point of a circle is its direction. No program.
-/
namespace Go.Proofs.YtjjdojokkmfbmaaGreatDoor
set_option linter.unusedVariables false

/-- the greater part of a vector -/
def big (p q : Int) : Int := max (p.natAbs : Int) q.natAbs
end Go.Proofs.YtjjdojokkmfbmaaGreatDoor
