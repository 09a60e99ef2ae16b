/-
  The squares of the sine and the cosine add up to the square of the scale, but for a small part. No program.
-/
import Derived.Test.YteanfgobpjdmnaaGreatDoorMPlain
namespace Go.Proofs.YteanfgobpjdmnaaGreatDoor
set_option linter.unusedVariables false
theorem FY (u U A B : Int) (hA : A = 39916800 * U^5 - 6652800 * u * U^4 + 332640 * u^2 * U^3 - 7920 * u^3 * U^2 + 110 * u^4 * U - u^5)
 (hB : B = 3628800 * U^5 - 1814400 * u * U^4 + 151200 * u^2 * U^3 - 5040 * u^3 * U^2 + 90 * u^4 * U - u^5) :
 u * (A * A) + 121 * U * (B * B) = 1593350922240000 * U^11 + u^6 * (-6652800 * U^5 + 2851200 * u * U^4 - 207900 * u^2 * U^3 + 6160 * u^3 * U^2 - 99 * u^4 * U + u^5) := by
 subst hA hB
 grind
theorem hstep {u U s v s' n P A : Int} (hu : 0 ≤ u) (hU : u ≤ U) (hP : 0 ≤ P) (hn : 0 ≤ n) (hA : -P ≤ P * s - A ∧ P * s - A ≤ P) (hv : -U ≤ 2 * (U * v - u * s) ∧ 2 * (U * v - u * s) ≤ U)
 (hs : -n ≤ 2 * (n * s' - (n * U - v)) ∧ 2 * (n * s' - (n * U - v)) ≤ n) :
 -(P * U * (n + 3)) ≤ 2 * (n * P * U * s' - (n * P * U * U - u * A)) ∧ 2 * (n * P * U * s' - (n * P * U * U - u * A)) ≤ P * U * (n + 3) := by
 have e : n * P * U * s' - (n * P * U * U - u * A) = P * U * (n * s' - (n * U - v)) - P * (U * v - u * s) - u * (P * s - A) := by grind
 have hPU : 0 ≤ P * U := Int.mul_nonneg hP (by omega)
 have a1 := Int.mul_le_mul_of_nonneg_left hs.1 hPU
 have a2 := Int.mul_le_mul_of_nonneg_left hs.2 hPU
 have b1 := Int.mul_le_mul_of_nonneg_left hv.1 hP
 have b2 := Int.mul_le_mul_of_nonneg_left hv.2 hP
 have c1 := Int.mul_le_mul_of_nonneg_left hA.1 hu
 have c2 := Int.mul_le_mul_of_nonneg_left hA.2 hu
 have d := Int.mul_le_mul_of_nonneg_right hU hP
 have e1 : P * U * (2 * (n * s' - (n * U - v))) = 2 * (P * U * (n * s' - (n * U - v))) := by grind
 have e2 : P * (2 * (U * v - u * s)) = 2 * (P * (U * v - u * s)) := by grind
 have e3 : P * U * (n + 3) = P * U * n + 3 * (P * U) := by grind
 have e4 : U * P = P * U := Int.mul_comm _ _
 have e5 : P * U * -n = -(P * U * n) := by grind
 have e6 : P * -U = -(P * U) := by grind
 have e7 : u * -P = -(u * P) := by grind
 rw [e, e3]
 omega
theorem jZ (u s : Int) : -2147483648 ≤ 2 * (2147483648 * zf u s - u * s) ∧ 2 * (2147483648 * zf u s - u * s) ≤ 2147483648 := by unfold zf; omega
section
variable {u : Int}
theorem FZ : -110 ≤ 2 * (110 * Um u - (110 * 2147483648 - u)) ∧ 2 * (110 * Um u - (110 * 2147483648 - u)) ≤ 110 := by unfold Um jm; omega
theorem Ra : -72 ≤ 2 * (72 * Un u - (72 * 2147483648 - zf u (Um u))) ∧ 2 * (72 * Un u - (72 * 2147483648 - zf u (Um u))) ≤ 72 := by unfold Un jm; omega
theorem Rb : -42 ≤ 2 * (42 * Uo u - (42 * 2147483648 - zf u (Un u))) ∧ 2 * (42 * Uo u - (42 * 2147483648 - zf u (Un u))) ≤ 42 := by unfold Uo jm; omega
theorem Rc : -20 ≤ 2 * (20 * KD u - (20 * 2147483648 - zf u (Uo u))) ∧ 2 * (20 * KD u - (20 * 2147483648 - zf u (Uo u))) ≤ 20 := by unfold KD jm; omega
theorem Rd : -6 ≤ 2 * (6 * bJ u - (6 * 2147483648 - zf u (KD u))) ∧ 2 * (6 * bJ u - (6 * 2147483648 - zf u (KD u))) ≤ 6 := by unfold bJ jm; omega
theorem Re : -90 ≤ 2 * (90 * Uq u - (90 * 2147483648 - u)) ∧ 2 * (90 * Uq u - (90 * 2147483648 - u)) ≤ 90 := by unfold Uq jm; omega
theorem Rf : -56 ≤ 2 * (56 * Ur u - (56 * 2147483648 - zf u (Uq u))) ∧ 2 * (56 * Ur u - (56 * 2147483648 - zf u (Uq u))) ≤ 56 := by unfold Ur jm; omega
theorem Rg : -30 ≤ 2 * (30 * Us u - (30 * 2147483648 - zf u (Ur u))) ∧ 2 * (30 * Us u - (30 * 2147483648 - zf u (Ur u))) ≤ 30 := by unfold Us jm; omega
theorem Rh : -12 ≤ 2 * (12 * Ut u - (12 * 2147483648 - zf u (Us u))) ∧ 2 * (12 * Ut u - (12 * 2147483648 - zf u (Us u))) ≤ 12 := by unfold Ut jm; omega
theorem Ri : -2 ≤ 2 * (2 * xj u - (2 * 2147483648 - zf u (Ut u))) ∧ 2 * (2 * xj u - (2 * 2147483648 - zf u (Ut u))) ≤ 2 := by unfold xj jm; omega
theorem du (hu : 0 ≤ u) (hU : u ≤ 1325000000) : ∃ A : Int, A = 39916800 * 2147483648^5 - 6652800 * u * 2147483648^4 + 332640 * u^2 * 2147483648^3 - 7920 * u^3 * 2147483648^2 + 110 * u^4 * 2147483648 - u^5 ∧
 -(39916800 * 2147483648^4) ≤ 39916800 * 2147483648^4 * bJ u - A ∧ 39916800 * 2147483648^4 * bJ u - A ≤ 39916800 * 2147483648^4 := by
 have h1 : -110 ≤ 110 * Um u - (110 * 2147483648 - u) ∧ 110 * Um u - (110 * 2147483648 - u) ≤ 110 := by have := FZ (u := u); omega
 have h2 := hstep hu (show u ≤ 2147483648 by omega) (by decide) (by decide) h1 (jZ u _) Ra
 generalize hA1 : 110 * 2147483648 - u = A1 at *
 have h2' : -(72 * 110 * 2147483648) ≤ 72 * 110 * 2147483648 * Un u - (72 * 110 * 2147483648 * 2147483648 - u * A1) ∧ 72 * 110 * 2147483648 * Un u - (72 * 110 * 2147483648 * 2147483648 - u * A1) ≤ 72 * 110 * 2147483648 := by omega
 have h3 := hstep hu (show u ≤ 2147483648 by omega) (by decide) (by decide) h2' (jZ u _) Rb
 generalize hA2 : 72 * 110 * 2147483648 * 2147483648 - u * A1 = A2 at *
 have h3' : -(42 * (72 * 110 * 2147483648) * 2147483648) ≤ 42 * (72 * 110 * 2147483648) * 2147483648 * Uo u - (42 * (72 * 110 * 2147483648) * 2147483648 * 2147483648 - u * A2) ∧ 42 * (72 * 110 * 2147483648) * 2147483648 * Uo u - (42 * (72 * 110 * 2147483648) * 2147483648 * 2147483648 - u * A2) ≤ 42 * (72 * 110 * 2147483648) * 2147483648 := by omega
 have h4 := hstep hu (show u ≤ 2147483648 by omega) (by decide) (by decide) h3' (jZ u _) Rc
 generalize hA3 : 42 * (72 * 110 * 2147483648) * 2147483648 * 2147483648 - u * A2 = A3 at *
 have h4' : -(20 * (42 * (72 * 110 * 2147483648) * 2147483648) * 2147483648) ≤ 20 * (42 * (72 * 110 * 2147483648) * 2147483648) * 2147483648 * KD u - (20 * (42 * (72 * 110 * 2147483648) * 2147483648) * 2147483648 * 2147483648 - u * A3) ∧ 20 * (42 * (72 * 110 * 2147483648) * 2147483648) * 2147483648 * KD u - (20 * (42 * (72 * 110 * 2147483648) * 2147483648) * 2147483648 * 2147483648 - u * A3) ≤ 20 * (42 * (72 * 110 * 2147483648) * 2147483648) * 2147483648 := by omega
 have h5 := hstep hu (show u ≤ 2147483648 by omega) (by decide) (by decide) h4' (jZ u _) Rd
 generalize hA4 : 20 * (42 * (72 * 110 * 2147483648) * 2147483648) * 2147483648 * 2147483648 - u * A3 = A4 at *
 refine ⟨6 * (20 * (42 * (72 * 110 * 2147483648) * 2147483648) * 2147483648) * 2147483648 * 2147483648 - u * A4, ?_, ?_, ?_⟩
 · subst hA1 hA2 hA3 hA4
   grind
 · omega
 · omega
theorem dw (hu : 0 ≤ u) (hU : u ≤ 1325000000) : ∃ B : Int, B = 3628800 * 2147483648^5 - 1814400 * u * 2147483648^4 + 151200 * u^2 * 2147483648^3 - 5040 * u^3 * 2147483648^2 + 90 * u^4 * 2147483648 - u^5 ∧
 -(3628800 * 2147483648^4 * 5) ≤ 4 * (3628800 * 2147483648^4 * xj u - B) ∧ 4 * (3628800 * 2147483648^4 * xj u - B) ≤ 3628800 * 2147483648^4 * 5 := by
 have h1 : -90 ≤ 90 * Uq u - (90 * 2147483648 - u) ∧ 90 * Uq u - (90 * 2147483648 - u) ≤ 90 := by have := Re (u := u); omega
 have h2 := hstep hu (show u ≤ 2147483648 by omega) (by decide) (by decide) h1 (jZ u _) Rf
 generalize hA1 : 90 * 2147483648 - u = A1 at *
 have h2' : -(56 * 90 * 2147483648) ≤ 56 * 90 * 2147483648 * Ur u - (56 * 90 * 2147483648 * 2147483648 - u * A1) ∧ 56 * 90 * 2147483648 * Ur u - (56 * 90 * 2147483648 * 2147483648 - u * A1) ≤ 56 * 90 * 2147483648 := by omega
 have h3 := hstep hu (show u ≤ 2147483648 by omega) (by decide) (by decide) h2' (jZ u _) Rg
 generalize hA2 : 56 * 90 * 2147483648 * 2147483648 - u * A1 = A2 at *
 have h3' : -(30 * (56 * 90 * 2147483648) * 2147483648) ≤ 30 * (56 * 90 * 2147483648) * 2147483648 * Us u - (30 * (56 * 90 * 2147483648) * 2147483648 * 2147483648 - u * A2) ∧ 30 * (56 * 90 * 2147483648) * 2147483648 * Us u - (30 * (56 * 90 * 2147483648) * 2147483648 * 2147483648 - u * A2) ≤ 30 * (56 * 90 * 2147483648) * 2147483648 := by omega
 have h4 := hstep hu (show u ≤ 2147483648 by omega) (by decide) (by decide) h3' (jZ u _) Rh
 generalize hA3 : 30 * (56 * 90 * 2147483648) * 2147483648 * 2147483648 - u * A2 = A3 at *
 have h4' : -(12 * (30 * (56 * 90 * 2147483648) * 2147483648) * 2147483648) ≤ 12 * (30 * (56 * 90 * 2147483648) * 2147483648) * 2147483648 * Ut u - (12 * (30 * (56 * 90 * 2147483648) * 2147483648) * 2147483648 * 2147483648 - u * A3) ∧ 12 * (30 * (56 * 90 * 2147483648) * 2147483648) * 2147483648 * Ut u - (12 * (30 * (56 * 90 * 2147483648) * 2147483648) * 2147483648 * 2147483648 - u * A3) ≤ 12 * (30 * (56 * 90 * 2147483648) * 2147483648) * 2147483648 := by omega
 have h5 := hstep hu (show u ≤ 2147483648 by omega) (by decide) (by decide) h4' (jZ u _) Ri
 generalize hA4 : 12 * (30 * (56 * 90 * 2147483648) * 2147483648) * 2147483648 * 2147483648 - u * A3 = A4 at *
 refine ⟨2 * (12 * (30 * (56 * 90 * 2147483648) * 2147483648) * 2147483648) * 2147483648 * 2147483648 - u * A4, ?_, ?_, ?_⟩
 · subst hA1 hA2 hA3 hA4
   grind
 · omega
 · omega
theorem JT {u U : Int} (hu : 0 ≤ u) (hU : u ≤ U) : ∀ k : Nat, 0 ≤ u^k ∧ u^k ≤ U^k
 | 0 => by simp
 | k + 1 => by
   have := JT hu hU k
   rw [Int.pow_succ, Int.pow_succ]
   exact ⟨Int.mul_nonneg this.1 hu, Int.mul_le_mul this.2 hU hu (by omega)⟩
theorem Px (hu : 0 ≤ u) (hU : u ≤ 2147483648) : ∃ q : Int, u^6 * (-6652800 * 2147483648^5 + 2851200 * u * 2147483648^4 - 207900 * u^2 * 2147483648^3 + 6160 * u^3 * 2147483648^2 - 99 * u^4 * 2147483648 + u^5) = q ∧
 -(9718160 * 2147483648^11) ≤ q ∧ q ≤ 9718160 * 2147483648^11 := by
 have p2 := JT hu hU 2
 have p3 := JT hu hU 3
 have p4 := JT hu hU 4
 have p5 := JT hu hU 5
 have p6 := JT hu hU 6
 have hq : -(9718160 * 2147483648^5) ≤ -6652800 * 2147483648^5 + 2851200 * u * 2147483648^4 - 207900 * u^2 * 2147483648^3 + 6160 * u^3 * 2147483648^2 - 99 * u^4 * 2147483648 + u^5 ∧
  -6652800 * 2147483648^5 + 2851200 * u * 2147483648^4 - 207900 * u^2 * 2147483648^3 + 6160 * u^3 * 2147483648^2 - 99 * u^4 * 2147483648 + u^5 ≤ 9718160 * 2147483648^5 := by
  generalize u^2 = a2 at *
  generalize u^3 = a3 at *
  generalize u^4 = a4 at *
  generalize u^5 = a5 at *
  omega
 refine ⟨_, rfl, ?_⟩
 generalize -6652800 * 2147483648^5 + 2851200 * u * 2147483648^4 - 207900 * u^2 * 2147483648^3 + 6160 * u^3 * 2147483648^2 - 99 * u^4 * 2147483648 + u^5 = q at *
 generalize u^6 = a6 at *
 have h1 := Int.mul_le_mul_of_nonneg_left hq.1 p6.1
 have h2 := Int.mul_le_mul_of_nonneg_left hq.2 p6.1
 have h3 := Int.mul_le_mul_of_nonneg_right p6.2 (show (0 : Int) ≤ 9718160 * 2147483648^5 by decide)
 omega
theorem BP {X A P M : Int} (hP : 0 ≤ P) (h : -P ≤ X - A ∧ X - A ≤ P) (hX : 0 ≤ X) (hM : X ≤ M) : -(P * (2 * M + P)) ≤ X * X - A * A ∧ X * X - A * A ≤ P * (2 * M + P) := by
 have e : X * X - A * A = (X - A) * (X + A) := by grind
 have hs : -(2 * M + P) ≤ X + A ∧ X + A ≤ 2 * M + P := by omega
 have := Yh h.1 h.2
 rw [e]
 generalize X - A = d at *
 generalize X + A = s at *
 generalize hk : 2 * M + P = k at *
 have hk0 : 0 ≤ k := by omega
 constructor
 · rcases Int.le_total 0 d with h1 | h1
   · have a := Int.mul_le_mul_of_nonneg_left hs.1 h1
     have b := Int.mul_le_mul_of_nonneg_right h.2 hk0
     have : d * -k = -(d * k) := by grind
     omega
   · have a := Int.mul_le_mul_of_nonpos_left h1 hs.2
     have b := Int.mul_le_mul_of_nonneg_right h.1 hk0
     have : -P * k = -(P * k) := by grind
     omega
 · rcases Int.le_total 0 d with h1 | h1
   · have a := Int.mul_le_mul_of_nonneg_left hs.2 h1
     have b := Int.mul_le_mul_of_nonneg_right h.2 hk0
     omega
   · have a := Int.mul_le_mul_of_nonpos_left h1 hs.1
     have b := Int.mul_le_mul_of_nonneg_right h.1 hk0
     have : -P * k = -(P * k) := by grind
     have : d * -k = -(d * k) := by grind
     omega
theorem Dg (hu : 0 ≤ u) (hU : u ≤ 1325000000) : -(20 * 2147483648^2) ≤ u * (bJ u * bJ u) + 2147483648 * (xj u * xj u) - 2147483648^3 ∧ u * (bJ u * bJ u) + 2147483648 * (xj u * xj u) - 2147483648^3 ≤ 20 * 2147483648^2 := by
 obtain ⟨A, eA, a1, a2⟩ := du hu hU
 obtain ⟨B, eB, b1, b2⟩ := dw hu hU
 have hc := FY u 2147483648 A B eA eB
 obtain ⟨q, hq, q1, q2⟩ := Px hu (show u ≤ 2147483648 by omega)
 rw [hq] at hc
 have r := Zi hu hU
 have c := pF hu hU
 generalize bJ u = r5 at *
 generalize xj u = c5 at *
 clear hq eA eB
 have X2 := BP (X := 39916800 * 2147483648^4 * r5) (A := A) (P := 39916800 * 2147483648^4) (M := 39916800 * 2147483648^4 * 2147483648) (by decide) ⟨a1, a2⟩ (by omega) (by omega)
 have Y2 := BP (X := 3628800 * 2147483648^4 * c5) (A := B) (P := 3628800 * 2147483648^4 * 5 / 4) (M := 3628800 * 2147483648^4 * 2147483648) (by decide) ⟨by omega, by omega⟩ (by omega) (by omega)
 have e1 : 39916800 * 2147483648^4 * r5 * (39916800 * 2147483648^4 * r5) = 1593350922240000 * 2147483648^8 * (r5 * r5) := by grind
 have e2 : 3628800 * 2147483648^4 * c5 * (3628800 * 2147483648^4 * c5) = 13168189440000 * 2147483648^8 * (c5 * c5) := by grind
 rw [e1] at X2
 rw [e2] at Y2
 have u1 := Int.mul_le_mul_of_nonneg_left X2.1 hu
 have u2 := Int.mul_le_mul_of_nonneg_left X2.2 hu
 have e3 : u * (1593350922240000 * 2147483648^8 * (r5 * r5) - A * A) = 1593350922240000 * 2147483648^8 * (u * (r5 * r5)) - u * (A * A) := by grind
 rw [e3] at u1 u2
 generalize r5 * r5 = rr at *
 generalize u * rr = urr at *
 generalize c5 * c5 = cc at *
 generalize A * A = AA at *
 generalize u * AA = uAA at *
 generalize B * B = BB at *
 omega
theorem Yn {a : Int} (h : 0 ≤ a) (h2 : a ≤ 16200000) : -(15 * 1073741824) ≤ kW a * kW a + jB a * jB a - 1152921504606846976 ∧ kW a * kW a + jB a * jB a - 1152921504606846976 ≤ 15 * 1073741824 := by
 have ht := xx h h2
 have hu := bK ht.1 ht.2
 have hun := Dg hu.1 hu.2
 have r := Zi hu.1 hu.2
 have c := pF hu.1 hu.2
 have sb := YL h h2
 have cb := Qy h h2
 unfold kW jB uA at *
 have m1 := jZ (tA a) (tA a)
 have m2 := jZ (tA a) (bJ (zf (tA a) (tA a)))
 generalize tA a = t at *
 generalize zf t t = u at *
 generalize bJ u = r5 at *
 generalize xj u = c5 at *
 generalize zf t r5 = v at *
 generalize hS : (v + 1) / 2 = S at *
 generalize hC : (c5 + 1) / 2 = C at *
 have tr0 : 0 ≤ t * r5 := Int.mul_nonneg ht.1 (by omega)
 have tr1 : t * r5 ≤ 1686629713 * 2147483648 := Int.mul_le_mul ht.2 r.2 (by omega) (by decide)
 have X2 := BP (X := 2 * 2147483648 * S) (A := t * r5) (P := 3 * 1073741824) (M := 2 * 2147483648 * 759250125) (by decide) ⟨by omega, by omega⟩ (by omega) (by omega)
 have e1 : 2 * 2147483648 * S * (2 * 2147483648 * S) = 4 * 2147483648 * 2147483648 * (S * S) := by grind
 have e2 : t * r5 * (t * r5) = t * t * (r5 * r5) := by grind
 rw [e1, e2] at X2
 have rr0 := zx r5
 have rr1 := Yh (a := r5) (m := 2147483648) (by omega) (by omega)
 have w1 := Int.mul_le_mul_of_nonneg_right m1.1 rr0
 have w2 := Int.mul_le_mul_of_nonneg_right m1.2 rr0
 have e3 : 2 * (2147483648 * u - t * t) * (r5 * r5) = 2 * (2147483648 * (u * (r5 * r5))) - 2 * (t * t * (r5 * r5)) := by grind
 rw [e3] at w1 w2
 have C2 : c5 * c5 ≤ 4 * (C * C) ∧ 4 * (C * C) ≤ c5 * c5 + 2 * c5 + 1 := by
  have : 2 * C = c5 ∨ 2 * C = c5 + 1 := by omega
  rcases this with h | h
  · have : 4 * (C * C) = c5 * c5 := by rw [← h]; grind
    omega
  · have : 4 * (C * C) = c5 * c5 + 2 * c5 + 1 := by rw [show 4 * (C * C) = 2 * C * (2 * C) from by grind, h]; grind
    omega
 generalize r5 * r5 = rr at *
 generalize u * rr = urr at *
 generalize t * t * rr = ttrr at *
 generalize c5 * c5 = cc at *
 generalize S * S = SS at *
 generalize C * C = CC at *
 omega
theorem Rj (a : Int) : ∃ x : Int, 0 ≤ x ∧ x ≤ 32400000 ∧
 ((norm a = x ∧ qV a = yo x ∧ qX a = yo (32400000 - x)) ∨ (norm a = 64800000 - x ∧ qV a = yo x ∧ qX a = -yo (32400000 - x)) ∨
  (norm a = 64800000 + x ∧ qV a = -yo x ∧ qX a = -yo (32400000 - x)) ∨ (norm a = 129600000 - x ∧ qV a = -yo x ∧ qX a = yo (32400000 - x))) := by
 have hb := zM a
 have e : norm (zg a 32400000) = (norm a + 32400000) % 129600000 := by rw [jD]; unfold norm; omega
 unfold qX qV
 rw [e]
 generalize norm a = b at *
 by_cases h1 : b ≤ 32400000
 · refine ⟨b, by omega, h1, .inl ⟨rfl, if_pos h1, ?_⟩⟩
   by_cases h0 : b = 0
   · subst h0; decide
   · rw [if_neg (by omega), if_pos (by omega)]
     congr 1; omega
 · by_cases h2 : b ≤ 64800000
   · refine ⟨64800000 - b, by omega, by omega, .inr (.inl ⟨by omega, by rw [if_neg h1, if_pos h2], ?_⟩)⟩
     rw [if_neg (by omega), if_neg (by omega), if_pos (by omega)]
     congr 2; omega
   · by_cases h3 : b ≤ 97200000
     · refine ⟨b - 64800000, by omega, by omega, .inr (.inr (.inl ⟨by omega, by rw [if_neg h1, if_neg h2, if_pos h3], ?_⟩))⟩
       by_cases h0 : b = 97200000
       · subst h0; decide
       · rw [if_neg (by omega), if_neg (by omega), if_neg (by omega)]
         congr 2; omega
     · refine ⟨129600000 - b, by omega, by omega, .inr (.inr (.inr ⟨by omega, by rw [if_neg h1, if_neg h2, if_neg h3], ?_⟩))⟩
       rw [if_pos (by omega)]
       congr 1; omega
theorem bf {x : Int} (h : x ≤ 16200000) : yo x = kW x := if_pos h
theorem gz {x : Int} (h : 0 ≤ x) (h2 : x ≤ 16200000) : yo (32400000 - x) = jB x := by
 by_cases h0 : x = 16200000
 · subst h0; decide
 · unfold yo
   rw [if_neg (by omega)]
   congr 1; omega
theorem Dh {x : Int} (h : 0 ≤ x) (h2 : x ≤ 32400000) : -(15 * 1073741824) ≤ yo x * yo x + yo (32400000 - x) * yo (32400000 - x) - 1152921504606846976 ∧ yo x * yo x + yo (32400000 - x) * yo (32400000 - x) - 1152921504606846976 ≤ 15 * 1073741824 := by
 by_cases h3 : x ≤ 16200000
 · rw [bf h3, gz h h3]
   exact Yn h h3
 · have e1 := gz (x := 32400000 - x) (by omega) (by omega)
   rw [show 32400000 - (32400000 - x) = x from by omega] at e1
   rw [e1, bf (x := 32400000 - x) (by omega)]
   have := Yn (a := 32400000 - x) (by omega) (by omega)
   omega
theorem iF (a : Int) : -(15 * 1073741824) ≤ qV a * qV a + qX a * qX a - 1152921504606846976 ∧ qV a * qV a + qX a * qX a - 1152921504606846976 ≤ 15 * 1073741824 := by
 obtain ⟨x, h1, h2, h⟩ := Rj a
 have := Dh h1 h2
 rcases h with ⟨_, h, h'⟩ | ⟨_, h, h'⟩ | ⟨_, h, h'⟩ | ⟨_, h, h'⟩ <;> rw [h, h'] <;> simpa [Int.neg_mul_neg] using this
end
theorem zO (n : Int) : -1073741824 ≤ 2 * (jG 2 n 1073741824 * 1073741824 - n) ∧ 2 * (jG 2 n 1073741824 * 1073741824 - n) ≤ 1073741824 := by
 have := QC n 1073741824 (by decide)
 simpa using this
def vS : List Int → Int → Int
 | [], _ => 0
 | c :: cs, x => c + x * vS cs x
def QN : List (List Int) → Int → Int → Int
 | [], _, _ => 0
 | p :: ps, x, y => vS p x + y * QN ps x y
def Ke : List Int → List Int → List Int
 | [], q => q
 | p, [] => p
 | a :: p, b :: q => (a + b) :: Ke p q
theorem Jh (x : Int) : ∀ p q : List Int, vS (Ke p q) x = vS p x + vS q x
 | [], q => by simp [Ke, vS]
 | a :: p, [] => by simp [Ke, vS]
 | a :: p, b :: q => by
   simp only [Ke, vS, Jh x p q]
   grind
def BQ (k : Int) : List Int → List Int
 | [] => []
 | a :: p => k * a :: BQ k p
theorem YO (k x : Int) : ∀ p : List Int, vS (BQ k p) x = k * vS p x
 | [] => by simp [BQ, vS]
 | a :: p => by
   simp only [BQ, vS, YO k x p]
   grind
def iG : List Int → List Int → List Int
 | [], _ => []
 | a :: p, q => Ke (BQ a q) (0 :: iG p q)
theorem dz (x : Int) : ∀ p q : List Int, vS (iG p q) x = vS p x * vS q x
 | [], q => by simp [iG, vS]
 | a :: p, q => by
   simp only [iG, Jh, YO, vS, dz x p q]
   grind
def Ys : List (List Int) → List (List Int) → List (List Int)
 | [], q => q
 | p, [] => p
 | a :: p, b :: q => Ke a b :: Ys p q
theorem QH (x y : Int) : ∀ p q : List (List Int), QN (Ys p q) x y = QN p x y + QN q x y
 | [], q => by simp [Ys, QN]
 | a :: p, [] => by simp [Ys, QN]
 | a :: p, b :: q => by
   simp only [Ys, QN, Jh, QH x y p q]
   grind
def KF (a : List Int) : List (List Int) → List (List Int)
 | [] => []
 | b :: q => iG a b :: KF a q
theorem YP (a : List Int) (x y : Int) : ∀ q : List (List Int), QN (KF a q) x y = vS a x * QN q x y
 | [] => by simp [KF, QN]
 | b :: q => by
   simp only [KF, QN, dz, YP a x y q]
   grind
def BS : List (List Int) → List (List Int) → List (List Int)
 | [], _ => []
 | a :: p, q => Ys (KF a q) ([] :: BS p q)
theorem YQ (x y : Int) : ∀ p q : List (List Int), QN (BS p q) x y = QN p x y * QN q x y
 | [], q => by simp [BS, QN]
 | a :: p, q => by
   simp only [BS, QH, YP, QN, vS, YQ x y p q]
   grind
def Di (p : List Int) : List (List Int) := [p]
theorem nk (p : List Int) (x y : Int) : QN (Di p) x y = vS p x := by simp [Di, QN]
def Ny : List Int → List (List Int)
 | [] => []
 | a :: p => [a] :: Ny p
theorem nn (x y : Int) : ∀ p : List Int, QN (Ny p) x y = vS p y
 | [] => by simp [Ny, QN, vS]
 | a :: p => by simp [Ny, QN, vS, nn x y p]
def shift : List Int → List (List Int)
 | [] => []
 | a :: p => Ys [[a]] (BS [[0, 1], [1]] (shift p))
theorem Kf (x y : Int) : ∀ p : List Int, QN (shift p) x y = vS p (x + y)
 | [] => by simp [shift, QN, vS]
 | a :: p => by
   simp only [shift, QH, YQ, QN, vS, Kf x y p]
   grind
def Nz : List Int → List (List Int)
 | [] => []
 | _ :: p => Ys (Di p) ([] :: Nz p)
theorem nu (x y : Int) : ∀ p : List Int, vS p x - vS p y = (x - y) * QN (Nz p) x y
 | [] => by simp [Nz, QN, vS]
 | a :: p => by
   have ih := nu x y p
   simp only [Nz, QH, nk, QN, vS]
   grind
def NA : List Int → Int → Int
 | [], _ => 0
 | c :: cs, X => c.natAbs + X * NA cs X
theorem zj {x v X V : Int} (hx : -X ≤ x ∧ x ≤ X) (hv : -V ≤ v ∧ v ≤ V) : -(X * V) ≤ x * v ∧ x * v ≤ X * V := by
 have hX : 0 ≤ X := by omega
 have hV : 0 ≤ V := by omega
 have a := Int.mul_nonneg (show 0 ≤ X - x by omega) (show 0 ≤ V - v by omega)
 have b := Int.mul_nonneg (show 0 ≤ X + x by omega) (show 0 ≤ V + v by omega)
 have c := Int.mul_nonneg (show 0 ≤ X - x by omega) (show 0 ≤ V + v by omega)
 have d := Int.mul_nonneg (show 0 ≤ X + x by omega) (show 0 ≤ V - v by omega)
 have e1 : (X - x) * (V - v) = X * V - X * v - x * V + x * v := by grind
 have e2 : (X + x) * (V + v) = X * V + X * v + x * V + x * v := by grind
 have e3 : (X - x) * (V + v) = X * V + X * v - x * V - x * v := by grind
 have e4 : (X + x) * (V - v) = X * V - X * v + x * V - x * v := by grind
 omega
theorem BU {x X : Int} (hx : -X ≤ x ∧ x ≤ X) : ∀ p : List Int, -(NA p X) ≤ vS p x ∧ vS p x ≤ NA p X
 | [] => by simp [vS, NA]
 | c :: cs => by
   have ih := BU hx cs
   have h := zj hx ih
   simp only [vS, NA]
   omega
def Py : List (List Int) → Int → Int → Int
 | [], _, _ => 0
 | p :: ps, X, Y => NA p X + Y * Py ps X Y
theorem Kg {x X y Y : Int} (hx : -X ≤ x ∧ x ≤ X) (hy : -Y ≤ y ∧ y ≤ Y) : ∀ p : List (List Int), -(Py p X Y) ≤ QN p x y ∧ QN p x y ≤ Py p X Y
 | [] => by simp [QN, Py]
 | c :: cs => by
   have ih := Kg hx hy cs
   have h := zj hy ih
   have h1 := BU hx c
   simp only [QN, Py]
   omega
def tp : List Int := [0, 15511210043330985984000000 * 2147483648^24, 0, -2585201673888497664000000 * 2147483648^22, 0, 129260083694424883200000 * 2147483648^20, 0, -3077621040343449600000 * 2147483648^18, 0, 42744736671436800000 * 2147483648^16, 0, -388588515194880000 * 2147483648^14, 0, 2490952020480000 * 2147483648^12, 0, -11861676288000 * 2147483648^10, 0, 43609104000 * 2147483648^8, 0, -127512000 * 2147483648^6, 0, 303600 * 2147483648^4, 0, -600 * 2147483648^2, 0, 1 * 2147483648^0]
def kp : List Int := [15511210043330985984000000 * 2147483648^25, 0, -7755605021665492992000000 * 2147483648^23, 0, 646300418472124416000000 * 2147483648^21, 0, -21543347282404147200000 * 2147483648^19, 0, 384702630042931200000 * 2147483648^17, 0, -4274473667143680000 * 2147483648^15, 0, 32382376266240000 * 2147483648^13, 0, -177925144320000 * 2147483648^11, 0, 741354768000 * 2147483648^9, 0, -2422728000 * 2147483648^7, 0, 6375600 * 2147483648^5, 0, -13800 * 2147483648^3, 0, 25 * 2147483648^1, 0]
def mp : Int := 15511210043330985984000000 * 2147483648^25
def tT (t : Int) : Int := vS tp t
def kT (t : Int) : Int := vS kp t
def Pz : List (List Int) := Ys (KF [mp] (shift tp)) (KF [-1] (Ys (BS (Di tp) (Ny kp)) (BS (Di kp) (Ny tp))))
def PD : List (List Int) := Ys (KF [mp] (shift kp)) (KF [-1] (Ys (BS (Di kp) (Ny kp)) (KF [-1] (BS (Di tp) (Ny tp)))))
theorem PE : Py Pz 3373259430 3373259430 * 1000000000000 ≤ mp * mp := by decide +kernel
theorem PF : Py PD 3373259430 3373259430 * 1000000000000 ≤ mp * mp := by decide +kernel
theorem ny {x y : Int} (hx : -3373259430 ≤ x ∧ x ≤ 3373259430) (hy : -3373259430 ≤ y ∧ y ≤ 3373259430) :
 -(mp * mp) ≤ 1000000000000 * (mp * tT (x + y) - (tT x * kT y + kT x * tT y)) ∧ 1000000000000 * (mp * tT (x + y) - (tT x * kT y + kT x * tT y)) ≤ mp * mp := by
 have h := Kg hx hy Pz
 have hb := PE
 have e : QN Pz x y = mp * tT (x + y) - (tT x * kT y + kT x * tT y) := by
  unfold Pz tT kT
  simp only [QH, YP, YQ, nk, nn, Kf, vS]
  grind
 rw [e] at h
 omega
theorem BV {x y : Int} (hx : -3373259430 ≤ x ∧ x ≤ 3373259430) (hy : -3373259430 ≤ y ∧ y ≤ 3373259430) :
 -(mp * mp) ≤ 1000000000000 * (mp * kT (x + y) - (kT x * kT y - tT x * tT y)) ∧ 1000000000000 * (mp * kT (x + y) - (kT x * kT y - tT x * tT y)) ≤ mp * mp := by
 have h := Kg hx hy PD
 have hb := PF
 have e : QN PD x y = mp * kT (x + y) - (kT x * kT y - tT x * tT y) := by
  unfold PD tT kT
  simp only [QH, YP, YQ, nk, nn, Kf, vS]
  grind
 rw [e] at h
 omega
def gp : List Int := [39916800 * 2147483648^10, -6652800 * 2147483648^8, 332640 * 2147483648^6, -7920 * 2147483648^4, 110 * 2147483648^2, -1]
def hp : List Int := [3628800 * 2147483648^10, -1814400 * 2147483648^8, 151200 * 2147483648^6, -5040 * 2147483648^4, 90 * 2147483648^2, -1]
def Fy : List Int := [0, 39916800 * 2147483648^10, 0, -6652800 * 2147483648^8, 0, 332640 * 2147483648^6, 0, -7920 * 2147483648^4, 0, 110 * 2147483648^2, 0, -1]
def RI : List Int := [3628800 * 2147483648^10, 0, -1814400 * 2147483648^8, 0, 151200 * 2147483648^6, 0, -5040 * 2147483648^4, 0, 90 * 2147483648^2, 0, -1]
theorem Dj (t : Int) : vS Fy t = t * vS gp (t * t) := by simp only [Fy, gp, vS]; grind
theorem Dk (t : Int) : vS RI t = vS hp (t * t) := by simp only [RI, hp, vS]; grind
theorem Fj (u : Int) : vS gp (2147483648 * u) = 2147483648^5 * (39916800 * 2147483648^5 - 6652800 * u * 2147483648^4 + 332640 * u^2 * 2147483648^3 - 7920 * u^3 * 2147483648^2 + 110 * u^4 * 2147483648 - u^5) := by
 simp only [gp, vS]; grind
theorem Fk (u : Int) : vS hp (2147483648 * u) = 2147483648^5 * (3628800 * 2147483648^5 - 1814400 * u * 2147483648^4 + 151200 * u^2 * 2147483648^3 - 5040 * u^3 * 2147483648^2 + 90 * u^4 * 2147483648 - u^5) := by
 simp only [hp, vS]; grind
theorem Dm : Py (Nz gp) (1325000000 * 2147483648) (1325000000 * 2147483648) * 5 ≤ 39916800 * 2147483648^8 := by decide +kernel
theorem Dn : Py (Nz hp) (1325000000 * 2147483648) (1325000000 * 2147483648) * 10 ≤ 6 * (3628800 * 2147483648^8) := by decide +kernel
theorem Fl : NA (Ke tp (BQ (-(15511210043330985984000000 / 39916800) * 2147483648^14) Fy)) 1686629713 * 100000000000 ≤ mp := by decide +kernel
theorem Fm : NA (Ke kp (BQ (-(15511210043330985984000000 / 3628800) * 2147483648^15) RI)) 1686629713 * 5000000000 ≤ mp := by decide +kernel
theorem iH {u t : Int} (hu : 0 ≤ u) (hU : u ≤ 1325000000) (h : -2147483648 ≤ 2 * (2147483648 * u - t * t) ∧ 2 * (2147483648 * u - t * t) ≤ 2147483648) (ht : 0 ≤ t) (hT : t ≤ 1686629713) :
 -(5 * 2147483648^9 * 39916800) ≤ 50 * (vS gp (2147483648 * u) - vS gp (t * t)) ∧ 50 * (vS gp (2147483648 * u) - vS gp (t * t)) ≤ 5 * 2147483648^9 * 39916800 ∧
 -(3 * 2147483648^9 * 3628800) ≤ 10 * (vS hp (2147483648 * u) - vS hp (t * t)) ∧ 10 * (vS hp (2147483648 * u) - vS hp (t * t)) ≤ 3 * 2147483648^9 * 3628800 := by
 have t0 := zx t
 have t1 := Ja ht hT
 have b1 := Kg (x := 2147483648 * u) (X := 1325000000 * 2147483648) (y := t * t) (Y := 1325000000 * 2147483648) (by omega) (by omega) (Nz gp)
 have b2 := Kg (x := 2147483648 * u) (X := 1325000000 * 2147483648) (y := t * t) (Y := 1325000000 * 2147483648) (by omega) (by omega) (Nz hp)
 have e1 := nu (2147483648 * u) (t * t) gp
 have e2 := nu (2147483648 * u) (t * t) hp
 have d1 := Dm
 have d2 := Dn
 have m1 := zj (x := 2147483648 * u - t * t) (X := 1073741824) (by omega) b1
 have m2 := zj (x := 2147483648 * u - t * t) (X := 1073741824) (by omega) b2
 rw [← e1] at m1
 rw [← e2] at m2
 omega
theorem UD {a : Int} (h : 0 ≤ a) (h2 : a ≤ 16200000) : -(5 * mp) ≤ 4 * (mp * kW a - 1073741824 * tT (tA a)) ∧ 4 * (mp * kW a - 1073741824 * tT (tA a)) ≤ 5 * mp := by
 have ht := xx h h2
 have hu := bK ht.1 ht.2
 obtain ⟨A, eA, a1, a2⟩ := du hu.1 hu.2
 have m1 := jZ (tA a) (tA a)
 have m2 := jZ (tA a) (bJ (zf (tA a) (tA a)))
 have eg := Fj (zf (tA a) (tA a))
 rw [← eA] at eg
 have hd := iH hu.1 hu.2 m1 ht.1 ht.2
 have hl := BU (x := tA a) (X := 1686629713) (by omega) (Ke tp (BQ (-(15511210043330985984000000 / 39916800) * 2147483648^14) Fy))
 have hb := Fl
 rw [Jh, YO, Dj] at hl
 unfold kW uA tT
 clear eA
 generalize tA a = t at *
 generalize zf t t = u at *
 generalize bJ u = r at *
 generalize zf t r = v at *
 generalize hS : (v + 1) / 2 = S at *
 generalize vS gp (2147483648 * u) = g0 at *
 generalize vS gp (t * t) = g at *
 generalize vS tp t = T at *
 have k1 := zj (x := t) (X := 1686629713) (v := 10 * (39916800 * 2147483648^9 * r - g)) (V := 11 * 39916800 * 2147483648^9) (by omega) (by omega)
 have e3 : t * (10 * (39916800 * 2147483648^9 * r - g)) = 10 * (39916800 * 2147483648^9 * (t * r)) - 10 * (t * g) := by grind
 rw [e3] at k1
 generalize t * r = tr at *
 generalize t * g = tg at *
 unfold mp at *
 omega
theorem Yo {a : Int} (h : 0 ≤ a) (h2 : a ≤ 16200000) : -(3 * mp) ≤ 2 * (mp * jB a - 1073741824 * kT (tA a)) ∧ 2 * (mp * jB a - 1073741824 * kT (tA a)) ≤ 3 * mp := by
 have ht := xx h h2
 have hu := bK ht.1 ht.2
 obtain ⟨B, eB, a1, a2⟩ := dw hu.1 hu.2
 have m1 := jZ (tA a) (tA a)
 have eg := Fk (zf (tA a) (tA a))
 rw [← eB] at eg
 have hd := iH hu.1 hu.2 m1 ht.1 ht.2
 have hl := BU (x := tA a) (X := 1686629713) (by omega) (Ke kp (BQ (-(15511210043330985984000000 / 3628800) * 2147483648^15) RI))
 have hb := Fm
 rw [Jh, YO, Dk] at hl
 unfold jB uA kT
 clear eB
 generalize tA a = t at *
 generalize zf t t = u at *
 generalize xj u = r at *
 generalize hS : (r + 1) / 2 = S at *
 generalize vS hp (2147483648 * u) = g0 at *
 generalize vS hp (t * t) = g at *
 generalize vS kp t = T at *
 unfold mp at *
 omega
theorem gQ : 0 < mp := by decide +kernel
theorem Rk : kT 0 = mp := by decide +kernel
def iI : List Int → Bool
 | [] => true
 | [_] => true
 | _ :: b :: p => (b == 0) && iI p
theorem Kh (x : Int) : ∀ p : List Int, iI p = true → vS p (-x) = vS p x
 | [], _ => rfl
 | [a], _ => by simp [vS]
 | a :: b :: p, h => by
   simp only [iI, Bool.and_eq_true, beq_iff_eq] at h
   obtain ⟨rfl, h⟩ := h
   have ih := Kh x p h
   simp only [vS, ih]
   grind
theorem iJ (x : Int) : kT (-x) = kT x := Kh x kp (by decide +kernel)
def Rl : List Int := tp.tail
theorem iK (x : Int) : tT (-x) = -tT x := by
 have e : ∀ y, tT y = y * vS Rl y := fun y => by
  show vS tp y = _
  have : tp = 0 :: Rl := by decide +kernel
  rw [this]; simp [vS]
 rw [e, e, Kh x Rl (by decide +kernel)]
 grind
theorem Fp {x : Int} (hx : -3373259430 ≤ x ∧ x ≤ 3373259430) : 1000000000000 * (kT x * kT x + tT x * tT x) ≤ 1000000000001 * (mp * mp) := by
 have h := BV hx (y := -x) (by omega)
 rw [show x + -x = 0 from by omega, Rk, iJ, iK] at h
 have e : kT x * kT x - tT x * -tT x = kT x * kT x + tT x * tT x := by grind
 rw [e] at h
 omega
def mq : Int := mp + mp / 1000000000
theorem Fq : 1000000000001 * (mp * mp) ≤ 1000000000000 * (mq * mq) := by decide +kernel
theorem Ki : 0 ≤ mq := by decide +kernel
theorem dA {x : Int} (hx : -3373259430 ≤ x ∧ x ≤ 3373259430) : (-mq ≤ kT x ∧ kT x ≤ mq) ∧ (-mq ≤ tT x ∧ tT x ≤ mq) := by
 have h := Fp hx
 have hq := Fq
 have a := zx (kT x)
 have b := zx (tT x)
 have h1 : kT x * kT x ≤ mq * mq := by omega
 have h2 : tT x * tT x ≤ mq * mq := by omega
 have k1 := gm Ki h1
 have k2 := gm (a := -kT x) Ki (by rw [Int.neg_mul_neg]; exact h1)
 have k3 := gm Ki h2
 have k4 := gm (a := -tT x) Ki (by rw [Int.neg_mul_neg]; exact h2)
 omega
theorem Rm : 0 ≤ mp - kT 1 ∧ (mp - kT 1) * 1000000000000 ≤ mp := by decide +kernel
theorem Rn : 0 ≤ tT 1 ∧ tT 1 * 2147483648 ≤ mp := by decide +kernel
theorem YR {s : Int} (hs : -3373259429 ≤ s ∧ s ≤ 3373259429) :
 (-(mp + mp / 100) ≤ 2147483648 * (tT (s + 1) - tT s) ∧ 2147483648 * (tT (s + 1) - tT s) ≤ mp + mp / 100) ∧ (-(mp + mp / 100) ≤ 2147483648 * (kT (s + 1) - kT s) ∧ 2147483648 * (kT (s + 1) - kT s) ≤ mp + mp / 100) := by
 have h := ny (x := s) (y := 1) (by omega) (by omega)
 have h' := BV (x := s) (y := 1) (by omega) (by omega)
 have hb := dA (x := s) (by omega)
 have k1 := Rm
 have t1 := Rn
 have hm := gQ
 have hq := Ki
 have a1 := zj (x := tT s) (v := mp - kT 1) (X := mq) (V := mp / 1000000000000 + 1) hb.2 (by omega)
 have a2 := zj (x := kT s) (v := mp - kT 1) (X := mq) (V := mp / 1000000000000 + 1) hb.1 (by omega)
 have a3 := zj (x := kT s) (v := 2147483648 * tT 1) (X := mq) (V := mp) hb.1 (by omega)
 have a4 := zj (x := tT s) (v := 2147483648 * tT 1) (X := mq) (V := mp) hb.2 (by omega)
 have e1 : tT s * (mp - kT 1) = mp * tT s - tT s * kT 1 := by grind
 have e2 : kT s * (mp - kT 1) = mp * kT s - kT s * kT 1 := by grind
 have e3 : kT s * (2147483648 * tT 1) = 2147483648 * (kT s * tT 1) := by grind
 have e4 : tT s * (2147483648 * tT 1) = 2147483648 * (tT s * tT 1) := by grind
 rw [e1] at a1
 rw [e2] at a2
 rw [e3] at a3
 rw [e4] at a4
 have hnum : mq * mp + 2147483648 * (mq * (mp / 1000000000000 + 1)) + 2147483648 * (mp * mp / 1000000000000 + 1) ≤ mp * (mp + mp / 100) := by decide +kernel
 have f1 : mp * (2147483648 * (tT (s + 1) - tT s)) = 2147483648 * (mp * tT (s + 1)) - 2147483648 * (mp * tT s) := by grind
 have f2 : mp * (2147483648 * (kT (s + 1) - kT s)) = 2147483648 * (mp * kT (s + 1)) - 2147483648 * (mp * kT s) := by grind
 have g1 : mp * (2147483648 * (tT (s + 1) - tT s)) ≤ mp * (mp + mp / 100) := by
  rw [f1]; generalize mp * (mp + mp / 100) = R at *; generalize mp * mp = MM at *; generalize mq * mp = QM at *; generalize mq * (mp / 1000000000000 + 1) = Z at *; omega
 have g2 : mp * -(mp + mp / 100) ≤ mp * (2147483648 * (tT (s + 1) - tT s)) := by
  rw [f1, Int.mul_neg]; generalize mp * (mp + mp / 100) = R at *; generalize mp * mp = MM at *; generalize mq * mp = QM at *; generalize mq * (mp / 1000000000000 + 1) = Z at *; omega
 have g3 : mp * (2147483648 * (kT (s + 1) - kT s)) ≤ mp * (mp + mp / 100) := by
  rw [f2]; generalize mp * (mp + mp / 100) = R at *; generalize mp * mp = MM at *; generalize mq * mp = QM at *; generalize mq * (mp / 1000000000000 + 1) = Z at *; omega
 have g4 : mp * -(mp + mp / 100) ≤ mp * (2147483648 * (kT (s + 1) - kT s)) := by
  rw [f2, Int.mul_neg]; generalize mp * (mp + mp / 100) = R at *; generalize mp * mp = MM at *; generalize mq * mp = QM at *; generalize mq * (mp / 1000000000000 + 1) = Z at *; omega
 exact ⟨⟨Int.le_of_mul_le_mul_left g2 hm, Int.le_of_mul_le_mul_left g1 hm⟩, Int.le_of_mul_le_mul_left g4 hm, Int.le_of_mul_le_mul_left g3 hm⟩
theorem Tx : 0 ≤ mp - tT 3373259426 ∧ (mp - tT 3373259426) * 1000000000000 ≤ mp ∧ 0 ≤ kT 3373259426 ∧ kT 3373259426 * 12000000000 ≤ mp := by decide +kernel
theorem iL : 1000000000000 * (mq * (mp / 1000000000000 + 1)) + 1000000000000 * (mq * (mp / 12000000000 + 1)) + mp * mp ≤ 100 * (mp * mp) := by decide +kernel
theorem comp {w : Int} (hw : -3373259430 ≤ w ∧ w ≤ 3373259430) :
 (-mp ≤ 10000000000 * (tT (3373259426 + w) - kT w) ∧ 10000000000 * (tT (3373259426 + w) - kT w) ≤ mp) ∧ (-mp ≤ 10000000000 * (kT (3373259426 + w) + tT w) ∧ 10000000000 * (kT (3373259426 + w) + tT w) ≤ mp) := by
 have h := ny (x := 3373259426) (by omega) hw
 have h' := BV (x := 3373259426) (by omega) hw
 have hb := dA hw
 have q := Tx
 have hm := gQ
 have hn := iL
 have a1 := zj (x := kT w) (v := mp - tT 3373259426) (X := mq) (V := mp / 1000000000000 + 1) hb.1 (by omega)
 have a2 := zj (x := tT w) (v := mp - tT 3373259426) (X := mq) (V := mp / 1000000000000 + 1) hb.2 (by omega)
 have a3 := zj (x := kT w) (v := kT 3373259426) (X := mq) (V := mp / 12000000000 + 1) hb.1 (by omega)
 have a4 := zj (x := tT w) (v := kT 3373259426) (X := mq) (V := mp / 12000000000 + 1) hb.2 (by omega)
 have e1 : kT w * (mp - tT 3373259426) = mp * kT w - tT 3373259426 * kT w := by grind
 have e2 : tT w * (mp - tT 3373259426) = mp * tT w - tT 3373259426 * tT w := by grind
 have e3 : kT w * kT 3373259426 = kT 3373259426 * kT w := by grind
 have e4 : tT w * kT 3373259426 = kT 3373259426 * tT w := by grind
 rw [e1] at a1
 rw [e2] at a2
 rw [e3] at a3
 rw [e4] at a4
 have f1 : mp * (10000000000 * (tT (3373259426 + w) - kT w)) = 10000000000 * (mp * tT (3373259426 + w)) - 10000000000 * (mp * kT w) := by grind
 have f2 : mp * (10000000000 * (kT (3373259426 + w) + tT w)) = 10000000000 * (mp * kT (3373259426 + w)) + 10000000000 * (mp * tT w) := by grind
 have g1 : mp * (10000000000 * (tT (3373259426 + w) - kT w)) ≤ mp * mp := by rw [f1]; generalize mp * mp = MM at *; generalize mq * (mp / 1000000000000 + 1) = Z at *; generalize mq * (mp / 12000000000 + 1) = Y at *; omega
 have g2 : mp * -mp ≤ mp * (10000000000 * (tT (3373259426 + w) - kT w)) := by rw [f1, Int.mul_neg]; generalize mp * mp = MM at *; generalize mq * (mp / 1000000000000 + 1) = Z at *; generalize mq * (mp / 12000000000 + 1) = Y at *; omega
 have g3 : mp * (10000000000 * (kT (3373259426 + w) + tT w)) ≤ mp * mp := by rw [f2]; generalize mp * mp = MM at *; generalize mq * (mp / 1000000000000 + 1) = Z at *; generalize mq * (mp / 12000000000 + 1) = Y at *; omega
 have g4 : mp * -mp ≤ mp * (10000000000 * (kT (3373259426 + w) + tT w)) := by rw [f2, Int.mul_neg]; generalize mp * mp = MM at *; generalize mq * (mp / 1000000000000 + 1) = Z at *; generalize mq * (mp / 12000000000 + 1) = Y at *; omega
 exact ⟨⟨Int.le_of_mul_le_mul_left g2 hm, Int.le_of_mul_le_mul_left g1 hm⟩, Int.le_of_mul_le_mul_left g4 hm, Int.le_of_mul_le_mul_left g3 hm⟩
def kz (k : Int) (p P : Int) : Prop := -(k * mp) ≤ 10 * (mp * p - 1073741824 * P) ∧ 10 * (mp * p - 1073741824 * P) ≤ k * mp
theorem kz.shift {k p s t : Int} (h : kz k p (tT t)) (hs : s = t - 1 ∨ s = t ∨ s = t + 1) (hb : -3373259428 ≤ t ∧ t ≤ 3373259428) : kz (k + 6) p (tT s) := by
 unfold kz at *
 have hm := gQ
 have e : (k + 6) * mp = k * mp + 6 * mp := by grind
 rw [e]
 rcases hs with rfl | rfl | rfl
 · have := (YR (s := t - 1) (by omega)).1
   rw [show t - 1 + 1 = t from by omega] at this
   generalize k * mp = km at *
   omega
 · generalize k * mp = km at *
   omega
 · have := (YR (s := t) (by omega)).1
   generalize k * mp = km at *
   omega
theorem kz.shiftK {k p s t : Int} (h : kz k p (kT t)) (hs : s = t - 1 ∨ s = t ∨ s = t + 1) (hb : -3373259428 ≤ t ∧ t ≤ 3373259428) : kz (k + 6) p (kT s) := by
 unfold kz at *
 have hm := gQ
 have e : (k + 6) * mp = k * mp + 6 * mp := by grind
 rw [e]
 rcases hs with rfl | rfl | rfl
 · have := (YR (s := t - 1) (by omega)).2
   rw [show t - 1 + 1 = t from by omega] at this
   generalize k * mp = km at *
   omega
 · generalize k * mp = km at *
   omega
 · have := (YR (s := t) (by omega)).2
   generalize k * mp = km at *
   omega
theorem dB {x : Int} (h : 0 ≤ x) (h2 : x ≤ 32400000) : 0 ≤ tA x ∧ tA x ≤ 3373259426 := by unfold tA; omega
theorem BW {x : Int} (h : 0 ≤ x) (h2 : x ≤ 32400000) : kz 23 (yo x) (tT (tA x)) ∧ kz 23 (yo (32400000 - x)) (kT (tA x)) := by
 have hm := gQ
 by_cases h3 : x ≤ 16200000
 · have a := UD h h3
   have b := Yo h h3
   rw [bf h3, gz h h3]
   unfold kz
   omega
 · obtain ⟨z, rfl⟩ : ∃ z, x = 32400000 - z := ⟨32400000 - x, by omega⟩
   have a := UD (a := z) (by omega) (by omega)
   have b := Yo (a := z) (by omega) (by omega)
   rw [gz (by omega) (by omega), show 32400000 - (32400000 - z) = z from by omega, bf (x := z) (by omega)]
   have hz := xx (a := z) (by omega) (by omega)
   have hw : 3373259426 - tA (32400000 - z) = tA z - 1 ∨ 3373259426 - tA (32400000 - z) = tA z ∨ 3373259426 - tA (32400000 - z) = tA z + 1 := by unfold tA; omega
   have s1 : kz 15 (jB z) (kT (tA z)) := by unfold kz; omega
   have s2 : kz 13 (kW z) (tT (tA z)) := by unfold kz; omega
   have s1' := kz.shiftK s1 hw (by omega)
   have s2' := kz.shift s2 hw (by omega)
   generalize hwe : 3373259426 - tA (32400000 - z) = w at *
   have e : tA (32400000 - z) = 3373259426 + -w := by omega
   have c := comp (w := -w) (by omega)
   rw [iJ, iK] at c
   rw [e]
   unfold kz at *
   omega
theorem QI {p q P Q k : Int} (h1 : kz k p P) (h2 : kz k q Q) (hk : 0 ≤ k) (hq : -1073741824 ≤ q ∧ q ≤ 1073741824) (hP : -mq ≤ P ∧ P ≤ mq) :
 -(k * mp * (1073741824 * mp) + 1073741824 * mq * (k * mp)) ≤ 10 * (mp * mp * (p * q) - 1152921504606846976 * (P * Q)) ∧ 10 * (mp * mp * (p * q) - 1152921504606846976 * (P * Q)) ≤ k * mp * (1073741824 * mp) + 1073741824 * mq * (k * mp) := by
 have hm := gQ
 have a := zj (x := 10 * (mp * p - 1073741824 * P)) (v := mp * q) (X := k * mp) (V := 1073741824 * mp) h1 (by
  have b1 := Int.mul_le_mul_of_nonneg_left hq.1 (show 0 ≤ mp by omega)
  have b2 := Int.mul_le_mul_of_nonneg_left hq.2 (show 0 ≤ mp by omega)
  omega)
 have b := zj (x := 1073741824 * P) (v := 10 * (mp * q - 1073741824 * Q)) (X := 1073741824 * mq) (V := k * mp) (by omega) h2
 have e : 10 * (mp * mp * (p * q) - 1152921504606846976 * (P * Q)) = 10 * (mp * p - 1073741824 * P) * (mp * q) + 1073741824 * P * (10 * (mp * q - 1073741824 * Q)) := by grind
 rw [e]
 omega
theorem QS {a : Int} (h : 0 ≤ a) (h2 : a ≤ 32400000) : qV a = yo a := by
 unfold qV
 rw [Qw h (by omega), if_pos h2]
theorem iM {a : Int} (h : 32400000 ≤ a) (h2 : a ≤ 64800000) : qV a = yo (64800000 - a) := by
 by_cases h0 : a = 32400000
 · subst h0; decide
 · unfold qV
   rw [Qw (by omega) (by omega), if_neg (by omega), if_pos h2]
theorem ve (a b : Int) (h : norm a = norm b) : qV a = qV b := by unfold qV; rw [h]
theorem je (a : Int) : qV (a + 32400000) = qX a := ve _ _ (by rw [jD]; unfold norm; omega)
theorem vT (a : Int) : qV (a + 64800000) = -qV a := by
 have hb := zM a
 have e : norm (a + 64800000) = if norm a < 64800000 then norm a + 64800000 else norm a - 64800000 := by unfold norm; split <;> omega
 have e0 : yo 0 = 0 := by decide
 unfold qV
 rw [e]
 generalize norm a = b at *
 by_cases h1 : b ≤ 32400000
 · rw [if_pos (show b < 64800000 by omega), if_pos h1, if_neg (by omega)]
   by_cases h0 : b = 0
   · subst h0; decide
   · rw [if_neg (by omega), if_pos (by omega), show b + 64800000 - 64800000 = b from by omega]
 · by_cases h2 : b ≤ 64800000
   · by_cases h0 : b = 64800000
     · subst h0; decide
     · rw [if_pos (show b < 64800000 by omega), if_neg (by omega), if_neg (by omega), if_neg (by omega), if_neg h1, if_pos h2, show 129600000 - (b + 64800000) = 64800000 - b from by omega]
   · rw [if_neg (show ¬ b < 64800000 by omega)]
     by_cases h3 : b ≤ 97200000
     · rw [if_pos (by omega), if_neg h1, if_neg h2, if_pos h3, Int.neg_neg]
     · rw [if_neg (by omega), if_pos (by omega), if_neg h1, if_neg h2, if_neg h3, Int.neg_neg, show 64800000 - (b - 64800000) = 129600000 - b from by omega]
theorem jS (a : Int) : qX (a + 32400000) = -qV a := by
 rw [← je, show a + 32400000 + 32400000 = a + 64800000 from by omega, vT]
theorem iN {a : Int} (h : 0 ≤ a) (h2 : a ≤ 32400000) : qX a = yo (32400000 - a) := by
 rw [← je, iM (by omega) (by omega)]
 congr 1; omega
theorem Dp {a : Int} (h : 32400000 ≤ a) (h2 : a ≤ 64800000) : qX a = -yo (a - 32400000) := by
 have := jS (a - 32400000)
 rw [show a - 32400000 + 32400000 = a from by omega, QS (by omega) (by omega)] at this
 exact this
theorem kR (a b : Int) (h : norm a = norm b) : qX a = qX b := by
 rw [← je, ← je]
 exact ve _ _ (by unfold norm at *; omega)
def QO (a b : Int) : Prop :=
 (-13958643712 ≤ qV a * qX b + qX a * qV b - 1073741824 * qV (a + b) ∧ qV a * qX b + qX a * qV b - 1073741824 * qV (a + b) ≤ 13958643712) ∧
 (-13958643712 ≤ qX a * qX b - qV a * qV b - 1073741824 * qX (a + b) ∧ qX a * qX b - qV a * qV b - 1073741824 * qX (a + b) ≤ 13958643712)
theorem kz.weak {k l p P : Int} (h : kz k p P) (hl : k ≤ l) : kz l p P := by
 unfold kz at *
 have := Int.mul_le_mul_of_nonneg_right hl (Int.le_of_lt gQ)
 omega
theorem kz.neg {k p P : Int} (h : kz k p P) : kz k (-p) (-P) := by
 unfold kz at *
 rw [Int.mul_neg, Int.mul_neg]
 omega
theorem kz.comp {k l p P Q : Int} (h : kz k p P) (hQ : -mp ≤ 10000000000 * (Q - P) ∧ 10000000000 * (Q - P) ≤ mp) (hl : k + 2 ≤ l) : kz l p Q := by
 unfold kz at *
 have := Int.mul_le_mul_of_nonneg_right hl (Int.le_of_lt gQ)
 have e : (k + 2) * mp = k * mp + 2 * mp := by grind
 rw [e] at this
 have := gQ
 generalize l * mp = lm at *
 generalize k * mp = km at *
 omega
theorem iO {x y : Int} (hx : 0 ≤ x) (hx2 : x ≤ 32400000) (hy : 0 ≤ y) (hy2 : y ≤ 32400000) : kz 31 (qV (x + y)) (tT (tA x + tA y)) ∧ kz 31 (qX (x + y)) (kT (tA x + tA y)) := by
 by_cases h : x + y ≤ 32400000
 · rw [QS (by omega) h, iN (by omega) h]
   have q := BW (x := x + y) (by omega) h
   have hs : tA x + tA y = tA (x + y) - 1 ∨ tA x + tA y = tA (x + y) ∨ tA x + tA y = tA (x + y) + 1 := by unfold tA; omega
   have hb := dB (x := x + y) (by omega) h
   exact ⟨(q.1.shift hs (by omega)).weak (by omega), (q.2.shiftK hs (by omega)).weak (by omega)⟩
 · rw [iM (by omega) (by omega), Dp (by omega) (by omega)]
   obtain ⟨z, hz⟩ : ∃ z, z = x + y - 32400000 := ⟨_, rfl⟩
   rw [show 64800000 - (x + y) = 32400000 - z from by omega, ← hz]
   have q := BW (x := z) (by omega) (by omega)
   have hb := dB (x := z) (by omega) (by omega)
   have hs : tA x + tA y - 3373259426 = tA z - 1 ∨ tA x + tA y - 3373259426 = tA z ∨ tA x + tA y - 3373259426 = tA z + 1 := by subst hz; unfold tA; omega
   have s1 := q.1.shift hs (by omega)
   have s2 := q.2.shiftK hs (by omega)
   have c := comp (w := tA x + tA y - 3373259426) (by omega)
   rw [show 3373259426 + (tA x + tA y - 3373259426) = tA x + tA y from by omega] at c
   exact ⟨s2.comp c.1 (by omega), s1.neg.comp (by rw [Int.sub_neg]; exact c.2) (by omega)⟩
theorem iP : 2 * (23 * mp * (1073741824 * mp) + 1073741824 * mq * (23 * mp)) + 1152921504606846976 * (mp * mp / 100000000000 + 10) + 31 * 1073741824 * (mp * mp) ≤ 130 * 1073741824 * (mp * mp) := by decide +kernel
theorem Dq {x y : Int} (hx : 0 ≤ x) (hx2 : x ≤ 32400000) (hy : 0 ≤ y) (hy2 : y ≤ 32400000) : QO x y := by
 have n := iO hx hx2 hy hy2
 have qx := BW hx hx2
 have qy := BW hy hy2
 have tx := dB hx hx2
 have ty := dB hy hy2
 have bx := dA (x := tA x) (by omega)
 have by' := dA (x := tA y) (by omega)
 have aS := ny (x := tA x) (y := tA y) (by omega) (by omega)
 have aC := BV (x := tA x) (y := tA y) (by omega) (by omega)
 have sx := kJ x
 have cx := uj x
 have sy := kJ y
 have cy := uj y
 have hm := gQ
 have hn := iP
 rw [← QS hx hx2, ← iN hx hx2] at qx
 rw [← QS hy hy2, ← iN hy hy2] at qy
 have p1 := QI qx.1 qy.2 (by decide) cy bx.2
 have p2 := QI qx.2 qy.1 (by decide) sy bx.1
 have p3 := QI qx.2 qy.2 (by decide) cy bx.1
 have p4 := QI qx.1 qy.1 (by decide) sy bx.2
 obtain ⟨n1, n2⟩ := n
 unfold kz at n1 n2
 unfold QO
 have m1 := Int.mul_le_mul_of_nonneg_left n1.1 (Int.le_of_lt hm)
 have m2 := Int.mul_le_mul_of_nonneg_left n1.2 (Int.le_of_lt hm)
 have m3 := Int.mul_le_mul_of_nonneg_left n2.1 (Int.le_of_lt hm)
 have m4 := Int.mul_le_mul_of_nonneg_left n2.2 (Int.le_of_lt hm)
 generalize tT (tA x) = TX at *
 generalize tT (tA y) = TY at *
 generalize kT (tA x) = KX at *
 generalize kT (tA y) = KY at *
 generalize tT (tA x + tA y) = TS at *
 generalize kT (tA x + tA y) = KS at *
 generalize qV x = SX at *
 generalize qV y = SY at *
 generalize qX x = CX at *
 generalize qX y = CY at *
 have e1 : mp * (10 * (mp * qV (x + y) - 1073741824 * TS)) = 10 * (mp * mp * qV (x + y)) - 10 * 1073741824 * (mp * TS) := by grind
 have e2 : mp * (10 * (mp * qX (x + y) - 1073741824 * KS)) = 10 * (mp * mp * qX (x + y)) - 10 * 1073741824 * (mp * KS) := by grind
 have e3 : mp * -(31 * mp) = -(31 * (mp * mp)) := by grind
 have e4 : mp * (31 * mp) = 31 * (mp * mp) := by grind
 rw [e1, e3] at m1
 rw [e1, e4] at m2
 rw [e2, e3] at m3
 rw [e2, e4] at m4
 have hM : 0 < mp * mp := Int.mul_pos hm hm
 have f1 : mp * mp * (SX * CY + CX * SY - 1073741824 * qV (x + y)) = mp * mp * (SX * CY) + mp * mp * (CX * SY) - 1073741824 * (mp * mp * qV (x + y)) := by grind
 have f2 : mp * mp * (CX * CY - SX * SY - 1073741824 * qX (x + y)) = mp * mp * (CX * CY) - mp * mp * (SX * SY) - 1073741824 * (mp * mp * qX (x + y)) := by grind
 have e5 : mp * mp * 13958643712 = 13 * 1073741824 * (mp * mp) := by grind
 have g1 : mp * mp * (SX * CY + CX * SY - 1073741824 * qV (x + y)) ≤ mp * mp * 13958643712 := by
  rw [f1, e5]
  generalize mp * mp * (SX * CY) = u1 at *
  generalize mp * mp * (CX * SY) = u2 at *
  generalize mp * mp * qV (x + y) = u3 at *
  generalize 23 * mp * (1073741824 * mp) + 1073741824 * mq * (23 * mp) = Z at *
  generalize mp * mp = MM at *
  omega
 have g2 : mp * mp * -13958643712 ≤ mp * mp * (SX * CY + CX * SY - 1073741824 * qV (x + y)) := by
  rw [f1, Int.mul_neg, e5]
  generalize mp * mp * (SX * CY) = u1 at *
  generalize mp * mp * (CX * SY) = u2 at *
  generalize mp * mp * qV (x + y) = u3 at *
  generalize 23 * mp * (1073741824 * mp) + 1073741824 * mq * (23 * mp) = Z at *
  generalize mp * mp = MM at *
  omega
 have g3 : mp * mp * (CX * CY - SX * SY - 1073741824 * qX (x + y)) ≤ mp * mp * 13958643712 := by
  rw [f2, e5]
  generalize mp * mp * (CX * CY) = u1 at *
  generalize mp * mp * (SX * SY) = u2 at *
  generalize mp * mp * qX (x + y) = u3 at *
  generalize 23 * mp * (1073741824 * mp) + 1073741824 * mq * (23 * mp) = Z at *
  generalize mp * mp = MM at *
  omega
 have g4 : mp * mp * -13958643712 ≤ mp * mp * (CX * CY - SX * SY - 1073741824 * qX (x + y)) := by
  rw [f2, Int.mul_neg, e5]
  generalize mp * mp * (CX * CY) = u1 at *
  generalize mp * mp * (SX * SY) = u2 at *
  generalize mp * mp * qX (x + y) = u3 at *
  generalize 23 * mp * (1073741824 * mp) + 1073741824 * mq * (23 * mp) = Z at *
  generalize mp * mp = MM at *
  omega
 exact ⟨⟨Int.le_of_mul_le_mul_left g2 hM, Int.le_of_mul_le_mul_left g1 hM⟩, Int.le_of_mul_le_mul_left g4 hM, Int.le_of_mul_le_mul_left g3 hM⟩
theorem QO.turn {a b : Int} (h : QO a b) : QO (a + 32400000) b := by
 unfold QO at *
 rw [show a + 32400000 + b = a + b + 32400000 from by omega, je, jS, je, jS]
 have e1 : qX a * qX b + -qV a * qV b = qX a * qX b - qV a * qV b := by grind
 have e2 : -qV a * qX b - qX a * qV b = -(qV a * qX b + qX a * qV b) := by grind
 rw [e1, e2]
 omega
theorem QO.comm {a b : Int} (h : QO a b) : QO b a := by
 unfold QO at *
 rw [show b + a = a + b from by omega]
 have e1 : qV b * qX a + qX b * qV a = qV a * qX b + qX a * qV b := by grind
 have e2 : qX b * qX a - qV b * qV a = qX a * qX b - qV a * qV b := by grind
 rw [e1, e2]
 exact h
theorem QO.period {a a' b : Int} (h : QO a b) (ha : norm a = norm a') : QO a' b := by
 unfold QO at *
 rw [ve a' a ha.symm, kR a' a ha.symm, ve (a' + b) (a + b) (by unfold norm at *; omega), kR (a' + b) (a + b) (by unfold norm at *; omega)]
 exact h
theorem UE {b : Int} (H : ∀ x, 0 ≤ x → x ≤ 32400000 → QO x b) (a : Int) : QO a b := by
 have hb := zM a
 have e : norm (norm a) = norm a := Qw hb.1 hb.2
 refine QO.period (a := norm a) ?_ e
 generalize norm a = n at *
 by_cases h1 : n ≤ 32400000
 · exact H n (by omega) h1
 · by_cases h2 : n ≤ 64800000
   · have := (H (n - 32400000) (by omega) (by omega)).turn
     rwa [show n - 32400000 + 32400000 = n from by omega] at this
   · by_cases h3 : n ≤ 97200000
     · have := (H (n - 64800000) (by omega) (by omega)).turn.turn
       rwa [show n - 64800000 + 32400000 + 32400000 = n from by omega] at this
     · have := (H (n - 97200000) (by omega) (by omega)).turn.turn.turn
       rwa [show n - 97200000 + 32400000 + 32400000 + 32400000 = n from by omega] at this
theorem adds (a b : Int) : QO a b :=
 UE (fun x hx hx2 => (UE (fun y hy hy2 => Dq hy hy2 hx hx2) b).comm) a
theorem Ji (a : Int) : qV (-a) = -qV a := by
 have hb := zM a
 have e : norm (-a) = if norm a = 0 then 0 else 129600000 - norm a := by unfold norm; split <;> omega
 have e0 : yo 0 = 0 := by decide
 unfold qV
 rw [e]
 generalize norm a = b at *
 by_cases h0 : b = 0
 · subst h0; decide
 · rw [if_neg h0]
   by_cases h1 : b ≤ 32400000
   · rw [if_pos h1]
     by_cases h : b = 32400000
     · subst h; decide
     · rw [if_neg (by omega), if_neg (by omega), if_neg (by omega), show 129600000 - (129600000 - b) = b from by omega]
   · by_cases h2 : b ≤ 64800000
     · rw [if_neg h1, if_pos h2]
       by_cases h : b = 64800000
       · subst h; decide
       · rw [if_neg (by omega), if_neg (by omega), if_pos (by omega), show 129600000 - b - 64800000 = 64800000 - b from by omega]
     · by_cases h3 : b ≤ 97200000
       · rw [if_neg h1, if_neg h2, if_pos h3, Int.neg_neg]
         by_cases h : b = 97200000
         · subst h; decide
         · rw [if_neg (by omega), if_pos (by omega), show 64800000 - (129600000 - b) = b - 64800000 from by omega]
       · rw [if_neg h1, if_neg h2, if_neg h3, Int.neg_neg, if_pos (by omega)]
theorem YS (a : Int) : qX (-a) = qX a := by
 rw [← je, show -a + 32400000 = -(a + 64800000) + 97200000 - 0 from by omega]
 have h1 : qV (-(a + 64800000) + 97200000 - 0) = qV (-(a - 32400000)) := ve _ _ (by unfold norm; omega)
 rw [h1, Ji]
 have h2 := jS (a - 32400000)
 rw [show a - 32400000 + 32400000 = a from by omega] at h2
 omega
theorem subs (a b : Int) : (-13958643712 ≤ qV a * qX b - qX a * qV b - 1073741824 * qV (a - b) ∧ qV a * qX b - qX a * qV b - 1073741824 * qV (a - b) ≤ 13958643712) ∧
 (-13958643712 ≤ qX a * qX b + qV a * qV b - 1073741824 * qX (a - b) ∧ qX a * qX b + qV a * qV b - 1073741824 * qX (a - b) ≤ 13958643712) := by
 have h := adds a (-b)
 unfold QO at h
 rw [Ji, YS, show a + -b = a - b from by omega] at h
 have e1 : qV a * qX b + qX a * -qV b = qV a * qX b - qX a * qV b := by grind
 have e2 : qX a * qX b - qV a * -qV b = qX a * qX b + qV a * qV b := by grind
 rw [e1, e2] at h
 exact h
theorem JU {a : Int} (h : 0 ≤ a) (h2 : a < 16200000) : kW (a + 1) - kW a ≤ 54 ∧ jB a - jB (a + 1) ≤ 84 := by
 have ht := xx h (by omega)
 have ht' := xx (a := a + 1) (by omega) (by omega)
 have hd : tA a ≤ tA (a + 1) ∧ tA (a + 1) ≤ tA a + 105 := by unfold tA; omega
 have hu := bK ht.1 ht.2
 have hu' := bK ht'.1 ht'.2
 have hr := Zi hu.1 hu.2
 have hr' := Zi hu'.1 hu'.2
 unfold kW jB uA
 generalize tA (a + 1) = t' at *
 generalize tA a = t at *
 have htt : 0 ≤ t * t := zx t
 have e : t' * t' - t * t = (t' - t) * (t' + t) := by grind
 have hm : (t' - t) * (t' + t) ≤ 105 * 3373259426 := Int.mul_le_mul (by omega) (by omega) (by omega) (by omega)
 have um := eJ ht.1 hd.1
 have ud : zf t' t' ≤ zf t t + 166 := by unfold zf; omega
 have rm : bJ (zf t' t') ≤ bJ (zf t t) := by
  have : -bJ (zf t t) ≤ -bJ (zf t' t') := YK (f := fun x => -bJ x) (lo := 0) (hi := 1325000000) (fun x a b => by
   have := ZZ a b
   unfold lA at this
   show -bJ x ≤ -bJ (x + 1)
   unfold bJ jm
   omega) hu.1 um hu'.2
  omega
 have cm : xj (zf t t) ≤ xj (zf t' t') + 166 := by
  have : xj (zf t t) + zf t t ≤ xj (zf t' t') + zf t' t' := YK (f := fun x => xj x + x) (lo := 0) (hi := 1325000000) (fun x a b => by
   have := GS a b
   show xj x + x ≤ xj (x + 1) + (x + 1)
   omega) hu.1 um hu'.2
  omega
 have s1 : t' * bJ (zf t' t') ≤ t' * bJ (zf t t) := Int.mul_le_mul_of_nonneg_left rm ht'.1
 have s2 : (t' - t) * bJ (zf t t) ≤ 105 * 2147483648 := Int.mul_le_mul (by omega) hr.2 (by omega) (by decide)
 have e2 : (t' - t) * bJ (zf t t) = t' * bJ (zf t t) - t * bJ (zf t t) := by grind
 constructor
 · generalize bJ (zf t' t') = r' at *
   generalize bJ (zf t t) = r at *
   unfold zf
   omega
 · omega
theorem EU {a : Int} (h : 0 ≤ a) (h2 : a ≤ 16200000) : 46 * a - 1 ≤ kW a := by
 have ht := xx h h2
 have hd : 104 * a ≤ tA a := by unfold tA; omega
 have hu := bK ht.1 ht.2
 have hr := Zi hu.1 hu.2
 unfold kW uA
 generalize bJ (zf (tA a) (tA a)) = r at *
 generalize tA a = t at *
 have : t * 1926000000 ≤ t * r := Int.mul_le_mul_of_nonneg_left hr.1 ht.1
 unfold zf
 omega
theorem EV {a : Int} (h : 0 ≤ a) (h2 : a ≤ 16200000) : kW a ≤ 53 * a := by
 have ht := xx h h2
 have hd : tA a ≤ 105 * a := by unfold tA; omega
 have hu := bK ht.1 ht.2
 have hr := Zi hu.1 hu.2
 unfold kW uA
 generalize bJ (zf (tA a) (tA a)) = r at *
 generalize tA a = t at *
 have : t * r ≤ t * 2147483648 := Int.mul_le_mul_of_nonneg_left hr.2 ht.1
 unfold zf
 omega
theorem Jj {a b : Int} (h : 0 ≤ a) (h1 : a ≤ b) (h2 : b ≤ 32400000) : qV a ≤ qV b := by
 rw [QS h (by omega), QS (by omega) h2]
 by_cases hb : b ≤ 16200000
 · rw [bf (by omega), bf hb]
   exact Qx h h1 hb
 · have eb := gz (x := 32400000 - b) (by omega) (by omega)
   rw [show 32400000 - (32400000 - b) = b from by omega] at eb
   rw [eb]
   by_cases ha : a ≤ 16200000
   · rw [bf ha]
     have := YL h ha
     have := Qy (a := 32400000 - b) (by omega) (by omega)
     omega
   · have ea := gz (x := 32400000 - a) (by omega) (by omega)
     rw [show 32400000 - (32400000 - a) = a from by omega] at ea
     rw [ea]
     exact gk (by omega) (by omega) (by omega)
theorem Aw {d E : Int} (hd : -32400000 ≤ d ∧ d ≤ 32400000) (h : -E ≤ qV d ∧ qV d ≤ E) (hE : E < 759250125) : -(E + 1) ≤ 46 * d ∧ 46 * d ≤ E + 1 := by
 have key : ∀ x : Int, 0 ≤ x → x ≤ 32400000 → qV x ≤ E → 46 * x ≤ E + 1 := by
  intro x h0 h1 h2
  by_cases h3 : x ≤ 16200000
  · rw [QS h0 h1, bf h3] at h2
    have := EU h0 h3
    omega
  · have := Jj (a := 16200000) (b := x) (by decide) (by omega) h1
    have e : qV 16200000 = 759250125 := by decide
    omega
 rcases Int.le_total 0 d with h0 | h0
 · have := key d h0 hd.2 h.2
   omega
 · have := key (-d) (by omega) (by omega) (by rw [Ji]; omega)
   omega
theorem Kj {m n : Int} (hn : 0 ≤ n) (hnm : n ≤ m) (hm : 0 < m) :
 0 ≤ qX (kZ m n) * n - qV (kZ m n) * m ∧ qX (kZ m n) * n - qV (kZ m n) * m ≤ 138 * m := by
 obtain ⟨g, hg, h1, h2, h3⟩ := JJ m n
 rw [hg]
 have hn45 := BG
 have hg45 : g ≤ 16200000 := by omega
 have p0 : qV g * m ≤ qX g * n := by
  rcases h2 with h2 | h2
  · subst h2
    have e0 : qV ((0 : Nat) : Int) = 0 := by decide
    have e1 : qX ((0 : Nat) : Int) = 1073741824 := by decide
    rw [e0, e1]; omega
  · exact of_decide_eq_true h2
 refine ⟨by omega, ?_⟩
 by_cases he : g = 16200000
 · have e0 : qV (16200000 : Int) = 759250125 := by decide
   have e1 : qX (16200000 : Int) = 759250125 := by decide
   rw [he] at *
   rw [show ((16200000 : Nat) : Int) = 16200000 from rfl, e0, e1] at *
   omega
 · have h4 := h3 (g + 1) (by omega) (by omega)
   have h5 : ¬ qV ((g + 1 : Nat) : Int) * m ≤ qX ((g + 1 : Nat) : Int) * n := of_decide_eq_false h4
   rw [show ((g + 1 : Nat) : Int) = (g : Int) + 1 from by omega] at h5
   have r := JU (a := g) (by omega) (by omega)
   rw [VQ (Int.natCast_nonneg g) (by omega), VR (Int.natCast_nonneg g) (by omega)] at *
   rw [VQ (by omega) (by omega), VR (by omega) (by omega)] at h5
   have k1 : (kW (g + 1) - kW g) * m ≤ 54 * m := Int.mul_le_mul_of_nonneg_right r.1 (by omega)
   have k2 : (jB g - jB (g + 1)) * n ≤ 84 * n := Int.mul_le_mul_of_nonneg_right r.2 hn
   rw [Int.sub_mul] at k1 k2
   omega
theorem kS (a : Int) : qX (a + 64800000) = -qX a := by
 rw [show a + 64800000 = a + 32400000 + 32400000 from by omega, jS, je]
theorem BX (a : Int) : qV (64800000 - a) = qV a := by
 rw [show 64800000 - a = -a + 64800000 from by omega, vT, Ji, Int.neg_neg]
theorem BZ (a : Int) : qX (64800000 - a) = -qX a := by
 rw [show 64800000 - a = -a + 64800000 from by omega, kS, YS]
theorem vg (a : Int) : qV (32400000 - a) = qX a := by
 rw [show 32400000 - a = -a + 32400000 from by omega, je, YS]
theorem Yt (a : Int) : qX (32400000 - a) = qV a := by
 rw [show 32400000 - a = -a + 32400000 from by omega, jS, Ji, Int.neg_neg]
theorem Kk (a : Int) : qV (norm a) = qV a := ve _ _ (by unfold norm; omega)
theorem Kl (a : Int) : qX (norm a) = qX a := kR _ _ (by unfold norm; omega)
theorem nz {b a : Int} (ha : 0 ≤ a) (hb : 0 ≤ b) (h0 : 0 < a ∨ 0 < b) :
 (-(138 * max a b) ≤ qV (yL b a) * a - qX (yL b a) * b ∧ qV (yL b a) * a - qX (yL b a) * b ≤ 138 * max a b) ∧ 759250125 * max a b ≤ qV (yL b a) * b + qX (yL b a) * a := by
 unfold yL
 rw [show (a.natAbs : Int) = a from by omega, show (b.natAbs : Int) = b from by omega]
 have lo : ∀ m n : Int, 0 ≤ qV (kZ m n) ∧ 759250125 ≤ qX (kZ m n) := fun m n => by
  have g := Qd m n
  rw [VQ g.1 g.2, VR g.1 g.2]
  exact ⟨(YL g.1 g.2).1, (Qy g.1 g.2).1⟩
 by_cases h : a.natAbs < b.natAbs
 · rw [if_pos h, vg, Yt, show max a b = b from by omega]
   have n := Kj ha (show a ≤ b by omega) (by omega)
   have l := lo b a
   have p1 := Int.mul_nonneg l.1 ha
   have p2 := Int.mul_le_mul_of_nonneg_right l.2 hb
   omega
 · rw [if_neg h, show max a b = a from by omega]
   have n := Kj hb (show b ≤ a by omega) (by omega)
   have l := lo a b
   have p1 := Int.mul_nonneg l.1 hb
   have p2 := Int.mul_le_mul_of_nonneg_right l.2 ha
   omega
def big (p q : Int) : Int := max (p.natAbs : Int) q.natAbs
theorem nA {p q : Int} (h0 : ¬ (p = 0 ∧ q = 0)) :
 (-(138 * big p q) ≤ qV (qZ p q) * q - qX (qZ p q) * p ∧ qV (qZ p q) * q - qX (qZ p q) * p ≤ 138 * big p q) ∧ 759250125 * big p q ≤ qV (qZ p q) * p + qX (qZ p q) * q := by
 have e : yL p q = yL p.natAbs q.natAbs := by unfold yL; simp
 have h := nz (a := q.natAbs) (b := p.natAbs) (by omega) (by omega) (by omega)
 rw [← e] at h
 have hm : max (q.natAbs : Int) p.natAbs = big p q := by unfold big; omega
 rw [hm] at h
 unfold qZ
 generalize yL p q = α at *
 generalize big p q = m at *
 by_cases hp : 0 ≤ p
 · rw [if_pos hp]
   rw [show (p.natAbs : Int) = p from by omega] at h
   by_cases hq : 0 ≤ q
   · rw [if_pos hq]
     rw [show (q.natAbs : Int) = q from by omega] at h
     exact h
   · rw [if_neg hq, BX, BZ]
     rw [show (q.natAbs : Int) = -q from by omega, Int.mul_neg, Int.mul_neg] at h
     rw [Int.neg_mul, Int.neg_mul]
     omega
 · rw [if_neg hp]
   rw [show (p.natAbs : Int) = -p from by omega] at h
   by_cases hq : q < 0
   · rw [if_pos hq, show 64800000 + α = α + 64800000 from by omega, vT, kS]
     rw [show (q.natAbs : Int) = -q from by omega] at h
     simp only [Int.mul_neg, Int.neg_mul] at h ⊢
     omega
   · rw [if_neg hq, Kk, Kl, Ji, YS]
     rw [show (q.natAbs : Int) = q from by omega] at h
     simp only [Int.mul_neg, Int.neg_mul] at h ⊢
     omega
theorem Dr (p q : Int) : big p q * big p q ≤ p * p + q * q ∧ p * p + q * q ≤ 2 * (big p q * big p q) := by
 have hp : (p.natAbs : Int) * p.natAbs = p * p := by
  rcases Int.le_total 0 p with h | h
  · rw [show (p.natAbs : Int) = p from by omega]
  · rw [show (p.natAbs : Int) = -p from by omega, Int.neg_mul_neg]
 have hq : (q.natAbs : Int) * q.natAbs = q * q := by
  rcases Int.le_total 0 q with h | h
  · rw [show (q.natAbs : Int) = q from by omega]
  · rw [show (q.natAbs : Int) = -q from by omega, Int.neg_mul_neg]
 have a := zx p
 have b := zx q
 unfold big
 rcases Int.le_total (p.natAbs : Int) q.natAbs with h | h
 · rw [show max (p.natAbs : Int) q.natAbs = q.natAbs from by omega, hq]
   have := Ja (show (0 : Int) ≤ p.natAbs by omega) h
   omega
 · rw [show max (p.natAbs : Int) q.natAbs = p.natAbs from by omega, hp]
   have := Ja (show (0 : Int) ≤ q.natAbs by omega) h
   omega
theorem Rx {p q r : Int} (h0 : ¬ (p = 0 ∧ q = 0)) (hr1 : r * r ≤ p * p + q * q) (hr2 : p * p + q * q < (r + 1) * (r + 1)) (hr : 1 ≤ r) (hr8 : r ≤ 6000000) :
 (-2147483648 ≤ r * qV (qZ p q) - 1073741824 * p ∧ r * qV (qZ p q) - 1073741824 * p ≤ 2147483648) ∧ (-2147483648 ≤ r * qX (qZ p q) - 1073741824 * q ∧ r * qX (qZ p q) - 1073741824 * q ≤ 2147483648) := by
 have hn := nA h0
 have hb := Dr p q
 have hbig0 : 0 ≤ big p q := by unfold big; omega
 have hbig : big p q ≤ r := by
  have := da (a := big p q) (b := r + 1) (by omega) (by omega)
  omega
 have hu := iF (qZ p q)
 have bs := kJ (qZ p q)
 have bc := uj (qZ p q)
 generalize qV (qZ p q) = S at *
 generalize qX (qZ p q) = C at *
 generalize big p q = m at *
 generalize hK : S * q - C * p = K at *
 generalize hD : S * p + C * q = Dt at *
 have hD0 : 0 ≤ Dt := by omega
 have lag : Dt * Dt + K * K = (S * S + C * C) * (p * p + q * q) := by subst hK hD; grind
 generalize hN : S * S + C * C = N at *
 have hK2 := Yh (a := K) (m := 138 * r) (by omega) (by omega)
 have hrr : r * r ≤ r * 6000000 := Int.mul_le_mul_of_nonneg_left hr8 (by omega)
 have hrr1 : r * 1 ≤ r * r := Int.mul_le_mul_of_nonneg_left hr (by omega)
 have er1 : (r + 1) * (r + 1) = r * r + 2 * r + 1 := by grind
 have ek : 138 * r * (138 * r) = 19044 * (r * r) := by grind
 -- the part along
 have up : Dt ≤ 1073741832 * (r + 1) := by
  apply gm (by omega)
  have h1 : N * (p * p + q * q) ≤ 1152921520713023656 * (p * p + q * q) := Int.mul_le_mul_of_nonneg_right (by omega) (by have := zx p; have := zx q; omega)
  have e : 1073741832 * (r + 1) * (1073741832 * (r + 1)) = 1152921521786716224 * ((r + 1) * (r + 1)) := by grind
  have := zx K
  rw [e]
  omega
 have lo : 1073741815 * r ≤ Dt := by
  apply gm hD0
  have h1 : 1152921488500719616 * (p * p + q * q) ≤ N * (p * p + q * q) := Int.mul_le_mul_of_nonneg_right (by omega) (by have := zx p; have := zx q; omega)
  have e : 1073741815 * r * (1073741815 * r) = 1152921485279494225 * (r * r) := by grind
  rw [e]
  omega
 have rN1 : r * 1152921488500719616 ≤ r * N := Int.mul_le_mul_of_nonneg_left (by omega) (by omega)
 have rN2 : r * N ≤ r * 1152921520713023656 := Int.mul_le_mul_of_nonneg_left (by omega) (by omega)
 have gap : -(1073741824 * 1073741824 + 24 * 1073741824 * r + 8 * 1073741824) ≤ r * N - 1073741824 * Dt ∧ r * N - 1073741824 * Dt ≤ 1073741824 * 1073741824 + 24 * 1073741824 * r + 8 * 1073741824 := by omega
 have ep : N * (r * S - 1073741824 * p) = S * (r * N - 1073741824 * Dt) + 1073741824 * (C * K) := by subst hN hD hK; grind
 have eq : N * (r * C - 1073741824 * q) = C * (r * N - 1073741824 * Dt) - 1073741824 * (S * K) := by subst hN hD hK; grind
 have m1 := zj (x := S) (X := 1073741824) bs gap
 have m2 := zj (x := C) (X := 1073741824) bc gap
 have m3 := zj (x := C) (X := 1073741824) (v := K) (V := 138 * r) bc (by omega)
 have m4 := zj (x := S) (X := 1073741824) (v := K) (V := 138 * r) bs (by omega)
 have hNpos : 0 < N := by omega
 have b1 : N * (r * S - 1073741824 * p) ≤ N * 2147483648 := by rw [ep]; omega
 have b2 : N * -2147483648 ≤ N * (r * S - 1073741824 * p) := by rw [ep]; omega
 have b3 : N * (r * C - 1073741824 * q) ≤ N * 2147483648 := by rw [eq]; omega
 have b4 : N * -2147483648 ≤ N * (r * C - 1073741824 * q) := by rw [eq]; omega
 exact ⟨⟨Int.le_of_mul_le_mul_left b2 hNpos, Int.le_of_mul_le_mul_left b1 hNpos⟩, Int.le_of_mul_le_mul_left b4 hNpos, Int.le_of_mul_le_mul_left b3 hNpos⟩
end Go.Proofs.YteanfgobpjdmnaaGreatDoor
