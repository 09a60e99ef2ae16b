/-
  The walks of the reference of layer 1: the product of two words, the division bit by bit.
-/
import Derived.Test.YtdfkkknkiioghaaMFixed
import Derived.Test.YtdfkkknkiioghaaMPlain
namespace Go.Proofs.Ytdfkkknkiioghaa
open Go.RowKit
set_option linter.unusedVariables false

theorem or_nat (a b : Nat) (s : Nat) (hb : b < 2 ^ s) (h : a * 2 ^ s < 18446744073709551616) (hb2 : b < 18446744073709551616) : bits .or .u64 ((a * 2 ^ s : Nat) : Int) (b : Int) = ((a * 2 ^ s + b : Nat) : Int) := by
  rw [bits_or_u64_nat _ _ h hb2]
  have := Nat.shiftLeft_add_eq_or_of_lt hb a
  rw [Nat.shiftLeft_eq] at this
  rw [this]
theorem or_low (a b : Int) (ha : 0 ≤ a) (ha2 : a < 4294967296) (hb : 0 ≤ b) (hb2 : b < 4294967296) : bits .or .u64 (a * 4294967296) b = a * 4294967296 + b := by
  obtain ⟨a, rfl⟩ := Int.eq_ofNat_of_zero_le ha
  obtain ⟨b, rfl⟩ := Int.eq_ofNat_of_zero_le hb
  have := or_nat a b 32 (by omega) (by omega) (by omega)
  rw [show ((a * 2 ^ 32 : Nat) : Int) = (a : Int) * 4294967296 from by omega, show ((a * 2 ^ 32 + b : Nat) : Int) = (a : Int) * 4294967296 + b from by omega] at this
  exact this
/-- a word doubled, and a bit -/
theorem or_bit (a b : Int) (ha : 0 ≤ a) (ha2 : a < 18446744073709551616) (hb : 0 ≤ b) (hb2 : b ≤ 1) : bits .or .u64 (IntKind.u64.wrap (a * 2)) b = a * 2 % 18446744073709551616 + b := by
  rw [IntKind.wrap_u64]
  obtain ⟨a, rfl⟩ := Int.eq_ofNat_of_zero_le ha
  obtain ⟨b, rfl⟩ := Int.eq_ofNat_of_zero_le hb
  have := or_nat (a % 9223372036854775808) b 1 (by omega) (by omega) (by omega)
  rw [show ((a % 9223372036854775808 * 2 ^ 1 : Nat) : Int) = (a : Int) * 2 % 18446744073709551616 from by omega, show ((a % 9223372036854775808 * 2 ^ 1 + b : Nat) : Int) = (a : Int) * 2 % 18446744073709551616 + b from by omega] at this
  exact this
/-- the product of two words by their halves -/
theorem halves {x y : Int} (hx : 0 ≤ x) (hx2 : x < 18446744073709551616) (hy : 0 ≤ y) (hy2 : y < 18446744073709551616) :
    ∃ p q r s : Int, p = x / 4294967296 * (y / 4294967296) ∧ q = x / 4294967296 * (y % 4294967296) ∧ r = x % 4294967296 * (y / 4294967296) ∧ s = x % 4294967296 * (y % 4294967296) ∧
      x * y = p * 18446744073709551616 + (q + r) * 4294967296 + s ∧ (0 ≤ p ∧ p ≤ 18446744065119617025) ∧ (0 ≤ q ∧ q ≤ 18446744065119617025) ∧ (0 ≤ r ∧ r ≤ 18446744065119617025) ∧ (0 ≤ s ∧ s ≤ 18446744065119617025) := by
  refine ⟨_, _, _, _, rfl, rfl, rfl, rfl, ?_, ?_, ?_, ?_, ?_⟩
  · have e1 : x = x / 4294967296 * 4294967296 + x % 4294967296 := by omega
    have e2 : y = y / 4294967296 * 4294967296 + y % 4294967296 := by omega
    generalize x / 4294967296 = a at *
    generalize x % 4294967296 = b at *
    generalize y / 4294967296 = c at *
    generalize y % 4294967296 = d at *
    rw [e1, e2]; grind
  all_goals
    refine ⟨Int.mul_nonneg (by omega) (by omega), ?_⟩
    exact Int.mul_le_mul (show _ ≤ (4294967295 : Int) by omega) (show _ ≤ (4294967295 : Int) by omega) (by omega) (by decide)
/-! ### the division bit by bit: after i steps N * 2^i = (Q * c + R) * 2^128 + M -/
theorem bit_step {N p Q c R M b M' : Int} (h : N * p = (Q * c + R) * 340282366920938463463374607431768211456 + M) (hM : 2 * M = b * 340282366920938463463374607431768211456 + M') :
    N * (p * 2) = (2 * Q * c + (2 * R + b)) * 340282366920938463463374607431768211456 + M' ∧ N * (p * 2) = ((2 * Q + 1) * c + (2 * R + b - c)) * 340282366920938463463374607431768211456 + M' := by
  have e : N * (p * 2) = 2 * (N * p) := by grind
  rw [e, h]
  constructor
  · have e1 : 2 * ((Q * c + R) * 340282366920938463463374607431768211456 + M) = (Q * c + R) * 680564733841876926926749214863536422912 + 2 * M := by grind
    rw [e1, hM]; grind
  · have e1 : 2 * ((Q * c + R) * 340282366920938463463374607431768211456 + M) = (Q * c + R) * 680564733841876926926749214863536422912 + 2 * M := by grind
    rw [e1, hM]; grind
/-- the quotient stays in two words -/
theorem bit_room {N p Q c R M : Int} (h : N * p = (Q * c + R) * 340282366920938463463374607431768211456 + M) (hM : 0 ≤ M) (hp : p ≤ 340282366920938463463374607431768211456) (hN : 0 ≤ N) (hN2 : N < 340282366920938463463374607431768211456) (hc : 0 < c) (hR : 0 ≤ R) (hQ : 0 ≤ Q) : Q < 340282366920938463463374607431768211456 := by
  have h1 : N * p ≤ N * 340282366920938463463374607431768211456 := Int.mul_le_mul_of_nonneg_left hp hN
  have h2 : Q * 1 ≤ Q * c := Int.mul_le_mul_of_nonneg_left (by omega) hQ
  omega
theorem bit_end {N Q c R M : Int} (h : N * 340282366920938463463374607431768211456 = (Q * c + R) * 340282366920938463463374607431768211456 + M) (hM : 0 ≤ M) (hM2 : M < 340282366920938463463374607431768211456) (hc : 0 < c) (hR : 0 ≤ R) (hRc : R < c) :
    N / c = Q ∧ N % c = R := by
  have h1 : N = Q * c + R := by omega
  subst h1
  constructor
  · rw [Int.add_comm, Int.add_mul_ediv_right _ _ (by omega), Int.ediv_eq_zero_of_lt hR hRc]; omega
  · rw [Int.add_comm, Int.add_mul_emod_self_right, Int.emod_eq_of_lt hR hRc]
end Go.Proofs.Ytdfkkknkiioghaa

