/-
  The walks of the reference of layer 1: the product of two words, the division bit by bit.
-/
import Derived.Test.YtjjdojokkmfbmaaGreatDoorMFixed
set_option maxRecDepth 100000
set_option maxHeartbeats 16000000
namespace Go.Proofs.YtjjdojokkmfbmaaGreatDoor
open Go.RowKit
set_option linter.unusedVariables false
theorem or_nat (a b : Nat) (s : Nat) (hb : b < 2 ^ s) (h : a * 2 ^ s < 18446744073709551616) (hb2 : b < 18446744073709551616) : bits .or .u64 ((a * 2 ^ s : Nat) : Int) (b : Int) = ((a * 2 ^ s + b : Nat) : Int) := by
  rw [bits_or_u64_nat _ _ h hb2]
  have := Nat.shiftLeft_add_eq_or_of_lt hb a
  rw [Nat.shiftLeft_eq] at this
  rw [this]
theorem or_low (a b : Int) (ha : 0 ≤ a) (ha2 : a < 4294967296) (hb : 0 ≤ b) (hb2 : b < 4294967296) : bits .or .u64 (a * 4294967296) b = a * 4294967296 + b := by
  obtain ⟨a, rfl⟩ := Int.eq_ofNat_of_zero_le ha
  obtain ⟨b, rfl⟩ := Int.eq_ofNat_of_zero_le hb
  have := or_nat a b 32 (by omega) (by omega) (by omega)
  rw [show ((a * 2 ^ 32 : Nat) : Int) = (a : Int) * 4294967296 from by omega, show ((a * 2 ^ 32 + b : Nat) : Int) = (a : Int) * 4294967296 + b from by omega] at this
  exact this
theorem or_bit (a b : Int) (ha : 0 ≤ a) (ha2 : a < 18446744073709551616) (hb : 0 ≤ b) (hb2 : b ≤ 1) : bits .or .u64 (IntKind.u64.wrap (a * 2)) b = a * 2 % 18446744073709551616 + b := by
  rw [IntKind.wrap_u64]
  obtain ⟨a, rfl⟩ := Int.eq_ofNat_of_zero_le ha
  obtain ⟨b, rfl⟩ := Int.eq_ofNat_of_zero_le hb
  have := or_nat (a % 9223372036854775808) b 1 (by omega) (by omega) (by omega)
  rw [show ((a % 9223372036854775808 * 2 ^ 1 : Nat) : Int) = (a : Int) * 2 % 18446744073709551616 from by omega, show ((a % 9223372036854775808 * 2 ^ 1 + b : Nat) : Int) = (a : Int) * 2 % 18446744073709551616 + b from by omega] at this
  exact this
theorem halves {x y : Int} (hx : 0 ≤ x) (hx2 : x < 18446744073709551616) (hy : 0 ≤ y) (hy2 : y < 18446744073709551616) :
    ∃ p q r s : Int, p = x / 4294967296 * (y / 4294967296) ∧ q = x / 4294967296 * (y % 4294967296) ∧ r = x % 4294967296 * (y / 4294967296) ∧ s = x % 4294967296 * (y % 4294967296) ∧
      x * y = p * 18446744073709551616 + (q + r) * 4294967296 + s ∧ (0 ≤ p ∧ p ≤ 18446744065119617025) ∧ (0 ≤ q ∧ q ≤ 18446744065119617025) ∧ (0 ≤ r ∧ r ≤ 18446744065119617025) ∧ (0 ≤ s ∧ s ≤ 18446744065119617025) := by
  refine ⟨_, _, _, _, rfl, rfl, rfl, rfl, ?_, ?_, ?_, ?_, ?_⟩
  · have e1 : x = x / 4294967296 * 4294967296 + x % 4294967296 := by omega
    have e2 : y = y / 4294967296 * 4294967296 + y % 4294967296 := by omega
    generalize x / 4294967296 = a at *
    generalize x % 4294967296 = b at *
    generalize y / 4294967296 = c at *
    generalize y % 4294967296 = d at *
    rw [e1, e2]; grind
  all_goals
    refine ⟨Int.mul_nonneg (by omega) (by omega), ?_⟩
    exact Int.mul_le_mul (show _ ≤ (4294967295 : Int) by omega) (show _ ≤ (4294967295 : Int) by omega) (by omega) (by decide)
theorem product_any (x y : Int) (hx : 0 ≤ x) (hx2 : x < 18446744073709551616) (hy : 0 ≤ y) (hy2 : y < 18446744073709551616) (w : World) :
    Calls Tryz.prog 165 #[.int .u64 x, .int .u64 y] w fun e w' => e = .returned (.tuple #[.int .u64 (x * y / 18446744073709551616), .int .u64 (x * y % 18446744073709551616)]) ∧ w = w' := by
  go_enter Tryz.func165, Tryz.ntmps165
  go_wp2
  go_ret2
  simp only [and_low x hx hx2, and_low y hy hy2]
  obtain ⟨p, q, r, s, hp, hq, hr, hs, e, p1, q1, r1, s1⟩ := halves hx hx2 hy hy2
  rw [← hp, ← hq, ← hr, ← hs]
  have w1 : IntKind.u64.wrap p = p := by rw [IntKind.wrap_u64]; omega
  have w2 : IntKind.u64.wrap q = q := by rw [IntKind.wrap_u64]; omega
  have w3 : IntKind.u64.wrap r = r := by rw [IntKind.wrap_u64]; omega
  have w4 : IntKind.u64.wrap s = s := by rw [IntKind.wrap_u64]; omega
  have w5 : IntKind.u64.wrap (q + s / 4294967296) = q + s / 4294967296 := by rw [IntKind.wrap_u64]; omega
  rw [w1, w2, w3, w4, w5, and_low (q + s / 4294967296) (by omega) (by omega), and_low s (by omega) (by omega)]
  have w6 : IntKind.u64.wrap (r + (q + s / 4294967296) % 4294967296) = r + (q + s / 4294967296) % 4294967296 := by rw [IntKind.wrap_u64]; omega
  rw [w6]
  clear hp hq hr hs
  refine ⟨ret_pair ?_ ?_, trivial⟩
  · simp only [IntKind.wrap_u64]
    omega
  · have w7 : IntKind.u64.wrap ((r + (q + s / 4294967296) % 4294967296) * 4294967296) = (r + (q + s / 4294967296) % 4294967296) % 4294967296 * 4294967296 := by rw [IntKind.wrap_u64]; omega
    rw [w7, or_low _ _ (by omega) (by omega) (by omega) (by omega)]
    omega
theorem bit_step {N p Q c R M b M' : Int} (h : N * p = (Q * c + R) * 340282366920938463463374607431768211456 + M) (hM : 2 * M = b * 340282366920938463463374607431768211456 + M') :
    N * (p * 2) = (2 * Q * c + (2 * R + b)) * 340282366920938463463374607431768211456 + M' ∧ N * (p * 2) = ((2 * Q + 1) * c + (2 * R + b - c)) * 340282366920938463463374607431768211456 + M' := by
  have e : N * (p * 2) = 2 * (N * p) := by grind
  rw [e, h]
  constructor
  · have e1 : 2 * ((Q * c + R) * 340282366920938463463374607431768211456 + M) = (Q * c + R) * 680564733841876926926749214863536422912 + 2 * M := by grind
    rw [e1, hM]; grind
  · have e1 : 2 * ((Q * c + R) * 340282366920938463463374607431768211456 + M) = (Q * c + R) * 680564733841876926926749214863536422912 + 2 * M := by grind
    rw [e1, hM]; grind
theorem bit_room {N p Q c R M : Int} (h : N * p = (Q * c + R) * 340282366920938463463374607431768211456 + M) (hM : 0 ≤ M) (hp : p ≤ 340282366920938463463374607431768211456) (hN : 0 ≤ N) (hN2 : N < 340282366920938463463374607431768211456) (hc : 0 < c) (hR : 0 ≤ R) (hQ : 0 ≤ Q) : Q < 340282366920938463463374607431768211456 := by
  have h1 : N * p ≤ N * 340282366920938463463374607431768211456 := Int.mul_le_mul_of_nonneg_left hp hN
  have h2 : Q * 1 ≤ Q * c := Int.mul_le_mul_of_nonneg_left (by omega) hQ
  omega
theorem bit_end {N Q c R M : Int} (h : N * 340282366920938463463374607431768211456 = (Q * c + R) * 340282366920938463463374607431768211456 + M) (hM : 0 ≤ M) (hM2 : M < 340282366920938463463374607431768211456) (hc : 0 < c) (hR : 0 ≤ R) (hRc : R < c) :
    N / c = Q ∧ N % c = R := by
  have h1 : N = Q * c + R := by omega
  subst h1
  constructor
  · rw [Int.add_comm, Int.add_mul_ediv_right _ _ (by omega), Int.ediv_eq_zero_of_lt hR hRc]; omega
  · rw [Int.add_comm, Int.add_mul_emod_self_right, Int.emod_eq_of_lt hR hRc]
theorem divide_any (hi lo c : Int) (h0 : 0 ≤ hi) (h1 : hi < 18446744073709551616) (l0 : 0 ≤ lo) (l1 : lo < 18446744073709551616) (c0 : 0 < c) (c1 : c < 18446744073709551616) (w : World) :
    Calls Tryz.prog 167 #[.int .u64 hi, .int .u64 lo, .int .u64 c] w fun e w' => e = .returned (.tuple #[.int .u64 ((hi * 18446744073709551616 + lo) / c / 18446744073709551616), .int .u64 ((hi * 18446744073709551616 + lo) / c % 18446744073709551616), .int .u64 ((hi * 18446744073709551616 + lo) % c)]) ∧ w = w' := by
  obtain ⟨N, hNe⟩ : ∃ N, N = hi * 18446744073709551616 + lo := ⟨_, rfl⟩
  have hN0 : 0 ≤ N := by omega
  have hN2 : N < 340282366920938463463374607431768211456 := by omega
  rw [← hNe]
  have HN := hide hNe
  clear hNe
  go_enter Tryz.func167, Tryz.ntmps167
  go_wp2
  go_loop [0, 1, 6, 7, 8, 9] (fun a b d e f g => ∃ (i : Nat) (H L QH QL R : Int), a = .int .u64 H ∧ b = .int .u64 L ∧ d = .int .u64 QH ∧ e = .int .u64 QL ∧ f = .int .u64 R ∧ g = .int .i64 i ∧ i ≤ 128 ∧
    (0 ≤ H ∧ H < 18446744073709551616) ∧ (0 ≤ L ∧ L < 18446744073709551616) ∧ (0 ≤ QH ∧ QH < 18446744073709551616) ∧ (0 ≤ QL ∧ QL < 18446744073709551616) ∧ (0 ≤ R ∧ R < c) ∧
    Hid (N * 2 ^ i = ((QH * 18446744073709551616 + QL) * c + R) * 340282366920938463463374607431768211456 + (H * 18446744073709551616 + L))) (fun _ _ _ _ _ g => 128 - (intOf g).toNat)
  case atStart => exact ⟨0, hi, lo, 0, 0, 0, rfl, rfl, rfl, rfl, rfl, rfl, by omega, ⟨h0, h1⟩, ⟨l0, l1⟩, by omega, by omega, by omega, show _ = _ from by rw [HN.out]; simp⟩
  case round =>
    obtain ⟨i, H, L, QH, QL, R, rfl, rfl, rfl, rfl, rfl, rfl, k, ⟨i1, i2⟩, ⟨i3, i4⟩, ⟨i5, i6⟩, ⟨i7, i8⟩, ⟨i9, i10⟩, I⟩ := hrel
    by_cases hi' : i < 128
    · have hlt : (i : Int) < 128 := by omega
      have eH := or_bit H (L / 9223372036854775808) i1 i2 (by omega) (by omega)
      have eQ := or_bit QH (QL / 9223372036854775808) i5 i6 (by omega) (by omega)
      have eR := or_bit R (H / 9223372036854775808) i9 (by omega) (by omega) (by omega)
      have eL : IntKind.u64.wrap (L * 2) = L * 2 % 18446744073709551616 := IntKind.wrap_u64 _
      have eq2 : IntKind.u64.wrap (QL * 2) = QL * 2 % 18446744073709551616 := IntKind.wrap_u64 _
      have e1 := or_bit QL 1 i7 i8 (by omega) (by omega)
      rw [eq2] at e1
      -- the new numbers
      have hM : 2 * (H * 18446744073709551616 + L) = H / 9223372036854775808 * 340282366920938463463374607431768211456 + ((H * 2 % 18446744073709551616 + L / 9223372036854775808) * 18446744073709551616 + L * 2 % 18446744073709551616) := by omega
      have S := bit_step I.out hM
      have hp : (2 : Int) ^ i * 2 = 2 ^ (i + 1) := (Int.pow_succ 2 i).symm
      rw [hp] at S
      have hp2 : (2 : Int) ^ (i + 1) ≤ 340282366920938463463374607431768211456 := by
        have h := Nat.pow_le_pow_right (n := 2) (by decide) (show i + 1 ≤ 128 by omega)
        have e : (2 : Int) ^ (i + 1) = ((2 ^ (i + 1) : Nat) : Int) := by rw [Int.natCast_pow]; rfl
        rw [e]
        exact Int.ofNat_le.2 h
      have nH1 : 0 ≤ H * 2 % 18446744073709551616 + L / 9223372036854775808 ∧ H * 2 % 18446744073709551616 + L / 9223372036854775808 < 18446744073709551616 := by omega
      have nL1 : 0 ≤ L * 2 % 18446744073709551616 ∧ L * 2 % 18446744073709551616 < 18446744073709551616 := by omega
      have nb : 0 ≤ H / 9223372036854775808 ∧ H / 9223372036854775808 ≤ 1 := by omega
      generalize H * 2 % 18446744073709551616 + L / 9223372036854775808 = H' at *
      generalize L * 2 % 18446744073709551616 = L' at *
      have hQ0 : 0 ≤ QH * 18446744073709551616 + QL := by omega
      have room1 := bit_room (Q := 2 * (QH * 18446744073709551616 + QL)) S.1 (by omega) hp2 hN0 hN2 c0 (by omega) (by omega)
      have ewq : IntKind.u64.wrap (QH * 2) = QH * 2 := by rw [IntKind.wrap_u64]; omega
      rw [ewq] at eQ
      clear ewq
      have hQ2 : (QH * 2 % 18446744073709551616 + QL / 9223372036854775808) * 18446744073709551616 + QL * 2 % 18446744073709551616 = 2 * (QH * 18446744073709551616 + QL) := by omega
      have nQ : (0 ≤ QH * 2 % 18446744073709551616 + QL / 9223372036854775808 ∧ QH * 2 % 18446744073709551616 + QL / 9223372036854775808 < 18446744073709551616) ∧ (0 ≤ QL * 2 % 18446744073709551616 ∧ QL * 2 % 18446744073709551616 ≤ 18446744073709551614) := by omega
      generalize QH * 2 % 18446744073709551616 + QL / 9223372036854775808 = QH' at *
      generalize QL * 2 % 18446744073709551616 = QL' at *
      have HS := hide S
      have HQ := hide hQ2
      obtain ⟨nb1, nb2⟩ := nb
      generalize hbe : H / 9223372036854775808 = b at *
      clear S hQ2 hM hp I
      by_cases t : 9223372036854775808 ≤ R
      · have et : R / 9223372036854775808 = 1 := by omega
        have er : R * 2 % 18446744073709551616 + b = 2 * R + b - 18446744073709551616 := by omega
        rw [er] at eR
        have ew : IntKind.u64.wrap (2 * R + b - 18446744073709551616 - c) = 2 * R + b - c := by rw [IntKind.wrap_u64]; omega
        clear er
        go_wp2
        go_round
        case rel => exact ⟨i + 1, H', L', QH', QL' + 1, 2 * R + b - c, rfl, rfl, rfl, by first | rfl | rw [e1], by first | rfl | rw [ew], by go_num, by omega, nH1, nL1, nQ.1, by omega, by omega, show _ = _ from by rw [HS.out.2, ← HQ.out]; grind⟩
        case measure => simp [intOf]; omega
      · have et : R / 9223372036854775808 = 0 := by omega
        have er : R * 2 % 18446744073709551616 + b = 2 * R + b := by omega
        have ewr : IntKind.u64.wrap (R * 2) = R * 2 := by rw [IntKind.wrap_u64]; omega
        rw [er] at eR
        rw [ewr] at eR
        clear er
        by_cases u : c ≤ 2 * R + b
        · go_wp2
          go_round
          case rel => exact ⟨i + 1, H', L', QH', QL' + 1, 2 * R + b - c, rfl, rfl, rfl, by first | rfl | rw [e1], by first | rfl | (congr 1; omega), by go_num, by omega, nH1, nL1, nQ.1, by omega, by omega, show _ = _ from by rw [HS.out.2, ← HQ.out]; grind⟩
          case measure => simp [intOf]; omega
        · go_wp2
          go_round
          case rel => exact ⟨i + 1, H', L', QH', QL', 2 * R + b, rfl, rfl, rfl, rfl, rfl, by go_num, by omega, nH1, nL1, nQ.1, by omega, by omega, show _ = _ from by rw [HS.out.1, ← HQ.out]⟩
          case measure => simp [intOf]; omega
    · obtain rfl : i = 128 := by omega
      have F := bit_end (show N * 340282366920938463463374607431768211456 = _ from I.out) (by omega) (by omega) c0 i9 i10
      have HF := hide F
      clear F
      go_wp2
      go_ret3
      rw [HF.out.1, HF.out.2]
      refine ⟨?_, rfl⟩
      rw [show (QH * 18446744073709551616 + QL) / 18446744073709551616 = QH from by omega, show (QH * 18446744073709551616 + QL) % 18446744073709551616 = QL from by omega]
      rfl
end Go.Proofs.YtjjdojokkmfbmaaGreatDoor
