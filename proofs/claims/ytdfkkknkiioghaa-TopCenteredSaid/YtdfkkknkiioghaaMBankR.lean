/-
  A steeper bank makes a smaller radius. No program.
-/
import Derived.Test.YtdfkkknkiioghaaMLawsT
import Derived.Test.YtdfkkknkiioghaaMBank
namespace Go.Proofs.Ytdfkkknkiioghaa
set_option linter.unusedVariables false

theorem ceil_mono {n d n' d' : Int} (hd : 0 < d) (hdd : d ≤ d') (hn : n' ≤ n) (hn0 : 0 ≤ n') : rnd 1 n' d' ≤ rnd 1 n d ∧ 0 ≤ rnd 1 n' d' := by
  have a := rnd1_spec n d hd
  have b := rnd1_spec n' d' (by omega)
  generalize rnd 1 n d = q at *
  generalize rnd 1 n' d' = q' at *
  have q0 : 0 ≤ q := by
    apply Classical.byContradiction
    intro h
    have : q * d ≤ (-1) * d := Int.mul_le_mul_of_nonneg_right (by omega) (by omega)
    omega
  have q1 : 0 ≤ q' := by
    apply Classical.byContradiction
    intro h
    have : q' * d' ≤ (-1) * d' := Int.mul_le_mul_of_nonneg_right (by omega) (by omega)
    omega
  refine ⟨?_, q1⟩
  apply Classical.byContradiction
  intro h
  have e1 : q * d ≤ q * d' := Int.mul_le_mul_of_nonneg_left hdd q0
  have e2 : q * d' ≤ (q' - 1) * d' := Int.mul_le_mul_of_nonneg_right (by omega) (by omega)
  omega
theorem fits_iff {v r b : Int} (hv : 1 ≤ v) (hv2 : v ≤ 1000) (hb : 1 ≤ b) (hb2 : b ≤ 3000) (hr : r ≤ 8000000) :
    fitsF v r b = true ↔ rnd 1 (v * v * 87431 * Cos (b * 3600)) (1000000 * Sin (b * 3600)) ≤ r := by
  have hs : 1 ≤ Sin (b * 3600) := by
    have := Sin_mono (a := 1) (b := b * 3600) (by omega) (by omega) (by omega)
    have e : 1 ≤ Sin 1 := by decide +kernel
    omega
  have hc := Cos_h_pos (h := b * 3600) (by omega) (by omega)
  have vv : 1 ≤ v * v := by
    have : 1 * 1 ≤ v * v := Int.mul_le_mul hv hv (by omega) (by omega)
    omega
  have p0 : 0 ≤ v * v * 87431 * Cos (b * 3600) := Int.mul_nonneg (by omega) (by omega)
  have q0 := (ceil_mono (n := v * v * 87431 * Cos (b * 3600)) (d := 1000000 * Sin (b * 3600)) (by omega) (Int.le_refl _) (Int.le_refl _) p0).2
  unfold fitsF radF muldiv
  rw [if_pos (⟨hv, hv2, hb, hb2⟩ : 1 ≤ v ∧ v ≤ 1000 ∧ 1 ≤ b ∧ b ≤ 3000), if_neg (show ¬ 1000000 * Sin (b * 3600) = 0 by omega)]
  generalize rnd 1 (v * v * 87431 * Cos (b * 3600)) (1000000 * Sin (b * 3600)) = q at *
  unfold in64
  by_cases h1 : q ≤ 9223372036854775807
  · rw [if_pos (decide_eq_true (by omega))]
    by_cases h2 : q ≤ 8000000
    · rw [if_pos ⟨rfl, h2⟩]; simp
    · rw [if_neg (fun h => h2 h.2)]; simp; omega
  · rw [show (if decide (-9223372036854775808 ≤ q ∧ q ≤ 9223372036854775807) = true then (q, 0) else (0, 2)) = ((0, 2) : Int × Int) from if_neg (by simp; omega)]
    simp
    omega
theorem fits_mono {v r b : Int} (hv : 1 ≤ v) (hv2 : v ≤ 1000) (hb : 1 ≤ b) (hb2 : b + 1 ≤ 3000) (hr : r ≤ 8000000) (h : fitsF v r b = true) : fitsF v r (b + 1) = true := by
  rw [fits_iff hv hv2 hb (by omega) hr] at h
  rw [fits_iff hv hv2 (by omega) hb2 hr]
  have hs : 1 ≤ Sin (b * 3600) := by
    have := Sin_mono (a := 1) (b := b * 3600) (by omega) (by omega) (by omega)
    have e : 1 ≤ Sin 1 := by decide +kernel
    omega
  have hs2 := Sin_mono (a := b * 3600) (b := (b + 1) * 3600) (by omega) (by omega) (by omega)
  have hc : Cos ((b + 1) * 3600) ≤ Cos (b * 3600) := by
    rw [← Sin_quarter_sub, ← Sin_quarter_sub]
    exact Sin_mono (by omega) (by omega) (by omega)
  have hc0 := Cos_h_pos (h := (b + 1) * 3600) (by omega) (by omega)
  have vv : 1 ≤ v * v := by
    have : 1 * 1 ≤ v * v := Int.mul_le_mul hv hv (by omega) (by omega)
    omega
  have e := (ceil_mono (n := v * v * 87431 * Cos (b * 3600)) (d := 1000000 * Sin (b * 3600)) (n' := v * v * 87431 * Cos ((b + 1) * 3600)) (d' := 1000000 * Sin ((b + 1) * 3600)) (by omega) (by omega) (Int.mul_le_mul_of_nonneg_left hc (by omega)) (Int.mul_nonneg (by omega) (by omega))).1
  omega
theorem fits_up {v r b : Int} (hv : 1 ≤ v) (hv2 : v ≤ 1000) (hb : 1 ≤ b) (hr : r ≤ 8000000) (h : fitsF v r b = true) : ∀ k : Nat, b + k ≤ 3000 → fitsF v r (b + k) = true
  | 0, _ => by rw [show b + ((0 : Nat) : Int) = b from by omega]; exact h
  | k + 1, hk => by
    have ih := fits_up hv hv2 hb hr h k (by omega)
    have := fits_mono hv hv2 (b := b + k) (by omega) (by omega) hr ih
    rw [show b + ((k + 1 : Nat) : Int) = b + k + 1 from by omega]
    exact this
end Go.Proofs.Ytdfkkknkiioghaa

/-
  The walk of the reference's Bank; its answer is the only one.
-/
namespace Go.Proofs.Ytdfkkknkiioghaa
open Go.RowKit
set_option linter.unusedVariables false
set_option linter.unusedSimpArgs false
theorem bank_up {v r b : Int} {R : Int × Int} (i : 1 ≤ v ∧ v ≤ 1000 ∧ 1 ≤ r ∧ r ≤ 8000000) (h1 : 1 ≤ R.1) (h : fitsF v r R.1 = true) (hb : R.1 ≤ b) (hb2 : b ≤ 3000) : fitsF v r b = true := by
  have := fits_up i.1 i.2.1 h1 i.2.2.2 h (b - R.1).toNat (by omega)
  rwa [show R.1 + ((b - R.1).toNat : Int) = b from by omega] at this
theorem bank_one {v r : Int} {R R' : Int × Int} (h : BankP v r R) (h' : BankP v r R') : R = R' := by
  rcases h with ⟨h, n⟩ | ⟨i, f, h⟩ | ⟨i, e, b, f, g⟩ <;> rcases h' with ⟨h', n'⟩ | ⟨i', f', h'⟩ | ⟨i', e', b', f', g'⟩
  · rw [h, h']
  · exact absurd i' n
  · exact absurd i' n
  · exact absurd i n'
  · rw [h, h']
  · have := bank_up i' b'.1 f' b'.2 (Int.le_refl _)
    rw [f] at this; cases this
  · exact absurd i n'
  · have := bank_up i b.1 f b.2 (Int.le_refl _)
    rw [f'] at this; cases this
  · have e1 : R.1 = R'.1 := by
      rcases Int.lt_trichotomy R.1 R'.1 with t | t | t
      · have k := bank_up (b := R'.1 - 1) i b.1 f (by omega) (by omega)
        rcases g' with g' | g'
        · omega
        · rw [g'] at k; cases k
      · exact t
      · have k := bank_up (b := R.1 - 1) i b'.1 f' (by omega) (by omega)
        rcases g with g | g
        · omega
        · rw [g] at k; cases k
    exact Prod.ext e1 (e.trans e'.symm)
theorem fit_least (v r : Int) : ∀ n : Nat, 1 ≤ n → fitsF v r n = true → ∃ m : Int, 1 ≤ m ∧ m ≤ n ∧ fitsF v r m = true ∧ (m = 1 ∨ fitsF v r (m - 1) = false)
  | 0, h, _ => by omega
  | 1, _, h => ⟨1, by omega, by omega, h, .inl rfl⟩
  | n + 2, _, h => by
    rcases hp : fitsF v r (n + 1 : Nat) with _ | _
    · exact ⟨((n + 2 : Nat) : Int), by omega, by omega, h, .inr (by rw [show (((n + 2 : Nat) : Int) - 1) = ((n + 1 : Nat) : Int) from by omega]; exact hp)⟩
    · obtain ⟨m, a, b, c, d⟩ := fit_least v r (n + 1) (by omega) hp
      exact ⟨m, a, by omega, c, d⟩
theorem bank_ex (v r : Int) : ∃ R, BankP v r R := by
  by_cases hin : 1 ≤ v ∧ v ≤ 1000 ∧ 1 ≤ r ∧ r ≤ 8000000
  · rcases hf : fitsF v r 3000 with _ | _
    · exact ⟨(0, 10), .inr (.inl ⟨hin, hf, rfl⟩)⟩
    · obtain ⟨m, a, b, c, d⟩ := fit_least v r 3000 (by omega) hf
      exact ⟨(m, 0), .inr (.inr ⟨hin, rfl, ⟨a, by simpa using b⟩, c, d⟩)⟩
  · exact ⟨(0, 2), .inl ⟨rfl, hin⟩⟩
theorem bank_to (v r : Int) (hv : I64 v) (hr : I64 r) (w : World) (R : Int × Int) (hR : BankP v r R) :
    Calls Try.prog 33 #[.int .i64 v, .int .i64 r] w fun e w' => e = .returned (.tuple #[.int .i64 R.1, .int .i64 R.2]) ∧ Below w.heap.size w w' :=
  (bank_any v r hv hr w).mono fun e w' ⟨R', he, hR', hb⟩ => ⟨by rw [he, bank_one hR hR'], hb⟩
end Go.Proofs.Ytdfkkknkiioghaa

