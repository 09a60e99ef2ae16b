/-
  The walks of the reference of layer 1: its rounded quotients and its square root.
-/
import Derived.Test.YtjjdojokkmfbmaaGreatDoorMQuotD
import Derived.Test.YtjjdojokkmfbmaaGreatDoorMQuotN
import Derived.Test.YtjjdojokkmfbmaaGreatDoorMQuotU
import Derived.Test.YtjjdojokkmfbmaaGreatDoorMScale
set_option maxRecDepth 100000
set_option maxHeartbeats 16000000
namespace Go.Proofs.YtjjdojokkmfbmaaGreatDoor
open Go.RowKit
set_option linter.unusedVariables false
theorem quot_zero (a b m : Int) (w : World) :
    Calls Tryz.prog 136 #[.int .i64 a, .int .i64 b, .int .i64 0, .int .i64 m] w fun e w' => e = .returned (.tuple #[.int .i64 0, .int .i64 1]) ∧ ∃ n, w' = w.drewN n := by
  go_enter Tryz.func136, Tryz.ntmps136
  go_wp2
  all_goals
    go_ret2
    exact ⟨rfl, 0, rfl⟩
theorem quot_down_any (a b c : Int) (ha : I64 a) (hb : I64 b) (hc : I64 c) (w : World) :
    Calls Tryz.prog 136 #[.int .i64 a, .int .i64 b, .int .i64 c, .int .i64 0] w fun e w' => e = .returned (.tuple #[.int .i64 (muldiv 0 a b c).1, .int .i64 (muldiv 0 a b c).2]) ∧ ∃ n, w' = w.drewN n := by
  by_cases h0 : c = 0
  · subst h0
    rw [muldiv_zero]
    exact quot_zero a b 0 w
  · exact quot_down a b c ha hb hc h0 w
theorem quot_up_any (a b c : Int) (ha : I64 a) (hb : I64 b) (hc : I64 c) (w : World) :
    Calls Tryz.prog 136 #[.int .i64 a, .int .i64 b, .int .i64 c, .int .i64 1] w fun e w' => e = .returned (.tuple #[.int .i64 (muldiv 1 a b c).1, .int .i64 (muldiv 1 a b c).2]) ∧ ∃ n, w' = w.drewN n := by
  by_cases h0 : c = 0
  · subst h0
    rw [muldiv_zero]
    exact quot_zero a b 1 w
  · exact quot_up a b c ha hb hc h0 w
theorem quot_near_any (a b c : Int) (ha : I64 a) (hb : I64 b) (hc : I64 c) (w : World) :
    Calls Tryz.prog 136 #[.int .i64 a, .int .i64 b, .int .i64 c, .int .i64 2] w fun e w' => e = .returned (.tuple #[.int .i64 (muldiv 2 a b c).1, .int .i64 (muldiv 2 a b c).2]) ∧ ∃ n, w' = w.drewN n := by
  by_cases h0 : c = 0
  · subst h0
    rw [muldiv_zero]
    exact quot_zero a b 2 w
  · exact quot_near a b c ha hb hc h0 w
theorem rround_any (a b : Int) (ha : I64 a) (hb : I64 b) (w : World) :
    Calls Tryz.prog 124 #[.int .i64 a, .int .i64 b] w fun e w' => e = .returned (.tuple #[.int .i64 (muldiv 2 a 1 b).1, .int .i64 (muldiv 2 a 1 b).2]) ∧ ∃ n, w' = w.drewN n := by
  go_enter Tryz.func124, Tryz.ntmps124
  go_wp2_with (go_at_call 136; refine (quot_near_any _ _ _ (by first | assumption | exact I64_one) (by first | assumption | exact I64_one) (by assumption) _).mono ?_; rintro e w' ⟨rfl, m, rfl⟩)
  go_ret2
  exact ⟨rfl, _, rfl⟩
theorem rmuldivround_any (a b c : Int) (ha : I64 a) (hb : I64 b) (hc : I64 c) (w : World) :
    Calls Tryz.prog 134 #[.int .i64 a, .int .i64 b, .int .i64 c] w fun e w' => e = .returned (.tuple #[.int .i64 (muldiv 2 a b c).1, .int .i64 (muldiv 2 a b c).2]) ∧ ∃ n, w' = w.drewN n := by
  go_enter Tryz.func134, Tryz.ntmps134
  go_wp2_with (go_at_call 136; refine (quot_near_any _ _ _ (by first | assumption | exact I64_one) (by first | assumption | exact I64_one) (by assumption) _).mono ?_; rintro e w' ⟨rfl, m, rfl⟩)
  go_ret2
  exact ⟨rfl, _, rfl⟩
theorem rmuldivup_any (a b c : Int) (ha : I64 a) (hb : I64 b) (hc : I64 c) (w : World) :
    Calls Tryz.prog 86 #[.int .i64 a, .int .i64 b, .int .i64 c] w fun e w' => e = .returned (.tuple #[.int .i64 (muldiv 1 a b c).1, .int .i64 (muldiv 1 a b c).2]) ∧ ∃ n, w' = w.drewN n := by
  go_enter Tryz.func86, Tryz.ntmps86
  go_wp2_with (go_at_call 136; refine (quot_up_any _ _ _ (by first | assumption | exact I64_one) (by first | assumption | exact I64_one) (by assumption) _).mono ?_; rintro e w' ⟨rfl, m, rfl⟩)
  go_ret2
  exact ⟨rfl, _, rfl⟩
theorem rmuldivdown_any (a b c : Int) (ha : I64 a) (hb : I64 b) (hc : I64 c) (w : World) :
    Calls Tryz.prog 163 #[.int .i64 a, .int .i64 b, .int .i64 c] w fun e w' => e = .returned (.tuple #[.int .i64 (muldiv 0 a b c).1, .int .i64 (muldiv 0 a b c).2]) ∧ ∃ n, w' = w.drewN n := by
  go_enter Tryz.func163, Tryz.ntmps163
  go_wp2_with (go_at_call 136; refine (quot_down_any _ _ _ (by first | assumption | exact I64_one) (by first | assumption | exact I64_one) (by assumption) _).mono ?_; rintro e w' ⟨rfl, m, rfl⟩)
  go_ret2
  exact ⟨rfl, _, rfl⟩
end Go.Proofs.YtjjdojokkmfbmaaGreatDoor
/-
  The walk of the reference's square root.
-/
namespace Go.Proofs.YtjjdojokkmfbmaaGreatDoor
open Go.RowKit
set_option linter.unusedVariables false
theorem root_end {n r : Int} (hn : 0 ≤ n) (hr : 0 ≤ r) (h1 : r * r ≤ n) (h2 : n < (r + 1) * (r + 1)) : r = isq n.toNat := by
  have e := isq_eq (n := n.toNat) (r := r.toNat) (by
    have : ((r.toNat * r.toNat : Nat) : Int) ≤ (n.toNat : Int) := by
      rw [Int.natCast_mul, Int.toNat_of_nonneg hr, Int.toNat_of_nonneg hn]; exact h1
    omega) (by
    have : (n.toNat : Int) < (((r.toNat + 1) * (r.toNat + 1) : Nat) : Int) := by
      rw [Int.natCast_mul, Int.natCast_add, Int.toNat_of_nonneg hr, Int.toNat_of_nonneg hn]; exact h2
    omega)
  rw [e, Int.toNat_of_nonneg hr]
theorem rsqrt_any (n : Int) (hn : I64 n) (w : World) :
    Calls Tryz.prog 87 #[.int .i64 n] w fun e w' => e = .returned (.int .i64 (isq n.toNat)) ∧ w = w' := by
  obtain ⟨n1, n2⟩ := hn
  by_cases h0 : n < 0
  · have e : isq n.toNat = 0 := by rw [show n.toNat = 0 from by omega]; rfl
    go_enter Tryz.func87, Tryz.ntmps87
    go_wp2
    go_ret
    exact ⟨ret_int (by rw [e]; rfl), rfl⟩
  · go_enter Tryz.func87, Tryz.ntmps87
    go_wp2
    go_loop [3, 4] (fun a b => ∃ (k : Nat) (p r : Int), a = .int .u64 r ∧ b = .int .u64 (p / 2) ∧ k ≤ 32 ∧ Hid (p = 2 ^ k) ∧ 1 ≤ p ∧ 0 ≤ r ∧ r + p ≤ 4294967296 ∧ Hid (r * r ≤ n) ∧ Hid (n < (r + p) * (r + p))) (fun _ b => (intOf b).toNat)
    case atStart => exact ⟨32, 4294967296, 0, rfl, rfl, by omega, rfl, by omega, by omega, by omega, show _ ≤ _ by omega, show _ < _ by omega⟩
    case round =>
      obtain ⟨k, p, r, rfl, rfl, k1, k2, p1, r0, r1, I1, I2⟩ := hrel
      by_cases hk : k = 0
      · subst hk
        obtain rfl : p = 1 := k2.out
        have F := root_end (by omega) r0 I1.out I2.out
        have HF := hide F
        clear F
        go_wp2
        go_ret
        exact ⟨ret_int (by rw [← HF.out]), rfl⟩
      · obtain ⟨j, rfl⟩ : ∃ j, k = j + 1 := ⟨k - 1, by omega⟩
        have e : p = 2 * 2 ^ j := by rw [k2.out, Int.pow_succ]; omega
        obtain ⟨b, hb⟩ : ∃ b : Int, b = 2 ^ j := ⟨_, rfl⟩
        have hb' := hide hb
        rw [← hb] at e
        have eb : p / 2 = b := by omega
        have b1 : 1 ≤ b := by omega
        rw [show r + p = r + 2 * b by omega] at I2
        have eb2 : 2 * b / 2 = b := by omega
        subst e
        clear hb k2 eb
        rw [eb2]
        have w1 : IntKind.u64.wrap (r + b) = r + b := by rw [IntKind.wrap_u64]; omega
        have m0 : 0 ≤ (r + b) * (r + b) := Int.mul_nonneg (by omega) (by omega)
        have m1 : (r + b) * (r + b) ≤ 4294967295 * 4294967295 := Int.mul_le_mul (by omega) (by omega) (by omega) (by omega)
        have w2 : IntKind.u64.wrap ((r + b) * (r + b)) = (r + b) * (r + b) := by rw [IntKind.wrap_u64]; omega
        have w3 : IntKind.u64.wrap n = n := by rw [IntKind.wrap_u64]; omega
        by_cases t : (r + b) * (r + b) ≤ n
        · have t' := hide t
          go_wp2
          go_round
          case rel => exact ⟨j, b, r + b, rfl, rfl, by omega, hb', by omega, by omega, by omega, t', show _ < _ by rw [show r + b + b = r + 2 * b by omega]; exact I2.out⟩
          case measure => simp [intOf]; omega
        · have t' : Hid (n < (r + b) * (r + b)) := Int.not_le.1 t
          go_wp2
          go_round
          case rel => exact ⟨j, b, r, rfl, rfl, by omega, hb', by omega, by omega, by omega, I1, t'⟩
          case measure => simp [intOf]; omega
end Go.Proofs.YtjjdojokkmfbmaaGreatDoor
