/-
  The walk of the reference's angle of a vector.
-/
import Derived.Test.YtjjdojokkmfbmaaGreatDoorMAtan
set_option maxRecDepth 100000
set_option maxHeartbeats 16000000
namespace Go.Proofs.YtjjdojokkmfbmaaGreatDoor
open Go.RowKit
set_option linter.unusedVariables false
theorem routside_no (x : Int) (h : -2147483647 ≤ x) (h2 : x ≤ 2147483647) (w : World) :
    Calls Tryz.prog 161 #[.int .i64 x] w fun e w' => e = .returned (.bool false) ∧ w = w' := by
  go_enter Tryz.func161, Tryz.ntmps161
  go_wp2
  all_goals
    go_ret
    exact ⟨ret_bool (by simp; omega), rfl⟩
theorem atP_bds (c m n : Int) (m0 : 0 ≤ m) (m1 : m ≤ 2147483647) (n0 : 0 ≤ n) (n1 : n ≤ 2147483647) :
    (-2305843008139952128 ≤ Sin c * m ∧ Sin c * m ≤ 2305843008139952128) ∧ (-2305843008139952128 ≤ Cos c * n ∧ Cos c * n ≤ 2305843008139952128) := by
  have sb := Sin_bd c
  have cb := Cos_bd c
  have p1 : Sin c * m ≤ 1073741824 * m := Int.mul_le_mul_of_nonneg_right sb.2 m0
  have p2 : -1073741824 * m ≤ Sin c * m := Int.mul_le_mul_of_nonneg_right sb.1 m0
  have p3 : Cos c * n ≤ 1073741824 * n := Int.mul_le_mul_of_nonneg_right cb.2 n0
  have p4 : -1073741824 * n ≤ Cos c * n := Int.mul_le_mul_of_nonneg_right cb.1 n0
  omega
theorem mid_int (c d : Int) (c0 : 0 ≤ c) (h : 1 < d - c) (d1 : d ≤ 16200001) : c < (c + d) / 2 ∧ (c + d) / 2 < d := by omega
theorem ratan_111 (y x : Int) (hy : -2147483647 ≤ y) (hy2 : y ≤ 2147483647) (hx : -2147483647 ≤ x) (hx2 : x ≤ 2147483647)
    (s1 : 0 ≤ x) (s2 : 0 ≤ y) (T : ((y == 0) = true ∧ (x == 0) = false) ∨ (y == 0) = false) (t : x < y) (C : Int) (hC : C = atanC y x) (Q : Int) (hQ : Q = 32400000 - C) (w : World) :
    Calls Tryz.prog 122 #[.int .i64 y, .int .i64 x] w fun e w' => e = .returned (.tuple #[.int .i64 (Q), .int .i64 0]) ∧ w = w' := by
  have cb := atanC_bd y x
  rw [← hC] at cb
  have HC := hide hC
  have HQ := hide hQ
  clear hC hQ
  obtain ⟨M, hM⟩ : ∃ M, y = M := ⟨_, rfl⟩
  obtain ⟨N, hN⟩ : ∃ N, x = N := ⟨_, rfl⟩
  have mx : max y x = M := by omega
  have mn : min y x = N := by omega
  have m0 : 0 ≤ M ∧ M ≤ 2147483647 := by omega
  have n0 : 0 ≤ N ∧ N ≤ 2147483647 := by omega
  obtain ⟨m0, m1⟩ := m0
  obtain ⟨n0, n1⟩ := n0
  rw [hM, hN] at HC
  clear hM hN
  rcases T with ⟨T1, T2⟩ | T1
  all_goals
    go_enter Tryz.func122, Tryz.ntmps122
    go_wp2_with (go_at_call 161; refine (routside_no _ (by omega) (by omega) _).mono ?_; rintro e w' ⟨rfl, rfl⟩)
    clear mx mn
    go_loop [10, 11] (fun a b => ∃ c d : Int, a = .int .i64 c ∧ b = .int .i64 d ∧ 0 ≤ c ∧ c < d ∧ d ≤ 16200001 ∧ Hid (c = 0 ∨ (!atP' M N (c - 1 + 1)) = false) ∧ Hid (d = 16200001 ∨ (!atP' M N d) = true)) (fun a b => (intOf b - intOf a).toNat)
    case atStart => exact ⟨0, 16200001, rfl, rfl, by omega, by omega, by omega, .inl rfl, .inl rfl⟩
    case round =>
      obtain ⟨c, d, rfl, rfl, c0, cd, d1, I1, I2⟩ := hrel
      by_cases u : 1 < d - c
      · obtain ⟨h1, h2⟩ := mid_int c d c0 u d1
        obtain ⟨⟨p1, p2⟩, p3, p4⟩ := atP_bds ((c + d) / 2) M N m0 m1 n0 n1
        have I := fun w => rSin_any ((c + d) / 2) (by unfold I64; omega) w
        have J := fun w => rCos_any ((c + d) / 2) (by unfold I64; omega) w
        have I := hide I
        have J := hide J
        by_cases v : Sin ((c + d) / 2) * M ≤ Cos ((c + d) / 2) * N
        · have V : Hid ((!atP' M N ((c + d) / 2)) = false) := by
            unfold atP'; rw [decide_eq_true v]; rfl
          go_wp2_with (first | (go_at_call 125; refine (I.out _).mono ?_; rintro e w' ⟨rfl, rfl⟩) | (go_at_call 126; refine (J.out _).mono ?_; rintro e w' ⟨rfl, rfl⟩))
          go_round
          case rel => exact ⟨(c + d) / 2, d, rfl, rfl, by omega, by omega, by omega, .inr (by rw [show (c + d) / 2 - 1 + 1 = (c + d) / 2 by omega]; exact V.out), I2⟩
          case measure => simp [intOf]; omega
        · have V : Hid ((!atP' M N ((c + d) / 2)) = true) := by
            unfold atP'; rw [decide_eq_false v]; rfl
          go_wp2_with (first | (go_at_call 125; refine (I.out _).mono ?_; rintro e w' ⟨rfl, rfl⟩) | (go_at_call 126; refine (J.out _).mono ?_; rintro e w' ⟨rfl, rfl⟩))
          go_round
          case rel => exact ⟨c, (c + d) / 2, rfl, rfl, by omega, by omega, by omega, I1, .inr V.out⟩
          case measure => simp [intOf]; omega
      · obtain rfl : d = c + 1 := by omega
        have E := (atP_end m0 n0 c0 (by omega) (I2.out.imp (fun h => by omega) id) I1.out).trans HC.out.symm
        subst E
        have HQ2 := HQ.out
        subst HQ2
        go_wp2_with (go_at_call 45; refine (rnorm_any _ (by unfold I64; omega) _).mono ?_; rintro e w' ⟨rfl, rfl⟩)
        go_ret2
        exact ⟨rfl, rfl⟩
theorem ratan_110 (y x : Int) (hy : -2147483647 ≤ y) (hy2 : y ≤ 2147483647) (hx : -2147483647 ≤ x) (hx2 : x ≤ 2147483647)
    (s1 : 0 ≤ x) (s2 : y < 0) (T : ((y == 0) = true ∧ (x == 0) = false) ∨ (y == 0) = false) (t : x < (-y)) (C : Int) (hC : C = atanC (-y) x) (Q : Int) (hQ : Q = 32400000 - C) (w : World) :
    Calls Tryz.prog 122 #[.int .i64 y, .int .i64 x] w fun e w' => e = .returned (.tuple #[.int .i64 (norm (-Q)), .int .i64 0]) ∧ w = w' := by
  have cb := atanC_bd (-y) x
  rw [← hC] at cb
  have HC := hide hC
  have HQ := hide hQ
  clear hC hQ
  obtain ⟨M, hM⟩ : ∃ M, (-y) = M := ⟨_, rfl⟩
  obtain ⟨N, hN⟩ : ∃ N, x = N := ⟨_, rfl⟩
  have mx : max (-y) x = M := by omega
  have mn : min (-y) x = N := by omega
  have m0 : 0 ≤ M ∧ M ≤ 2147483647 := by omega
  have n0 : 0 ≤ N ∧ N ≤ 2147483647 := by omega
  obtain ⟨m0, m1⟩ := m0
  obtain ⟨n0, n1⟩ := n0
  rw [hM, hN] at HC
  clear hM hN
  rcases T with ⟨T1, T2⟩ | T1
  all_goals
    go_enter Tryz.func122, Tryz.ntmps122
    go_wp2_with (go_at_call 161; refine (routside_no _ (by omega) (by omega) _).mono ?_; rintro e w' ⟨rfl, rfl⟩)
    clear mx mn
    go_loop [10, 11] (fun a b => ∃ c d : Int, a = .int .i64 c ∧ b = .int .i64 d ∧ 0 ≤ c ∧ c < d ∧ d ≤ 16200001 ∧ Hid (c = 0 ∨ (!atP' M N (c - 1 + 1)) = false) ∧ Hid (d = 16200001 ∨ (!atP' M N d) = true)) (fun a b => (intOf b - intOf a).toNat)
    case atStart => exact ⟨0, 16200001, rfl, rfl, by omega, by omega, by omega, .inl rfl, .inl rfl⟩
    case round =>
      obtain ⟨c, d, rfl, rfl, c0, cd, d1, I1, I2⟩ := hrel
      by_cases u : 1 < d - c
      · obtain ⟨h1, h2⟩ := mid_int c d c0 u d1
        obtain ⟨⟨p1, p2⟩, p3, p4⟩ := atP_bds ((c + d) / 2) M N m0 m1 n0 n1
        have I := fun w => rSin_any ((c + d) / 2) (by unfold I64; omega) w
        have J := fun w => rCos_any ((c + d) / 2) (by unfold I64; omega) w
        have I := hide I
        have J := hide J
        by_cases v : Sin ((c + d) / 2) * M ≤ Cos ((c + d) / 2) * N
        · have V : Hid ((!atP' M N ((c + d) / 2)) = false) := by
            unfold atP'; rw [decide_eq_true v]; rfl
          go_wp2_with (first | (go_at_call 125; refine (I.out _).mono ?_; rintro e w' ⟨rfl, rfl⟩) | (go_at_call 126; refine (J.out _).mono ?_; rintro e w' ⟨rfl, rfl⟩))
          go_round
          case rel => exact ⟨(c + d) / 2, d, rfl, rfl, by omega, by omega, by omega, .inr (by rw [show (c + d) / 2 - 1 + 1 = (c + d) / 2 by omega]; exact V.out), I2⟩
          case measure => simp [intOf]; omega
        · have V : Hid ((!atP' M N ((c + d) / 2)) = true) := by
            unfold atP'; rw [decide_eq_false v]; rfl
          go_wp2_with (first | (go_at_call 125; refine (I.out _).mono ?_; rintro e w' ⟨rfl, rfl⟩) | (go_at_call 126; refine (J.out _).mono ?_; rintro e w' ⟨rfl, rfl⟩))
          go_round
          case rel => exact ⟨c, (c + d) / 2, rfl, rfl, by omega, by omega, by omega, I1, .inr V.out⟩
          case measure => simp [intOf]; omega
      · obtain rfl : d = c + 1 := by omega
        have E := (atP_end m0 n0 c0 (by omega) (I2.out.imp (fun h => by omega) id) I1.out).trans HC.out.symm
        subst E
        have HQ2 := HQ.out
        subst HQ2
        go_wp2_with (go_at_call 45; refine (rnorm_any _ (by unfold I64; omega) _).mono ?_; rintro e w' ⟨rfl, rfl⟩)
        go_ret2
        exact ⟨rfl, rfl⟩
theorem ratan_101 (y x : Int) (hy : -2147483647 ≤ y) (hy2 : y ≤ 2147483647) (hx : -2147483647 ≤ x) (hx2 : x ≤ 2147483647)
    (s1 : x < 0) (s2 : 0 ≤ y) (T : ((y == 0) = true ∧ (x == 0) = false) ∨ (y == 0) = false) (t : (-x) < y) (C : Int) (hC : C = atanC y (-x)) (Q : Int) (hQ : Q = 32400000 - C) (w : World) :
    Calls Tryz.prog 122 #[.int .i64 y, .int .i64 x] w fun e w' => e = .returned (.tuple #[.int .i64 (64800000 - Q), .int .i64 0]) ∧ w = w' := by
  have cb := atanC_bd y (-x)
  rw [← hC] at cb
  have HC := hide hC
  have HQ := hide hQ
  clear hC hQ
  obtain ⟨M, hM⟩ : ∃ M, y = M := ⟨_, rfl⟩
  obtain ⟨N, hN⟩ : ∃ N, (-x) = N := ⟨_, rfl⟩
  have mx : max y (-x) = M := by omega
  have mn : min y (-x) = N := by omega
  have m0 : 0 ≤ M ∧ M ≤ 2147483647 := by omega
  have n0 : 0 ≤ N ∧ N ≤ 2147483647 := by omega
  obtain ⟨m0, m1⟩ := m0
  obtain ⟨n0, n1⟩ := n0
  rw [hM, hN] at HC
  clear hM hN
  rcases T with ⟨T1, T2⟩ | T1
  all_goals
    go_enter Tryz.func122, Tryz.ntmps122
    go_wp2_with (go_at_call 161; refine (routside_no _ (by omega) (by omega) _).mono ?_; rintro e w' ⟨rfl, rfl⟩)
    clear mx mn
    go_loop [10, 11] (fun a b => ∃ c d : Int, a = .int .i64 c ∧ b = .int .i64 d ∧ 0 ≤ c ∧ c < d ∧ d ≤ 16200001 ∧ Hid (c = 0 ∨ (!atP' M N (c - 1 + 1)) = false) ∧ Hid (d = 16200001 ∨ (!atP' M N d) = true)) (fun a b => (intOf b - intOf a).toNat)
    case atStart => exact ⟨0, 16200001, rfl, rfl, by omega, by omega, by omega, .inl rfl, .inl rfl⟩
    case round =>
      obtain ⟨c, d, rfl, rfl, c0, cd, d1, I1, I2⟩ := hrel
      by_cases u : 1 < d - c
      · obtain ⟨h1, h2⟩ := mid_int c d c0 u d1
        obtain ⟨⟨p1, p2⟩, p3, p4⟩ := atP_bds ((c + d) / 2) M N m0 m1 n0 n1
        have I := fun w => rSin_any ((c + d) / 2) (by unfold I64; omega) w
        have J := fun w => rCos_any ((c + d) / 2) (by unfold I64; omega) w
        have I := hide I
        have J := hide J
        by_cases v : Sin ((c + d) / 2) * M ≤ Cos ((c + d) / 2) * N
        · have V : Hid ((!atP' M N ((c + d) / 2)) = false) := by
            unfold atP'; rw [decide_eq_true v]; rfl
          go_wp2_with (first | (go_at_call 125; refine (I.out _).mono ?_; rintro e w' ⟨rfl, rfl⟩) | (go_at_call 126; refine (J.out _).mono ?_; rintro e w' ⟨rfl, rfl⟩))
          go_round
          case rel => exact ⟨(c + d) / 2, d, rfl, rfl, by omega, by omega, by omega, .inr (by rw [show (c + d) / 2 - 1 + 1 = (c + d) / 2 by omega]; exact V.out), I2⟩
          case measure => simp [intOf]; omega
        · have V : Hid ((!atP' M N ((c + d) / 2)) = true) := by
            unfold atP'; rw [decide_eq_false v]; rfl
          go_wp2_with (first | (go_at_call 125; refine (I.out _).mono ?_; rintro e w' ⟨rfl, rfl⟩) | (go_at_call 126; refine (J.out _).mono ?_; rintro e w' ⟨rfl, rfl⟩))
          go_round
          case rel => exact ⟨c, (c + d) / 2, rfl, rfl, by omega, by omega, by omega, I1, .inr V.out⟩
          case measure => simp [intOf]; omega
      · obtain rfl : d = c + 1 := by omega
        have E := (atP_end m0 n0 c0 (by omega) (I2.out.imp (fun h => by omega) id) I1.out).trans HC.out.symm
        subst E
        have HQ2 := HQ.out
        subst HQ2
        go_wp2_with (go_at_call 45; refine (rnorm_any _ (by unfold I64; omega) _).mono ?_; rintro e w' ⟨rfl, rfl⟩)
        go_ret2
        exact ⟨rfl, rfl⟩
theorem ratan_100 (y x : Int) (hy : -2147483647 ≤ y) (hy2 : y ≤ 2147483647) (hx : -2147483647 ≤ x) (hx2 : x ≤ 2147483647)
    (s1 : x < 0) (s2 : y < 0) (T : ((y == 0) = true ∧ (x == 0) = false) ∨ (y == 0) = false) (t : (-x) < (-y)) (C : Int) (hC : C = atanC (-y) (-x)) (Q : Int) (hQ : Q = 32400000 - C) (w : World) :
    Calls Tryz.prog 122 #[.int .i64 y, .int .i64 x] w fun e w' => e = .returned (.tuple #[.int .i64 (64800000 + Q), .int .i64 0]) ∧ w = w' := by
  have cb := atanC_bd (-y) (-x)
  rw [← hC] at cb
  have HC := hide hC
  have HQ := hide hQ
  clear hC hQ
  obtain ⟨M, hM⟩ : ∃ M, (-y) = M := ⟨_, rfl⟩
  obtain ⟨N, hN⟩ : ∃ N, (-x) = N := ⟨_, rfl⟩
  have mx : max (-y) (-x) = M := by omega
  have mn : min (-y) (-x) = N := by omega
  have m0 : 0 ≤ M ∧ M ≤ 2147483647 := by omega
  have n0 : 0 ≤ N ∧ N ≤ 2147483647 := by omega
  obtain ⟨m0, m1⟩ := m0
  obtain ⟨n0, n1⟩ := n0
  rw [hM, hN] at HC
  clear hM hN
  rcases T with ⟨T1, T2⟩ | T1
  all_goals
    go_enter Tryz.func122, Tryz.ntmps122
    go_wp2_with (go_at_call 161; refine (routside_no _ (by omega) (by omega) _).mono ?_; rintro e w' ⟨rfl, rfl⟩)
    clear mx mn
    go_loop [10, 11] (fun a b => ∃ c d : Int, a = .int .i64 c ∧ b = .int .i64 d ∧ 0 ≤ c ∧ c < d ∧ d ≤ 16200001 ∧ Hid (c = 0 ∨ (!atP' M N (c - 1 + 1)) = false) ∧ Hid (d = 16200001 ∨ (!atP' M N d) = true)) (fun a b => (intOf b - intOf a).toNat)
    case atStart => exact ⟨0, 16200001, rfl, rfl, by omega, by omega, by omega, .inl rfl, .inl rfl⟩
    case round =>
      obtain ⟨c, d, rfl, rfl, c0, cd, d1, I1, I2⟩ := hrel
      by_cases u : 1 < d - c
      · obtain ⟨h1, h2⟩ := mid_int c d c0 u d1
        obtain ⟨⟨p1, p2⟩, p3, p4⟩ := atP_bds ((c + d) / 2) M N m0 m1 n0 n1
        have I := fun w => rSin_any ((c + d) / 2) (by unfold I64; omega) w
        have J := fun w => rCos_any ((c + d) / 2) (by unfold I64; omega) w
        have I := hide I
        have J := hide J
        by_cases v : Sin ((c + d) / 2) * M ≤ Cos ((c + d) / 2) * N
        · have V : Hid ((!atP' M N ((c + d) / 2)) = false) := by
            unfold atP'; rw [decide_eq_true v]; rfl
          go_wp2_with (first | (go_at_call 125; refine (I.out _).mono ?_; rintro e w' ⟨rfl, rfl⟩) | (go_at_call 126; refine (J.out _).mono ?_; rintro e w' ⟨rfl, rfl⟩))
          go_round
          case rel => exact ⟨(c + d) / 2, d, rfl, rfl, by omega, by omega, by omega, .inr (by rw [show (c + d) / 2 - 1 + 1 = (c + d) / 2 by omega]; exact V.out), I2⟩
          case measure => simp [intOf]; omega
        · have V : Hid ((!atP' M N ((c + d) / 2)) = true) := by
            unfold atP'; rw [decide_eq_false v]; rfl
          go_wp2_with (first | (go_at_call 125; refine (I.out _).mono ?_; rintro e w' ⟨rfl, rfl⟩) | (go_at_call 126; refine (J.out _).mono ?_; rintro e w' ⟨rfl, rfl⟩))
          go_round
          case rel => exact ⟨c, (c + d) / 2, rfl, rfl, by omega, by omega, by omega, I1, .inr V.out⟩
          case measure => simp [intOf]; omega
      · obtain rfl : d = c + 1 := by omega
        have E := (atP_end m0 n0 c0 (by omega) (I2.out.imp (fun h => by omega) id) I1.out).trans HC.out.symm
        subst E
        have HQ2 := HQ.out
        subst HQ2
        go_wp2_with (go_at_call 45; refine (rnorm_any _ (by unfold I64; omega) _).mono ?_; rintro e w' ⟨rfl, rfl⟩)
        go_ret2
        exact ⟨rfl, rfl⟩
theorem ratan_011 (y x : Int) (hy : -2147483647 ≤ y) (hy2 : y ≤ 2147483647) (hx : -2147483647 ≤ x) (hx2 : x ≤ 2147483647)
    (s1 : 0 ≤ x) (s2 : 0 ≤ y) (T : ((y == 0) = true ∧ (x == 0) = false) ∨ (y == 0) = false) (t : y ≤ x) (C : Int) (hC : C = atanC x y) (Q : Int) (hQ : Q = C) (w : World) :
    Calls Tryz.prog 122 #[.int .i64 y, .int .i64 x] w fun e w' => e = .returned (.tuple #[.int .i64 (Q), .int .i64 0]) ∧ w = w' := by
  have cb := atanC_bd x y
  rw [← hC] at cb
  have HC := hide hC
  have HQ := hide hQ
  clear hC hQ
  obtain ⟨M, hM⟩ : ∃ M, x = M := ⟨_, rfl⟩
  obtain ⟨N, hN⟩ : ∃ N, y = N := ⟨_, rfl⟩
  have mx : max y x = M := by omega
  have mn : min y x = N := by omega
  have m0 : 0 ≤ M ∧ M ≤ 2147483647 := by omega
  have n0 : 0 ≤ N ∧ N ≤ 2147483647 := by omega
  obtain ⟨m0, m1⟩ := m0
  obtain ⟨n0, n1⟩ := n0
  rw [hM, hN] at HC
  clear hM hN
  rcases T with ⟨T1, T2⟩ | T1
  all_goals
    go_enter Tryz.func122, Tryz.ntmps122
    go_wp2_with (go_at_call 161; refine (routside_no _ (by omega) (by omega) _).mono ?_; rintro e w' ⟨rfl, rfl⟩)
    clear mx mn
    go_loop [10, 11] (fun a b => ∃ c d : Int, a = .int .i64 c ∧ b = .int .i64 d ∧ 0 ≤ c ∧ c < d ∧ d ≤ 16200001 ∧ Hid (c = 0 ∨ (!atP' M N (c - 1 + 1)) = false) ∧ Hid (d = 16200001 ∨ (!atP' M N d) = true)) (fun a b => (intOf b - intOf a).toNat)
    case atStart => exact ⟨0, 16200001, rfl, rfl, by omega, by omega, by omega, .inl rfl, .inl rfl⟩
    case round =>
      obtain ⟨c, d, rfl, rfl, c0, cd, d1, I1, I2⟩ := hrel
      by_cases u : 1 < d - c
      · obtain ⟨h1, h2⟩ := mid_int c d c0 u d1
        obtain ⟨⟨p1, p2⟩, p3, p4⟩ := atP_bds ((c + d) / 2) M N m0 m1 n0 n1
        have I := fun w => rSin_any ((c + d) / 2) (by unfold I64; omega) w
        have J := fun w => rCos_any ((c + d) / 2) (by unfold I64; omega) w
        have I := hide I
        have J := hide J
        by_cases v : Sin ((c + d) / 2) * M ≤ Cos ((c + d) / 2) * N
        · have V : Hid ((!atP' M N ((c + d) / 2)) = false) := by
            unfold atP'; rw [decide_eq_true v]; rfl
          go_wp2_with (first | (go_at_call 125; refine (I.out _).mono ?_; rintro e w' ⟨rfl, rfl⟩) | (go_at_call 126; refine (J.out _).mono ?_; rintro e w' ⟨rfl, rfl⟩))
          go_round
          case rel => exact ⟨(c + d) / 2, d, rfl, rfl, by omega, by omega, by omega, .inr (by rw [show (c + d) / 2 - 1 + 1 = (c + d) / 2 by omega]; exact V.out), I2⟩
          case measure => simp [intOf]; omega
        · have V : Hid ((!atP' M N ((c + d) / 2)) = true) := by
            unfold atP'; rw [decide_eq_false v]; rfl
          go_wp2_with (first | (go_at_call 125; refine (I.out _).mono ?_; rintro e w' ⟨rfl, rfl⟩) | (go_at_call 126; refine (J.out _).mono ?_; rintro e w' ⟨rfl, rfl⟩))
          go_round
          case rel => exact ⟨c, (c + d) / 2, rfl, rfl, by omega, by omega, by omega, I1, .inr V.out⟩
          case measure => simp [intOf]; omega
      · obtain rfl : d = c + 1 := by omega
        have E := (atP_end m0 n0 c0 (by omega) (I2.out.imp (fun h => by omega) id) I1.out).trans HC.out.symm
        subst E
        have HQ2 := HQ.out
        subst HQ2
        go_wp2_with (go_at_call 45; refine (rnorm_any _ (by unfold I64; omega) _).mono ?_; rintro e w' ⟨rfl, rfl⟩)
        go_ret2
        exact ⟨rfl, rfl⟩
theorem ratan_010 (y x : Int) (hy : -2147483647 ≤ y) (hy2 : y ≤ 2147483647) (hx : -2147483647 ≤ x) (hx2 : x ≤ 2147483647)
    (s1 : 0 ≤ x) (s2 : y < 0) (T : ((y == 0) = true ∧ (x == 0) = false) ∨ (y == 0) = false) (t : (-y) ≤ x) (C : Int) (hC : C = atanC x (-y)) (Q : Int) (hQ : Q = C) (w : World) :
    Calls Tryz.prog 122 #[.int .i64 y, .int .i64 x] w fun e w' => e = .returned (.tuple #[.int .i64 (norm (-Q)), .int .i64 0]) ∧ w = w' := by
  have cb := atanC_bd x (-y)
  rw [← hC] at cb
  have HC := hide hC
  have HQ := hide hQ
  clear hC hQ
  obtain ⟨M, hM⟩ : ∃ M, x = M := ⟨_, rfl⟩
  obtain ⟨N, hN⟩ : ∃ N, (-y) = N := ⟨_, rfl⟩
  have mx : max (-y) x = M := by omega
  have mn : min (-y) x = N := by omega
  have m0 : 0 ≤ M ∧ M ≤ 2147483647 := by omega
  have n0 : 0 ≤ N ∧ N ≤ 2147483647 := by omega
  obtain ⟨m0, m1⟩ := m0
  obtain ⟨n0, n1⟩ := n0
  rw [hM, hN] at HC
  clear hM hN
  rcases T with ⟨T1, T2⟩ | T1
  all_goals
    go_enter Tryz.func122, Tryz.ntmps122
    go_wp2_with (go_at_call 161; refine (routside_no _ (by omega) (by omega) _).mono ?_; rintro e w' ⟨rfl, rfl⟩)
    clear mx mn
    go_loop [10, 11] (fun a b => ∃ c d : Int, a = .int .i64 c ∧ b = .int .i64 d ∧ 0 ≤ c ∧ c < d ∧ d ≤ 16200001 ∧ Hid (c = 0 ∨ (!atP' M N (c - 1 + 1)) = false) ∧ Hid (d = 16200001 ∨ (!atP' M N d) = true)) (fun a b => (intOf b - intOf a).toNat)
    case atStart => exact ⟨0, 16200001, rfl, rfl, by omega, by omega, by omega, .inl rfl, .inl rfl⟩
    case round =>
      obtain ⟨c, d, rfl, rfl, c0, cd, d1, I1, I2⟩ := hrel
      by_cases u : 1 < d - c
      · obtain ⟨h1, h2⟩ := mid_int c d c0 u d1
        obtain ⟨⟨p1, p2⟩, p3, p4⟩ := atP_bds ((c + d) / 2) M N m0 m1 n0 n1
        have I := fun w => rSin_any ((c + d) / 2) (by unfold I64; omega) w
        have J := fun w => rCos_any ((c + d) / 2) (by unfold I64; omega) w
        have I := hide I
        have J := hide J
        by_cases v : Sin ((c + d) / 2) * M ≤ Cos ((c + d) / 2) * N
        · have V : Hid ((!atP' M N ((c + d) / 2)) = false) := by
            unfold atP'; rw [decide_eq_true v]; rfl
          go_wp2_with (first | (go_at_call 125; refine (I.out _).mono ?_; rintro e w' ⟨rfl, rfl⟩) | (go_at_call 126; refine (J.out _).mono ?_; rintro e w' ⟨rfl, rfl⟩))
          go_round
          case rel => exact ⟨(c + d) / 2, d, rfl, rfl, by omega, by omega, by omega, .inr (by rw [show (c + d) / 2 - 1 + 1 = (c + d) / 2 by omega]; exact V.out), I2⟩
          case measure => simp [intOf]; omega
        · have V : Hid ((!atP' M N ((c + d) / 2)) = true) := by
            unfold atP'; rw [decide_eq_false v]; rfl
          go_wp2_with (first | (go_at_call 125; refine (I.out _).mono ?_; rintro e w' ⟨rfl, rfl⟩) | (go_at_call 126; refine (J.out _).mono ?_; rintro e w' ⟨rfl, rfl⟩))
          go_round
          case rel => exact ⟨c, (c + d) / 2, rfl, rfl, by omega, by omega, by omega, I1, .inr V.out⟩
          case measure => simp [intOf]; omega
      · obtain rfl : d = c + 1 := by omega
        have E := (atP_end m0 n0 c0 (by omega) (I2.out.imp (fun h => by omega) id) I1.out).trans HC.out.symm
        subst E
        have HQ2 := HQ.out
        subst HQ2
        go_wp2_with (go_at_call 45; refine (rnorm_any _ (by unfold I64; omega) _).mono ?_; rintro e w' ⟨rfl, rfl⟩)
        go_ret2
        exact ⟨rfl, rfl⟩
theorem ratan_001 (y x : Int) (hy : -2147483647 ≤ y) (hy2 : y ≤ 2147483647) (hx : -2147483647 ≤ x) (hx2 : x ≤ 2147483647)
    (s1 : x < 0) (s2 : 0 ≤ y) (T : ((y == 0) = true ∧ (x == 0) = false) ∨ (y == 0) = false) (t : y ≤ (-x)) (C : Int) (hC : C = atanC (-x) y) (Q : Int) (hQ : Q = C) (w : World) :
    Calls Tryz.prog 122 #[.int .i64 y, .int .i64 x] w fun e w' => e = .returned (.tuple #[.int .i64 (64800000 - Q), .int .i64 0]) ∧ w = w' := by
  have cb := atanC_bd (-x) y
  rw [← hC] at cb
  have HC := hide hC
  have HQ := hide hQ
  clear hC hQ
  obtain ⟨M, hM⟩ : ∃ M, (-x) = M := ⟨_, rfl⟩
  obtain ⟨N, hN⟩ : ∃ N, y = N := ⟨_, rfl⟩
  have mx : max y (-x) = M := by omega
  have mn : min y (-x) = N := by omega
  have m0 : 0 ≤ M ∧ M ≤ 2147483647 := by omega
  have n0 : 0 ≤ N ∧ N ≤ 2147483647 := by omega
  obtain ⟨m0, m1⟩ := m0
  obtain ⟨n0, n1⟩ := n0
  rw [hM, hN] at HC
  clear hM hN
  rcases T with ⟨T1, T2⟩ | T1
  all_goals
    go_enter Tryz.func122, Tryz.ntmps122
    go_wp2_with (go_at_call 161; refine (routside_no _ (by omega) (by omega) _).mono ?_; rintro e w' ⟨rfl, rfl⟩)
    clear mx mn
    go_loop [10, 11] (fun a b => ∃ c d : Int, a = .int .i64 c ∧ b = .int .i64 d ∧ 0 ≤ c ∧ c < d ∧ d ≤ 16200001 ∧ Hid (c = 0 ∨ (!atP' M N (c - 1 + 1)) = false) ∧ Hid (d = 16200001 ∨ (!atP' M N d) = true)) (fun a b => (intOf b - intOf a).toNat)
    case atStart => exact ⟨0, 16200001, rfl, rfl, by omega, by omega, by omega, .inl rfl, .inl rfl⟩
    case round =>
      obtain ⟨c, d, rfl, rfl, c0, cd, d1, I1, I2⟩ := hrel
      by_cases u : 1 < d - c
      · obtain ⟨h1, h2⟩ := mid_int c d c0 u d1
        obtain ⟨⟨p1, p2⟩, p3, p4⟩ := atP_bds ((c + d) / 2) M N m0 m1 n0 n1
        have I := fun w => rSin_any ((c + d) / 2) (by unfold I64; omega) w
        have J := fun w => rCos_any ((c + d) / 2) (by unfold I64; omega) w
        have I := hide I
        have J := hide J
        by_cases v : Sin ((c + d) / 2) * M ≤ Cos ((c + d) / 2) * N
        · have V : Hid ((!atP' M N ((c + d) / 2)) = false) := by
            unfold atP'; rw [decide_eq_true v]; rfl
          go_wp2_with (first | (go_at_call 125; refine (I.out _).mono ?_; rintro e w' ⟨rfl, rfl⟩) | (go_at_call 126; refine (J.out _).mono ?_; rintro e w' ⟨rfl, rfl⟩))
          go_round
          case rel => exact ⟨(c + d) / 2, d, rfl, rfl, by omega, by omega, by omega, .inr (by rw [show (c + d) / 2 - 1 + 1 = (c + d) / 2 by omega]; exact V.out), I2⟩
          case measure => simp [intOf]; omega
        · have V : Hid ((!atP' M N ((c + d) / 2)) = true) := by
            unfold atP'; rw [decide_eq_false v]; rfl
          go_wp2_with (first | (go_at_call 125; refine (I.out _).mono ?_; rintro e w' ⟨rfl, rfl⟩) | (go_at_call 126; refine (J.out _).mono ?_; rintro e w' ⟨rfl, rfl⟩))
          go_round
          case rel => exact ⟨c, (c + d) / 2, rfl, rfl, by omega, by omega, by omega, I1, .inr V.out⟩
          case measure => simp [intOf]; omega
      · obtain rfl : d = c + 1 := by omega
        have E := (atP_end m0 n0 c0 (by omega) (I2.out.imp (fun h => by omega) id) I1.out).trans HC.out.symm
        subst E
        have HQ2 := HQ.out
        subst HQ2
        go_wp2_with (go_at_call 45; refine (rnorm_any _ (by unfold I64; omega) _).mono ?_; rintro e w' ⟨rfl, rfl⟩)
        go_ret2
        exact ⟨rfl, rfl⟩
theorem ratan_000 (y x : Int) (hy : -2147483647 ≤ y) (hy2 : y ≤ 2147483647) (hx : -2147483647 ≤ x) (hx2 : x ≤ 2147483647)
    (s1 : x < 0) (s2 : y < 0) (T : ((y == 0) = true ∧ (x == 0) = false) ∨ (y == 0) = false) (t : (-y) ≤ (-x)) (C : Int) (hC : C = atanC (-x) (-y)) (Q : Int) (hQ : Q = C) (w : World) :
    Calls Tryz.prog 122 #[.int .i64 y, .int .i64 x] w fun e w' => e = .returned (.tuple #[.int .i64 (64800000 + Q), .int .i64 0]) ∧ w = w' := by
  have cb := atanC_bd (-x) (-y)
  rw [← hC] at cb
  have HC := hide hC
  have HQ := hide hQ
  clear hC hQ
  obtain ⟨M, hM⟩ : ∃ M, (-x) = M := ⟨_, rfl⟩
  obtain ⟨N, hN⟩ : ∃ N, (-y) = N := ⟨_, rfl⟩
  have mx : max (-y) (-x) = M := by omega
  have mn : min (-y) (-x) = N := by omega
  have m0 : 0 ≤ M ∧ M ≤ 2147483647 := by omega
  have n0 : 0 ≤ N ∧ N ≤ 2147483647 := by omega
  obtain ⟨m0, m1⟩ := m0
  obtain ⟨n0, n1⟩ := n0
  rw [hM, hN] at HC
  clear hM hN
  rcases T with ⟨T1, T2⟩ | T1
  all_goals
    go_enter Tryz.func122, Tryz.ntmps122
    go_wp2_with (go_at_call 161; refine (routside_no _ (by omega) (by omega) _).mono ?_; rintro e w' ⟨rfl, rfl⟩)
    clear mx mn
    go_loop [10, 11] (fun a b => ∃ c d : Int, a = .int .i64 c ∧ b = .int .i64 d ∧ 0 ≤ c ∧ c < d ∧ d ≤ 16200001 ∧ Hid (c = 0 ∨ (!atP' M N (c - 1 + 1)) = false) ∧ Hid (d = 16200001 ∨ (!atP' M N d) = true)) (fun a b => (intOf b - intOf a).toNat)
    case atStart => exact ⟨0, 16200001, rfl, rfl, by omega, by omega, by omega, .inl rfl, .inl rfl⟩
    case round =>
      obtain ⟨c, d, rfl, rfl, c0, cd, d1, I1, I2⟩ := hrel
      by_cases u : 1 < d - c
      · obtain ⟨h1, h2⟩ := mid_int c d c0 u d1
        obtain ⟨⟨p1, p2⟩, p3, p4⟩ := atP_bds ((c + d) / 2) M N m0 m1 n0 n1
        have I := fun w => rSin_any ((c + d) / 2) (by unfold I64; omega) w
        have J := fun w => rCos_any ((c + d) / 2) (by unfold I64; omega) w
        have I := hide I
        have J := hide J
        by_cases v : Sin ((c + d) / 2) * M ≤ Cos ((c + d) / 2) * N
        · have V : Hid ((!atP' M N ((c + d) / 2)) = false) := by
            unfold atP'; rw [decide_eq_true v]; rfl
          go_wp2_with (first | (go_at_call 125; refine (I.out _).mono ?_; rintro e w' ⟨rfl, rfl⟩) | (go_at_call 126; refine (J.out _).mono ?_; rintro e w' ⟨rfl, rfl⟩))
          go_round
          case rel => exact ⟨(c + d) / 2, d, rfl, rfl, by omega, by omega, by omega, .inr (by rw [show (c + d) / 2 - 1 + 1 = (c + d) / 2 by omega]; exact V.out), I2⟩
          case measure => simp [intOf]; omega
        · have V : Hid ((!atP' M N ((c + d) / 2)) = true) := by
            unfold atP'; rw [decide_eq_false v]; rfl
          go_wp2_with (first | (go_at_call 125; refine (I.out _).mono ?_; rintro e w' ⟨rfl, rfl⟩) | (go_at_call 126; refine (J.out _).mono ?_; rintro e w' ⟨rfl, rfl⟩))
          go_round
          case rel => exact ⟨c, (c + d) / 2, rfl, rfl, by omega, by omega, by omega, I1, .inr V.out⟩
          case measure => simp [intOf]; omega
      · obtain rfl : d = c + 1 := by omega
        have E := (atP_end m0 n0 c0 (by omega) (I2.out.imp (fun h => by omega) id) I1.out).trans HC.out.symm
        subst E
        have HQ2 := HQ.out
        subst HQ2
        go_wp2_with (go_at_call 45; refine (rnorm_any _ (by unfold I64; omega) _).mono ?_; rintro e w' ⟨rfl, rfl⟩)
        go_ret2
        exact ⟨rfl, rfl⟩
theorem ratan2_any (y x : Int) (hy : -2147483647 ≤ y) (hy2 : y ≤ 2147483647) (hx : -2147483647 ≤ x) (hx2 : x ≤ 2147483647) (h0 : ¬ (x = 0 ∧ y = 0)) (w : World) :
    Calls Tryz.prog 122 #[.int .i64 y, .int .i64 x] w fun e w' => e = .returned (.tuple #[.int .i64 (atan2F y x), .int .i64 0]) ∧ w = w' := by
  have T : ((y == 0) = true ∧ (x == 0) = false) ∨ (y == 0) = false := by
    by_cases hy0 : y = 0
    · left; simp [hy0]; intro hx0; exact h0 ⟨hx0, hy0⟩
    · right; simp [hy0]
  have F : atan2F y x = if 0 ≤ y then (if 0 ≤ x then atanQ y x else 64800000 - atanQ y x) else if x < 0 then 64800000 + atanQ y x else norm (-atanQ y x) := rfl
  have Q : atanQ y x = if x.natAbs < y.natAbs then 32400000 - atanC y.natAbs x.natAbs else atanC x.natAbs y.natAbs := rfl
  by_cases s1 : 0 ≤ x <;> by_cases s2 : 0 ≤ y
  · rw [show (x.natAbs : Int) = x by omega, show (y.natAbs : Int) = y by omega] at Q
    rw [if_pos s2, if_pos s1] at F
    rw [F]
    by_cases t : x.natAbs < y.natAbs
    · rw [if_pos t] at Q
      exact ratan_111 y x hy hy2 hx hx2 (by omega) (by omega) T (by omega) _ rfl _ Q w
    · rw [if_neg t] at Q
      exact ratan_011 y x hy hy2 hx hx2 (by omega) (by omega) T (by omega) _ rfl _ Q w
  · rw [show (x.natAbs : Int) = x by omega, show (y.natAbs : Int) = -y by omega] at Q
    rw [if_neg s2, if_neg (show ¬ x < 0 by omega)] at F
    rw [F]
    by_cases t : x.natAbs < y.natAbs
    · rw [if_pos t] at Q
      exact ratan_110 y x hy hy2 hx hx2 (by omega) (by omega) T (by omega) _ rfl _ Q w
    · rw [if_neg t] at Q
      exact ratan_010 y x hy hy2 hx hx2 (by omega) (by omega) T (by omega) _ rfl _ Q w
  · rw [show (x.natAbs : Int) = -x by omega, show (y.natAbs : Int) = y by omega] at Q
    rw [if_pos s2, if_neg s1] at F
    rw [F]
    by_cases t : x.natAbs < y.natAbs
    · rw [if_pos t] at Q
      exact ratan_101 y x hy hy2 hx hx2 (by omega) (by omega) T (by omega) _ rfl _ Q w
    · rw [if_neg t] at Q
      exact ratan_001 y x hy hy2 hx hx2 (by omega) (by omega) T (by omega) _ rfl _ Q w
  · rw [show (x.natAbs : Int) = -x by omega, show (y.natAbs : Int) = -y by omega] at Q
    rw [if_neg s2, if_pos (show x < 0 by omega)] at F
    rw [F]
    by_cases t : x.natAbs < y.natAbs
    · rw [if_pos t] at Q
      exact ratan_100 y x hy hy2 hx hx2 (by omega) (by omega) T (by omega) _ rfl _ Q w
    · rw [if_neg t] at Q
      exact ratan_000 y x hy hy2 hx hx2 (by omega) (by omega) T (by omega) _ rfl _ Q w
end Go.Proofs.YtjjdojokkmfbmaaGreatDoor
