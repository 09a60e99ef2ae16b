/-
  The walks of layer 4 (angle) and of its reference.
-/
import Derived.Test.YtjjdojokkmfbmaaGreatDoorMFixed
set_option maxRecDepth 100000
set_option maxHeartbeats 16000000
namespace Go.Proofs.YtjjdojokkmfbmaaGreatDoor
open Go.RowKit
set_option linter.unusedVariables false
theorem tmod_norm (a : Int) : (Int.tmod a 129600000 < 0 ∧ Int.tmod a 129600000 + 129600000 = norm a ∨ 0 ≤ Int.tmod a 129600000 ∧ Int.tmod a 129600000 = norm a) ∧ 0 ≤ norm a ∧ norm a < 129600000 := by
  unfold norm
  have := Int.tmod_eq_emod (a := a) (b := 129600000)
  split at this <;> omega
theorem turnF_bd (a b : Int) : 0 ≤ turnF a b ∧ turnF a b < 129600000 := norm_bd _
theorem norm_any (a : Int) (ha : I64 a) (w : World) :
    Calls Tryz.prog 34 #[.int .i64 a] w fun e w' => e = .returned (.int .i64 (norm a)) ∧ w = w' := by
  obtain ⟨a1, a2⟩ := ha
  have T := hide (tmod_norm a)
  go_enter Tryz.func34, Tryz.ntmps34
  go_wp2
  all_goals
    go_ret
    exact ⟨ret_int (by have T := T.out; first | omega | (unfold wrap64; omega)), rfl⟩
theorem rnorm_any (a : Int) (ha : I64 a) (w : World) :
    Calls Tryz.prog 45 #[.int .i64 a] w fun e w' => e = .returned (.int .i64 (norm a)) ∧ w = w' := by
  obtain ⟨a1, a2⟩ := ha
  have T := hide (tmod_norm a)
  go_enter Tryz.func45, Tryz.ntmps45
  go_wp2
  all_goals
    go_ret
    exact ⟨ret_int (by have T := T.out; first | omega | (unfold wrap64; omega)), rfl⟩
theorem turn_any (a b : Int) (ha : I64 a) (hb : I64 b) (w : World) :
    Calls Tryz.prog 117 #[.int .i64 a, .int .i64 b] w fun e w' => e = .returned (.int .i64 (turnF a b)) ∧ w = w' := by
  have b1 := norm_bd a
  have b2 := norm_bd b
  have h := hide (show turnF a b = norm (norm a + norm b) from rfl)
  generalize turnF a b = q at *
  go_enter Tryz.func117, Tryz.ntmps117
  go_wp2_with (go_at_call 34; refine (norm_any _ (by first | assumption | (unfold I64; omega)) _).mono ?_; rintro e w' ⟨rfl, rfl⟩)
  go_ret
  exact ⟨ret_int h.out.symm, rfl⟩
theorem opposite_any (a : Int) (ha : I64 a) (w : World) :
    Calls Tryz.prog 72 #[.int .i64 a] w fun e w' => e = .returned (.int .i64 (turnF a 64800000)) ∧ w = w' := by
  go_enter Tryz.func72, Tryz.ntmps72
  go_wp2_with (go_at_call 117; refine (turn_any _ _ ha (by unfold I64; omega) _).mono ?_; rintro e w' ⟨rfl, rfl⟩)
  go_ret
  exact ⟨rfl, rfl⟩
theorem sweep_right (a b : Int) (ha : I64 a) (hb : I64 b) (w : World) :
    Calls Tryz.prog 114 #[.int .i64 a, .int .i64 b, .int .u8 2] w fun e w' => e = .returned (.int .i64 (norm (norm b - norm a))) ∧ w = w' := by
  have b1 := norm_bd a
  have b2 := norm_bd b
  go_enter Tryz.func114, Tryz.ntmps114
  go_wp2_with (go_at_call 34; refine (norm_any _ (by first | assumption | (unfold I64; omega)) _).mono ?_; rintro e w' ⟨rfl, rfl⟩)
  go_ret
  exact ⟨rfl, rfl⟩
theorem sweep_left (a b : Int) (ha : I64 a) (hb : I64 b) (w : World) :
    Calls Tryz.prog 114 #[.int .i64 a, .int .i64 b, .int .u8 1] w fun e w' => e = .returned (.int .i64 (norm (norm a - norm b))) ∧ w = w' := by
  have b1 := norm_bd a
  have b2 := norm_bd b
  go_enter Tryz.func114, Tryz.ntmps114
  go_wp2_with (go_at_call 34; refine (norm_any _ (by first | assumption | (unfold I64; omega)) _).mono ?_; rintro e w' ⟨rfl, rfl⟩)
  go_ret
  exact ⟨rfl, rfl⟩
theorem rturn_any (a b : Int) (ha : I64 a) (hb : I64 b) (w : World) :
    Calls Tryz.prog 137 #[.int .i64 a, .int .i64 b] w fun e w' => e = .returned (.int .i64 (turnF a b)) ∧ w = w' := by
  have b1 := norm_bd a
  have b2 := norm_bd b
  have h := hide (show turnF a b = norm (norm a + norm b) from rfl)
  generalize turnF a b = q at *
  go_enter Tryz.func137, Tryz.ntmps137
  go_wp2_with (go_at_call 45; refine (rnorm_any _ (by first | assumption | (unfold I64; omega)) _).mono ?_; rintro e w' ⟨rfl, rfl⟩)
  go_ret
  exact ⟨ret_int h.out.symm, rfl⟩
theorem ropposite_any (a : Int) (ha : I64 a) (w : World) :
    Calls Tryz.prog 91 #[.int .i64 a] w fun e w' => e = .returned (.int .i64 (turnF a 64800000)) ∧ w = w' := by
  go_enter Tryz.func91, Tryz.ntmps91
  go_wp2_with (go_at_call 137; refine (rturn_any _ _ ha (by unfold I64; omega) _).mono ?_; rintro e w' ⟨rfl, rfl⟩)
  go_ret
  exact ⟨rfl, rfl⟩
theorem rsweep_right (a b : Int) (ha : I64 a) (hb : I64 b) (w : World) :
    Calls Tryz.prog 132 #[.int .i64 a, .int .i64 b, .int .u8 2] w fun e w' => e = .returned (.int .i64 (norm (norm b - norm a))) ∧ w = w' := by
  have b1 := norm_bd a
  have b2 := norm_bd b
  go_enter Tryz.func132, Tryz.ntmps132
  go_wp2_with (go_at_call 45; refine (rnorm_any _ (by first | assumption | (unfold I64; omega)) _).mono ?_; rintro e w' ⟨rfl, rfl⟩)
  go_ret
  exact ⟨rfl, rfl⟩
theorem rsweep_left (a b : Int) (ha : I64 a) (hb : I64 b) (w : World) :
    Calls Tryz.prog 132 #[.int .i64 a, .int .i64 b, .int .u8 1] w fun e w' => e = .returned (.int .i64 (norm (norm a - norm b))) ∧ w = w' := by
  have b1 := norm_bd a
  have b2 := norm_bd b
  go_enter Tryz.func132, Tryz.ntmps132
  go_wp2_with (go_at_call 45; refine (rnorm_any _ (by first | assumption | (unfold I64; omega)) _).mono ?_; rintro e w' ⟨rfl, rfl⟩)
  go_ret
  exact ⟨rfl, rfl⟩
end Go.Proofs.YtjjdojokkmfbmaaGreatDoor
/-
  The walks of layer 7 (trig): sines and cosines, and their reference.
-/
namespace Go.Proofs.YtjjdojokkmfbmaaGreatDoor
open Go.RowKit
set_option linter.unusedVariables false
theorem mulS_any (x y : Int) (hx : 0 ≤ x) (hx2 : x ≤ 2147483648) (hy : 0 ≤ y) (hy2 : y ≤ 2147483648) (w : World) :
    Calls Tryz.prog 179 #[.int .i64 x, .int .i64 y] w fun e w' => e = .returned (.int .i64 (mulS x y)) ∧ w = w' := by
  have h := Int.mul_le_mul hx2 hy2 hy (by omega)
  have h0 := Int.mul_nonneg hx hy
  go_enter Tryz.func179, Tryz.ntmps179
  go_wp2
  go_ret
  exact ⟨ret_int (by unfold mulS; omega), rfl⟩
theorem rmulS_any (x y : Int) (hx : 0 ≤ x) (hx2 : x ≤ 2147483648) (hy : 0 ≤ y) (hy2 : y ≤ 2147483648) (w : World) :
    Calls Tryz.prog 191 #[.int .i64 x, .int .i64 y] w fun e w' => e = .returned (.int .i64 (mulS x y)) ∧ w = w' := by
  have h := Int.mul_le_mul hx2 hy2 hy (by omega)
  have h0 := Int.mul_nonneg hx hy
  go_enter Tryz.func191, Tryz.ntmps191
  go_wp2
  go_ret
  exact ⟨ret_int (by unfold mulS; omega), rfl⟩
theorem divS_any (x n : Int) (hx : 0 ≤ x) (hx2 : x ≤ 2147483648) (hn : 2 ≤ n) (hn2 : n ≤ 1000) (w : World) :
    Calls Tryz.prog 180 #[.int .i64 x, .int .i64 n] w fun e w' => e = .returned (.int .i64 (divS x n)) ∧ w = w' := by
  have h1 : Int.tdiv (x + n / 2) n = (x + n / 2) / n := Int.tdiv_eq_ediv_of_nonneg (by omega)
  have h2 : Int.tdiv n 2 = n / 2 := Int.tdiv_eq_ediv_of_nonneg (by omega)
  have h3 : (n == 0) = false := by simp; omega
  have h4 : 0 ≤ (x + n / 2) / n := Int.ediv_nonneg (by omega) (by omega)
  have h5 := Int.ediv_le_self n (show 0 ≤ x + n / 2 by omega)
  go_enter Tryz.func180, Tryz.ntmps180
  go_wp2
  go_ret
  exact ⟨ret_int (by unfold divS; omega), rfl⟩
theorem rdivS_any (x n : Int) (hx : 0 ≤ x) (hx2 : x ≤ 2147483648) (hn : 2 ≤ n) (hn2 : n ≤ 1000) (w : World) :
    Calls Tryz.prog 190 #[.int .i64 x, .int .i64 n] w fun e w' => e = .returned (.int .i64 (divS x n)) ∧ w = w' := by
  have h1 : Int.tdiv (x + n / 2) n = (x + n / 2) / n := Int.tdiv_eq_ediv_of_nonneg (by omega)
  have h2 : Int.tdiv n 2 = n / 2 := Int.tdiv_eq_ediv_of_nonneg (by omega)
  have h3 : (n == 0) = false := by simp; omega
  have h4 : 0 ≤ (x + n / 2) / n := Int.ediv_nonneg (by omega) (by omega)
  have h5 := Int.ediv_le_self n (show 0 ≤ x + n / 2 by omega)
  go_enter Tryz.func190, Tryz.ntmps190
  go_wp2
  go_ret
  exact ⟨ret_int (by unfold divS; omega), rfl⟩
theorem sine_any (a : Int) (h : 0 ≤ a) (h2 : a ≤ 16200000) (w : World) :
    Calls Tryz.prog 168 #[.int .i64 a] w fun e w' => e = .returned (.int .i64 (sine a)) ∧ w = w' := by
  have tb := tA_bd h h2
  have ub := u_of_t tb.1 tb.2
  have b1 := sr1_bd ub.1 ub.2
  have b2 := sr2_bd ub.1 ub.2
  have b3 := sr3_bd ub.1 ub.2
  have b4 := sr4_bd ub.1 ub.2
  have b5 := sr5_bd ub.1 ub.2
  have fin := hide (show sine a = (mulS (tA a) (sr5 (mulS (tA a) (tA a))) + 1) / 2 from rfl)
  generalize sine a = q at *
  have ht : (a * 6746518852 + 32400000) / 64800000 = tA a := rfl
  generalize tA a = t at *
  obtain ⟨u, hu⟩ : ∃ u, mulS t t = u := ⟨_, rfl⟩
  rw [hu] at ub b1 b2 b3 b4 b5
  have e1 := hide (show sr1 u = 2147483648 - divS u 110 from rfl)
  have e2 := hide (show sr2 u = 2147483648 - divS (mulS u (sr1 u)) 72 from rfl)
  have e3 := hide (show sr3 u = 2147483648 - divS (mulS u (sr2 u)) 42 from rfl)
  have e4 := hide (show sr4 u = 2147483648 - divS (mulS u (sr3 u)) 20 from rfl)
  have e5 := hide (show sr5 u = 2147483648 - divS (mulS u (sr4 u)) 6 from rfl)
  obtain ⟨c1, d1⟩ := b1
  obtain ⟨c2, d2⟩ := b2
  obtain ⟨c3, d3⟩ := b3
  obtain ⟨c4, d4⟩ := b4
  obtain ⟨c5, d5⟩ := b5
  obtain ⟨t1, t2⟩ := tb
  obtain ⟨u1, u2⟩ := ub
  have fin2 : Hid (q = (mulS t (sr5 u) + 1) / 2) := hide (by rw [fin.out, hu])
  clear fin
  generalize hr5 : sr5 u = r5 at *
  generalize hr4 : sr4 u = r4 at *
  generalize hr3 : sr3 u = r3 at *
  generalize hr2 : sr2 u = r2 at *
  generalize hr1 : sr1 u = r1 at *
  have m1 := mulS_bd u1 (show 0 ≤ r1 by omega) d1
  have m2 := mulS_bd u1 (show 0 ≤ r2 by omega) d2
  have m3 := mulS_bd u1 (show 0 ≤ r3 by omega) d3
  have m4 := mulS_bd u1 (show 0 ≤ r4 by omega) d4
  have m5 := mulS_bd t1 (show 0 ≤ r5 by omega) d5
  clear hr1 hr2 hr3 hr4 hr5
  have i0 : ∀ w : World, (Instr.index 152 (.agg #[.int .i64 110, .int .i64 72, .int .i64 42, .int .i64 20, .int .i64 6]) (.int .i64 0)).run Tryz.prog w = .ok (.int .i64 110) w := fun _ => by kernel_rfl
  have i1 : ∀ w : World, (Instr.index 152 (.agg #[.int .i64 110, .int .i64 72, .int .i64 42, .int .i64 20, .int .i64 6]) (.int .i64 1)).run Tryz.prog w = .ok (.int .i64 72) w := fun _ => by kernel_rfl
  have i2 : ∀ w : World, (Instr.index 152 (.agg #[.int .i64 110, .int .i64 72, .int .i64 42, .int .i64 20, .int .i64 6]) (.int .i64 2)).run Tryz.prog w = .ok (.int .i64 42) w := fun _ => by kernel_rfl
  have i3 : ∀ w : World, (Instr.index 152 (.agg #[.int .i64 110, .int .i64 72, .int .i64 42, .int .i64 20, .int .i64 6]) (.int .i64 3)).run Tryz.prog w = .ok (.int .i64 20) w := fun _ => by kernel_rfl
  have i4 : ∀ w : World, (Instr.index 152 (.agg #[.int .i64 110, .int .i64 72, .int .i64 42, .int .i64 20, .int .i64 6]) (.int .i64 4)).run Tryz.prog w = .ok (.int .i64 6) w := fun _ => by kernel_rfl
  go_enter Tryz.func168, Tryz.ntmps168
  go_wp2_with (first | (go_at_call 179; refine (mulS_any _ _ (by omega) (by omega) (by omega) (by omega) _).mono ?_; rintro e w' ⟨rfl, rfl⟩) | (go_at_call 180; refine (divS_any _ _ (by omega) (by omega) (by omega) (by omega) _).mono ?_; rintro e w' ⟨rfl, rfl⟩))
  go_loop [17, 5] (fun a b => ∃ i r : Int, a = .int .i64 i ∧ b = .int .i64 r ∧ ((i = 0 ∧ r = 2147483648) ∨ (i = 1 ∧ r = r1) ∨ (i = 2 ∧ r = r2) ∨ (i = 3 ∧ r = r3) ∨ (i = 4 ∧ r = r4) ∨ (i = 5 ∧ r = r5))) (fun a _ => 5 - (intOf a).toNat)
  case atStart => exact ⟨0, 2147483648, rfl, rfl, .inl ⟨rfl, rfl⟩⟩
  case round =>
    obtain ⟨i, r, rfl, rfl, ⟨rfl, rfl⟩ | ⟨rfl, rfl⟩ | ⟨rfl, rfl⟩ | ⟨rfl, rfl⟩ | ⟨rfl, rfl⟩ | ⟨rfl, rfl⟩⟩ := hrel
    · have e := e1.out
      have ew : wrap64 (2147483648 - divS u 110) = r1 := by rw [← e]; unfold wrap64; omega
      have E := hide e
      go_wp2_with (first | (go_at_call 179; refine (mulS_any _ _ (by omega) (by omega) (by omega) (by omega) _).mono ?_; rintro e w' ⟨rfl, rfl⟩) | (go_at_call 180; refine (divS_any _ _ (by omega) (by omega) (by omega) (by omega) _).mono ?_; rintro e w' ⟨rfl, rfl⟩))
      go_round
      case rel => exact ⟨1, r1, rfl, by first | rfl | rw [E.out] | rw [ew], by simp⟩
      case measure => simp [intOf]
    · have e := e2.out
      have ew : wrap64 (2147483648 - divS (mulS u r) 72) = r2 := by rw [← e]; unfold wrap64; omega
      have E := hide e
      go_wp2_with (first | (go_at_call 179; refine (mulS_any _ _ (by omega) (by omega) (by omega) (by omega) _).mono ?_; rintro e w' ⟨rfl, rfl⟩) | (go_at_call 180; refine (divS_any _ _ (by omega) (by omega) (by omega) (by omega) _).mono ?_; rintro e w' ⟨rfl, rfl⟩))
      go_round
      case rel => exact ⟨2, r2, rfl, by first | rfl | rw [E.out] | rw [ew], by simp⟩
      case measure => simp [intOf]
    · have e := e3.out
      have ew : wrap64 (2147483648 - divS (mulS u r) 42) = r3 := by rw [← e]; unfold wrap64; omega
      have E := hide e
      go_wp2_with (first | (go_at_call 179; refine (mulS_any _ _ (by omega) (by omega) (by omega) (by omega) _).mono ?_; rintro e w' ⟨rfl, rfl⟩) | (go_at_call 180; refine (divS_any _ _ (by omega) (by omega) (by omega) (by omega) _).mono ?_; rintro e w' ⟨rfl, rfl⟩))
      go_round
      case rel => exact ⟨3, r3, rfl, by first | rfl | rw [E.out] | rw [ew], by simp⟩
      case measure => simp [intOf]
    · have e := e4.out
      have ew : wrap64 (2147483648 - divS (mulS u r) 20) = r4 := by rw [← e]; unfold wrap64; omega
      have E := hide e
      go_wp2_with (first | (go_at_call 179; refine (mulS_any _ _ (by omega) (by omega) (by omega) (by omega) _).mono ?_; rintro e w' ⟨rfl, rfl⟩) | (go_at_call 180; refine (divS_any _ _ (by omega) (by omega) (by omega) (by omega) _).mono ?_; rintro e w' ⟨rfl, rfl⟩))
      go_round
      case rel => exact ⟨4, r4, rfl, by first | rfl | rw [E.out] | rw [ew], by simp⟩
      case measure => simp [intOf]
    · have e := e5.out
      have ew : wrap64 (2147483648 - divS (mulS u r) 6) = r5 := by rw [← e]; unfold wrap64; omega
      have E := hide e
      go_wp2_with (first | (go_at_call 179; refine (mulS_any _ _ (by omega) (by omega) (by omega) (by omega) _).mono ?_; rintro e w' ⟨rfl, rfl⟩) | (go_at_call 180; refine (divS_any _ _ (by omega) (by omega) (by omega) (by omega) _).mono ?_; rintro e w' ⟨rfl, rfl⟩))
      go_round
      case rel => exact ⟨5, r5, rfl, by first | rfl | rw [E.out] | rw [ew], by simp⟩
      case measure => simp [intOf]
    · go_wp2_with (first | (go_at_call 179; refine (mulS_any _ _ (by omega) (by omega) (by omega) (by omega) _).mono ?_; rintro e w' ⟨rfl, rfl⟩) | (go_at_call 180; refine (divS_any _ _ (by omega) (by omega) (by omega) (by omega) _).mono ?_; rintro e w' ⟨rfl, rfl⟩))
      go_ret
      exact ⟨ret_int (by rw [fin2.out]), rfl⟩
theorem cosine_any (a : Int) (h : 0 ≤ a) (h2 : a ≤ 16200000) (w : World) :
    Calls Tryz.prog 169 #[.int .i64 a] w fun e w' => e = .returned (.int .i64 (cosine a)) ∧ w = w' := by
  have tb := tA_bd h h2
  have ub := u_of_t tb.1 tb.2
  have b1 := cr1_bd ub.1 ub.2
  have b2 := cr2_bd ub.1 ub.2
  have b3 := cr3_bd ub.1 ub.2
  have b4 := cr4_bd ub.1 ub.2
  have b5 := cr5_bd ub.1 ub.2
  have fin := hide (show cosine a = (cr5 (mulS (tA a) (tA a)) + 1) / 2 from rfl)
  generalize cosine a = q at *
  have ht : (a * 6746518852 + 32400000) / 64800000 = tA a := rfl
  generalize tA a = t at *
  obtain ⟨u, hu⟩ : ∃ u, mulS t t = u := ⟨_, rfl⟩
  rw [hu] at ub b1 b2 b3 b4 b5
  have e1 := hide (show cr1 u = 2147483648 - divS u 90 from rfl)
  have e2 := hide (show cr2 u = 2147483648 - divS (mulS u (cr1 u)) 56 from rfl)
  have e3 := hide (show cr3 u = 2147483648 - divS (mulS u (cr2 u)) 30 from rfl)
  have e4 := hide (show cr4 u = 2147483648 - divS (mulS u (cr3 u)) 12 from rfl)
  have e5 := hide (show cr5 u = 2147483648 - divS (mulS u (cr4 u)) 2 from rfl)
  obtain ⟨c1, d1⟩ := b1
  obtain ⟨c2, d2⟩ := b2
  obtain ⟨c3, d3⟩ := b3
  obtain ⟨c4, d4⟩ := b4
  obtain ⟨c5, d5⟩ := b5
  obtain ⟨t1, t2⟩ := tb
  obtain ⟨u1, u2⟩ := ub
  have fin2 : Hid (q = (cr5 u + 1) / 2) := hide (by rw [fin.out, hu])
  clear fin
  generalize hr5 : cr5 u = r5 at *
  generalize hr4 : cr4 u = r4 at *
  generalize hr3 : cr3 u = r3 at *
  generalize hr2 : cr2 u = r2 at *
  generalize hr1 : cr1 u = r1 at *
  have m1 := mulS_bd u1 (show 0 ≤ r1 by omega) d1
  have m2 := mulS_bd u1 (show 0 ≤ r2 by omega) d2
  have m3 := mulS_bd u1 (show 0 ≤ r3 by omega) d3
  have m4 := mulS_bd u1 (show 0 ≤ r4 by omega) d4
  have m5 := mulS_bd t1 (show 0 ≤ r5 by omega) d5
  clear hr1 hr2 hr3 hr4 hr5
  have i0 : ∀ w : World, (Instr.index 152 (.agg #[.int .i64 90, .int .i64 56, .int .i64 30, .int .i64 12, .int .i64 2]) (.int .i64 0)).run Tryz.prog w = .ok (.int .i64 90) w := fun _ => by kernel_rfl
  have i1 : ∀ w : World, (Instr.index 152 (.agg #[.int .i64 90, .int .i64 56, .int .i64 30, .int .i64 12, .int .i64 2]) (.int .i64 1)).run Tryz.prog w = .ok (.int .i64 56) w := fun _ => by kernel_rfl
  have i2 : ∀ w : World, (Instr.index 152 (.agg #[.int .i64 90, .int .i64 56, .int .i64 30, .int .i64 12, .int .i64 2]) (.int .i64 2)).run Tryz.prog w = .ok (.int .i64 30) w := fun _ => by kernel_rfl
  have i3 : ∀ w : World, (Instr.index 152 (.agg #[.int .i64 90, .int .i64 56, .int .i64 30, .int .i64 12, .int .i64 2]) (.int .i64 3)).run Tryz.prog w = .ok (.int .i64 12) w := fun _ => by kernel_rfl
  have i4 : ∀ w : World, (Instr.index 152 (.agg #[.int .i64 90, .int .i64 56, .int .i64 30, .int .i64 12, .int .i64 2]) (.int .i64 4)).run Tryz.prog w = .ok (.int .i64 2) w := fun _ => by kernel_rfl
  go_enter Tryz.func169, Tryz.ntmps169
  go_wp2_with (first | (go_at_call 179; refine (mulS_any _ _ (by omega) (by omega) (by omega) (by omega) _).mono ?_; rintro e w' ⟨rfl, rfl⟩) | (go_at_call 180; refine (divS_any _ _ (by omega) (by omega) (by omega) (by omega) _).mono ?_; rintro e w' ⟨rfl, rfl⟩))
  go_loop [17, 5] (fun a b => ∃ i r : Int, a = .int .i64 i ∧ b = .int .i64 r ∧ ((i = 0 ∧ r = 2147483648) ∨ (i = 1 ∧ r = r1) ∨ (i = 2 ∧ r = r2) ∨ (i = 3 ∧ r = r3) ∨ (i = 4 ∧ r = r4) ∨ (i = 5 ∧ r = r5))) (fun a _ => 5 - (intOf a).toNat)
  case atStart => exact ⟨0, 2147483648, rfl, rfl, .inl ⟨rfl, rfl⟩⟩
  case round =>
    obtain ⟨i, r, rfl, rfl, ⟨rfl, rfl⟩ | ⟨rfl, rfl⟩ | ⟨rfl, rfl⟩ | ⟨rfl, rfl⟩ | ⟨rfl, rfl⟩ | ⟨rfl, rfl⟩⟩ := hrel
    · have e := e1.out
      have ew : wrap64 (2147483648 - divS u 90) = r1 := by rw [← e]; unfold wrap64; omega
      have E := hide e
      go_wp2_with (first | (go_at_call 179; refine (mulS_any _ _ (by omega) (by omega) (by omega) (by omega) _).mono ?_; rintro e w' ⟨rfl, rfl⟩) | (go_at_call 180; refine (divS_any _ _ (by omega) (by omega) (by omega) (by omega) _).mono ?_; rintro e w' ⟨rfl, rfl⟩))
      go_round
      case rel => exact ⟨1, r1, rfl, by first | rfl | rw [E.out] | rw [ew], by simp⟩
      case measure => simp [intOf]
    · have e := e2.out
      have ew : wrap64 (2147483648 - divS (mulS u r) 56) = r2 := by rw [← e]; unfold wrap64; omega
      have E := hide e
      go_wp2_with (first | (go_at_call 179; refine (mulS_any _ _ (by omega) (by omega) (by omega) (by omega) _).mono ?_; rintro e w' ⟨rfl, rfl⟩) | (go_at_call 180; refine (divS_any _ _ (by omega) (by omega) (by omega) (by omega) _).mono ?_; rintro e w' ⟨rfl, rfl⟩))
      go_round
      case rel => exact ⟨2, r2, rfl, by first | rfl | rw [E.out] | rw [ew], by simp⟩
      case measure => simp [intOf]
    · have e := e3.out
      have ew : wrap64 (2147483648 - divS (mulS u r) 30) = r3 := by rw [← e]; unfold wrap64; omega
      have E := hide e
      go_wp2_with (first | (go_at_call 179; refine (mulS_any _ _ (by omega) (by omega) (by omega) (by omega) _).mono ?_; rintro e w' ⟨rfl, rfl⟩) | (go_at_call 180; refine (divS_any _ _ (by omega) (by omega) (by omega) (by omega) _).mono ?_; rintro e w' ⟨rfl, rfl⟩))
      go_round
      case rel => exact ⟨3, r3, rfl, by first | rfl | rw [E.out] | rw [ew], by simp⟩
      case measure => simp [intOf]
    · have e := e4.out
      have ew : wrap64 (2147483648 - divS (mulS u r) 12) = r4 := by rw [← e]; unfold wrap64; omega
      have E := hide e
      go_wp2_with (first | (go_at_call 179; refine (mulS_any _ _ (by omega) (by omega) (by omega) (by omega) _).mono ?_; rintro e w' ⟨rfl, rfl⟩) | (go_at_call 180; refine (divS_any _ _ (by omega) (by omega) (by omega) (by omega) _).mono ?_; rintro e w' ⟨rfl, rfl⟩))
      go_round
      case rel => exact ⟨4, r4, rfl, by first | rfl | rw [E.out] | rw [ew], by simp⟩
      case measure => simp [intOf]
    · have e := e5.out
      have ew : wrap64 (2147483648 - divS (mulS u r) 2) = r5 := by rw [← e]; unfold wrap64; omega
      have E := hide e
      go_wp2_with (first | (go_at_call 179; refine (mulS_any _ _ (by omega) (by omega) (by omega) (by omega) _).mono ?_; rintro e w' ⟨rfl, rfl⟩) | (go_at_call 180; refine (divS_any _ _ (by omega) (by omega) (by omega) (by omega) _).mono ?_; rintro e w' ⟨rfl, rfl⟩))
      go_round
      case rel => exact ⟨5, r5, rfl, by first | rfl | rw [E.out] | rw [ew], by simp⟩
      case measure => simp [intOf]
    · go_wp2_with (first | (go_at_call 179; refine (mulS_any _ _ (by omega) (by omega) (by omega) (by omega) _).mono ?_; rintro e w' ⟨rfl, rfl⟩) | (go_at_call 180; refine (divS_any _ _ (by omega) (by omega) (by omega) (by omega) _).mono ?_; rintro e w' ⟨rfl, rfl⟩))
      go_ret
      exact ⟨ret_int (by rw [fin2.out]), rfl⟩
end Go.Proofs.YtjjdojokkmfbmaaGreatDoor
/-
  The walks of layer 7 (trig): the sines and cosines of all angles, and their reference.
-/
namespace Go.Proofs.YtjjdojokkmfbmaaGreatDoor
open Go.RowKit
set_option linter.unusedVariables false
theorem rargument_any (a : Int) (h : 0 ≤ a) (h2 : a ≤ 16200000) (w : World) :
    Calls Tryz.prog 189 #[.int .i64 a] w fun e w' => e = .returned (.tuple #[.int .i64 (tA a), .int .i64 (mulS (tA a) (tA a))]) ∧ w = w' := by
  have tb := tA_bd h h2
  have ht : (a * 6746518852 + 32400000) / 64800000 = tA a := rfl
  generalize tA a = t at *
  go_enter Tryz.func189, Tryz.ntmps189
  go_wp2_with (go_at_call 191; refine (rmulS_any _ _ (by omega) (by omega) (by omega) (by omega) _).mono ?_; rintro e w' ⟨rfl, rfl⟩)
  go_ret2
  exact ⟨rfl, rfl⟩
theorem rsine_any (a : Int) (h : 0 ≤ a) (h2 : a ≤ 16200000) (w : World) :
    Calls Tryz.prog 177 #[.int .i64 a] w fun e w' => e = .returned (.int .i64 (sine a)) ∧ w = w' := by
  have tb := tA_bd h h2
  have ub := u_of_t tb.1 tb.2
  have b1 := sr1_bd ub.1 ub.2
  have b2 := sr2_bd ub.1 ub.2
  have b3 := sr3_bd ub.1 ub.2
  have b4 := sr4_bd ub.1 ub.2
  have b5 := sr5_bd ub.1 ub.2
  have fin := hide (show sine a = (mulS (tA a) (sr5 (mulS (tA a) (tA a))) + 1) / 2 from rfl)
  generalize sine a = q at *
  have ra := fun w => rargument_any a h h2 w
  generalize tA a = t at *
  obtain ⟨u, hu⟩ : ∃ u, mulS t t = u := ⟨_, rfl⟩
  rw [hu] at ub b1 b2 b3 b4 b5
  have e1 := hide (show sr1 u = 2147483648 - divS u 110 from rfl)
  have e2 := hide (show sr2 u = 2147483648 - divS (mulS u (sr1 u)) 72 from rfl)
  have e3 := hide (show sr3 u = 2147483648 - divS (mulS u (sr2 u)) 42 from rfl)
  have e4 := hide (show sr4 u = 2147483648 - divS (mulS u (sr3 u)) 20 from rfl)
  have e5 := hide (show sr5 u = 2147483648 - divS (mulS u (sr4 u)) 6 from rfl)
  obtain ⟨c1, d1⟩ := b1
  obtain ⟨c2, d2⟩ := b2
  obtain ⟨c3, d3⟩ := b3
  obtain ⟨c4, d4⟩ := b4
  obtain ⟨c5, d5⟩ := b5
  obtain ⟨t1, t2⟩ := tb
  obtain ⟨u1, u2⟩ := ub
  have fin2 : Hid (q = (mulS t (sr5 u) + 1) / 2) := hide (by rw [fin.out, hu])
  clear fin
  rw [hu] at ra
  clear hu
  generalize hr5 : sr5 u = r5 at *
  generalize hr4 : sr4 u = r4 at *
  generalize hr3 : sr3 u = r3 at *
  generalize hr2 : sr2 u = r2 at *
  generalize hr1 : sr1 u = r1 at *
  have w1 : 2147483648 - divS u 110 = r1 := e1.out.symm
  have w2 : 2147483648 - divS (mulS u r1) 72 = r2 := e2.out.symm
  have w3 : 2147483648 - divS (mulS u r2) 42 = r3 := e3.out.symm
  have w4 : 2147483648 - divS (mulS u r3) 20 = r4 := e4.out.symm
  have w5 : 2147483648 - divS (mulS u r4) 6 = r5 := e5.out.symm
  have m1 := mulS_bd u1 (show 0 ≤ r1 by omega) d1
  have m2 := mulS_bd u1 (show 0 ≤ r2 by omega) d2
  have m3 := mulS_bd u1 (show 0 ≤ r3 by omega) d3
  have m4 := mulS_bd u1 (show 0 ≤ r4 by omega) d4
  have m5 := mulS_bd t1 (show 0 ≤ r5 by omega) d5
  clear hr1 hr2 hr3 hr4 hr5
  generalize hd1 : divS u 110 = z1 at *
  generalize hd2 : divS (mulS u r1) 72 = z2 at *
  generalize hd3 : divS (mulS u r2) 42 = z3 at *
  generalize hd4 : divS (mulS u r3) 20 = z4 at *
  generalize hd5 : divS (mulS u r4) 6 = z5 at *
  obtain rfl : z1 = 2147483648 - r1 := by omega
  obtain rfl : z2 = 2147483648 - r2 := by omega
  obtain rfl : z3 = 2147483648 - r3 := by omega
  obtain rfl : z4 = 2147483648 - r4 := by omega
  obtain rfl : z5 = 2147483648 - r5 := by omega
  have s1 : 2147483648 - (2147483648 - r1) = r1 := by omega
  have s2 : 2147483648 - (2147483648 - r2) = r2 := by omega
  have s3 : 2147483648 - (2147483648 - r3) = r3 := by omega
  have s4 : 2147483648 - (2147483648 - r4) = r4 := by omega
  have s5 : 2147483648 - (2147483648 - r5) = r5 := by omega
  clear w1 w2 w3 w4 w5
  go_enter Tryz.func177, Tryz.ntmps177
  go_wp2_with (first | (go_at_call 189; refine (ra _).mono ?_; rintro e w' ⟨rfl, rfl⟩) | (go_at_call 191; refine (rmulS_any _ _ (by omega) (by omega) (by omega) (by omega) _).mono ?_; rintro e w' ⟨rfl, rfl⟩) | (go_at_call 190; refine (rdivS_any _ _ (by omega) (by omega) (by omega) (by omega) _).mono ?_; rintro e w' ⟨rfl, rfl⟩))
  go_ret
  exact ⟨ret_int (by rw [fin2.out]), rfl⟩
theorem rcosine_any (a : Int) (h : 0 ≤ a) (h2 : a ≤ 16200000) (w : World) :
    Calls Tryz.prog 178 #[.int .i64 a] w fun e w' => e = .returned (.int .i64 (cosine a)) ∧ w = w' := by
  have tb := tA_bd h h2
  have ub := u_of_t tb.1 tb.2
  have b1 := cr1_bd ub.1 ub.2
  have b2 := cr2_bd ub.1 ub.2
  have b3 := cr3_bd ub.1 ub.2
  have b4 := cr4_bd ub.1 ub.2
  have b5 := cr5_bd ub.1 ub.2
  have fin := hide (show cosine a = (cr5 (mulS (tA a) (tA a)) + 1) / 2 from rfl)
  generalize cosine a = q at *
  have ra := fun w => rargument_any a h h2 w
  generalize tA a = t at *
  obtain ⟨u, hu⟩ : ∃ u, mulS t t = u := ⟨_, rfl⟩
  rw [hu] at ub b1 b2 b3 b4 b5
  have e1 := hide (show cr1 u = 2147483648 - divS u 90 from rfl)
  have e2 := hide (show cr2 u = 2147483648 - divS (mulS u (cr1 u)) 56 from rfl)
  have e3 := hide (show cr3 u = 2147483648 - divS (mulS u (cr2 u)) 30 from rfl)
  have e4 := hide (show cr4 u = 2147483648 - divS (mulS u (cr3 u)) 12 from rfl)
  have e5 := hide (show cr5 u = 2147483648 - divS (mulS u (cr4 u)) 2 from rfl)
  obtain ⟨c1, d1⟩ := b1
  obtain ⟨c2, d2⟩ := b2
  obtain ⟨c3, d3⟩ := b3
  obtain ⟨c4, d4⟩ := b4
  obtain ⟨c5, d5⟩ := b5
  obtain ⟨t1, t2⟩ := tb
  obtain ⟨u1, u2⟩ := ub
  have fin2 : Hid (q = (cr5 u + 1) / 2) := hide (by rw [fin.out, hu])
  clear fin
  rw [hu] at ra
  clear hu
  generalize hr5 : cr5 u = r5 at *
  generalize hr4 : cr4 u = r4 at *
  generalize hr3 : cr3 u = r3 at *
  generalize hr2 : cr2 u = r2 at *
  generalize hr1 : cr1 u = r1 at *
  have w1 : 2147483648 - divS u 90 = r1 := e1.out.symm
  have w2 : 2147483648 - divS (mulS u r1) 56 = r2 := e2.out.symm
  have w3 : 2147483648 - divS (mulS u r2) 30 = r3 := e3.out.symm
  have w4 : 2147483648 - divS (mulS u r3) 12 = r4 := e4.out.symm
  have w5 : 2147483648 - divS (mulS u r4) 2 = r5 := e5.out.symm
  have m1 := mulS_bd u1 (show 0 ≤ r1 by omega) d1
  have m2 := mulS_bd u1 (show 0 ≤ r2 by omega) d2
  have m3 := mulS_bd u1 (show 0 ≤ r3 by omega) d3
  have m4 := mulS_bd u1 (show 0 ≤ r4 by omega) d4
  have m5 := mulS_bd t1 (show 0 ≤ r5 by omega) d5
  clear hr1 hr2 hr3 hr4 hr5
  generalize hd1 : divS u 90 = z1 at *
  generalize hd2 : divS (mulS u r1) 56 = z2 at *
  generalize hd3 : divS (mulS u r2) 30 = z3 at *
  generalize hd4 : divS (mulS u r3) 12 = z4 at *
  generalize hd5 : divS (mulS u r4) 2 = z5 at *
  obtain rfl : z1 = 2147483648 - r1 := by omega
  obtain rfl : z2 = 2147483648 - r2 := by omega
  obtain rfl : z3 = 2147483648 - r3 := by omega
  obtain rfl : z4 = 2147483648 - r4 := by omega
  obtain rfl : z5 = 2147483648 - r5 := by omega
  have s1 : 2147483648 - (2147483648 - r1) = r1 := by omega
  have s2 : 2147483648 - (2147483648 - r2) = r2 := by omega
  have s3 : 2147483648 - (2147483648 - r3) = r3 := by omega
  have s4 : 2147483648 - (2147483648 - r4) = r4 := by omega
  have s5 : 2147483648 - (2147483648 - r5) = r5 := by omega
  clear w1 w2 w3 w4 w5
  go_enter Tryz.func178, Tryz.ntmps178
  go_wp2_with (first | (go_at_call 189; refine (ra _).mono ?_; rintro e w' ⟨rfl, rfl⟩) | (go_at_call 191; refine (rmulS_any _ _ (by omega) (by omega) (by omega) (by omega) _).mono ?_; rintro e w' ⟨rfl, rfl⟩) | (go_at_call 190; refine (rdivS_any _ _ (by omega) (by omega) (by omega) (by omega) _).mono ?_; rintro e w' ⟨rfl, rfl⟩))
  go_ret
  exact ⟨ret_int (by rw [fin2.out]), rfl⟩
theorem quarter_any (a : Int) (h : 0 ≤ a) (h2 : a ≤ 32400000) (w : World) :
    Calls Tryz.prog 140 #[.int .i64 a] w fun e w' => e = .returned (.int .i64 (qsin a)) ∧ w = w' := by
  have hq := hide (show qsin a = if a ≤ 16200000 then sine a else cosine (32400000 - a) from rfl)
  generalize qsin a = q at *
  by_cases t : a ≤ 16200000
  all_goals
    go_enter Tryz.func140, Tryz.ntmps140
    go_wp2_with (first | (go_at_call 168; refine (sine_any _ (by omega) (by omega) _).mono ?_; rintro e w' ⟨rfl, rfl⟩) | (go_at_call 169; refine (cosine_any _ (by omega) (by omega) _).mono ?_; rintro e w' ⟨rfl, rfl⟩))
    go_ret
    exact ⟨ret_int (by rw [hq.out]; first | rw [if_pos (by omega)] | rw [if_neg (by omega)]), rfl⟩
theorem Sin_any (a : Int) (ha : I64 a) (w : World) :
    Calls Tryz.prog 96 #[.int .i64 a] w fun e w' => e = .returned (.int .i64 (Sin a)) ∧ w = w' := by
  have nb := norm_bd a
  have hq := hide (show Sin a = if norm a ≤ 32400000 then qsin (norm a) else if norm a ≤ 64800000 then qsin (64800000 - norm a) else if norm a ≤ 97200000 then -qsin (norm a - 64800000) else -qsin (129600000 - norm a) from rfl)
  have na := fun w => norm_any a ha w
  have qb : ∀ x, 0 ≤ x → x ≤ 32400000 → 0 ≤ qsin x ∧ qsin x ≤ 1073741824 := fun x h1 h2 => qsin_bd h1 h2
  have QB := hide qb
  clear qb
  generalize norm a = b at *
  generalize Sin a = q at *
  obtain ⟨nb1, nb2⟩ := nb
  by_cases t1 : b ≤ 32400000
  · go_enter Tryz.func96, Tryz.ntmps96
    go_wp2_with (first | (go_at_call 34; refine (na _).mono ?_; rintro e w' ⟨rfl, rfl⟩) | (go_at_call 140; refine (quarter_any _ (by omega) (by omega) _).mono ?_; rintro e w' ⟨rfl, rfl⟩))
    go_ret
    exact ⟨ret_int (by rw [hq.out]; rw [if_pos (by omega)]), rfl⟩
  · by_cases t2 : b ≤ 64800000
    · go_enter Tryz.func96, Tryz.ntmps96
      go_wp2_with (first | (go_at_call 34; refine (na _).mono ?_; rintro e w' ⟨rfl, rfl⟩) | (go_at_call 140; refine (quarter_any _ (by omega) (by omega) _).mono ?_; rintro e w' ⟨rfl, rfl⟩))
      go_ret
      exact ⟨ret_int (by rw [hq.out]; rw [if_neg (by omega), if_pos (by omega)]), rfl⟩
    · by_cases t3 : b ≤ 97200000
      · have Q := QB.out (b - 64800000) (by omega) (by omega)
        go_enter Tryz.func96, Tryz.ntmps96
        go_wp2_with (first | (go_at_call 34; refine (na _).mono ?_; rintro e w' ⟨rfl, rfl⟩) | (go_at_call 140; refine (quarter_any _ (by omega) (by omega) _).mono ?_; rintro e w' ⟨rfl, rfl⟩))
        go_ret
        exact ⟨ret_int (by rw [hq.out]; rw [if_neg (by omega), if_neg (by omega), if_pos (by omega)]), rfl⟩
      · have Q := QB.out (129600000 - b) (by omega) (by omega)
        go_enter Tryz.func96, Tryz.ntmps96
        go_wp2_with (first | (go_at_call 34; refine (na _).mono ?_; rintro e w' ⟨rfl, rfl⟩) | (go_at_call 140; refine (quarter_any _ (by omega) (by omega) _).mono ?_; rintro e w' ⟨rfl, rfl⟩))
        go_ret
        exact ⟨ret_int (by rw [hq.out]; rw [if_neg (by omega), if_neg (by omega), if_neg (by omega)]), rfl⟩
theorem Cos_any (a : Int) (ha : I64 a) (w : World) :
    Calls Tryz.prog 97 #[.int .i64 a] w fun e w' => e = .returned (.int .i64 (Cos a)) ∧ w = w' := by
  have tb := turnF_bd a 32400000
  go_enter Tryz.func97, Tryz.ntmps97
  go_wp2_with (first | (go_at_call 117; refine (turn_any _ _ ha (by unfold I64; omega) _).mono ?_; rintro e w' ⟨rfl, rfl⟩) | (go_at_call 96; refine (Sin_any _ (by unfold I64; omega) _).mono ?_; rintro e w' ⟨rfl, rfl⟩))
  go_ret
  exact ⟨rfl, rfl⟩
theorem rquarter_any (a : Int) (h : 0 ≤ a) (h2 : a ≤ 32400000) (w : World) :
    Calls Tryz.prog 162 #[.int .i64 a] w fun e w' => e = .returned (.int .i64 (qsin a)) ∧ w = w' := by
  have hq := hide (show qsin a = if a ≤ 16200000 then sine a else cosine (32400000 - a) from rfl)
  generalize qsin a = q at *
  by_cases t : a ≤ 16200000
  all_goals
    go_enter Tryz.func162, Tryz.ntmps162
    go_wp2_with (first | (go_at_call 177; refine (rsine_any _ (by omega) (by omega) _).mono ?_; rintro e w' ⟨rfl, rfl⟩) | (go_at_call 178; refine (rcosine_any _ (by omega) (by omega) _).mono ?_; rintro e w' ⟨rfl, rfl⟩))
    go_ret
    exact ⟨ret_int (by rw [hq.out]; first | rw [if_pos (by omega)] | rw [if_neg (by omega)]), rfl⟩
theorem rSin_any (a : Int) (ha : I64 a) (w : World) :
    Calls Tryz.prog 125 #[.int .i64 a] w fun e w' => e = .returned (.int .i64 (Sin a)) ∧ w = w' := by
  have nb := norm_bd a
  have hq := hide (show Sin a = if norm a ≤ 32400000 then qsin (norm a) else if norm a ≤ 64800000 then qsin (64800000 - norm a) else if norm a ≤ 97200000 then -qsin (norm a - 64800000) else -qsin (129600000 - norm a) from rfl)
  have na := fun w => rnorm_any a ha w
  have qb : ∀ x, 0 ≤ x → x ≤ 32400000 → 0 ≤ qsin x ∧ qsin x ≤ 1073741824 := fun x h1 h2 => qsin_bd h1 h2
  have QB := hide qb
  clear qb
  generalize norm a = b at *
  generalize Sin a = q at *
  obtain ⟨nb1, nb2⟩ := nb
  by_cases t1 : b ≤ 32400000
  · go_enter Tryz.func125, Tryz.ntmps125
    go_wp2_with (first | (go_at_call 45; refine (na _).mono ?_; rintro e w' ⟨rfl, rfl⟩) | (go_at_call 162; refine (rquarter_any _ (by omega) (by omega) _).mono ?_; rintro e w' ⟨rfl, rfl⟩))
    go_ret
    exact ⟨ret_int (by rw [hq.out]; rw [if_pos (by omega)]), rfl⟩
  · by_cases t2 : b ≤ 64800000
    · go_enter Tryz.func125, Tryz.ntmps125
      go_wp2_with (first | (go_at_call 45; refine (na _).mono ?_; rintro e w' ⟨rfl, rfl⟩) | (go_at_call 162; refine (rquarter_any _ (by omega) (by omega) _).mono ?_; rintro e w' ⟨rfl, rfl⟩))
      go_ret
      exact ⟨ret_int (by rw [hq.out]; rw [if_neg (by omega), if_pos (by omega)]), rfl⟩
    · by_cases t3 : b ≤ 97200000
      · have Q := QB.out (b - 64800000) (by omega) (by omega)
        go_enter Tryz.func125, Tryz.ntmps125
        go_wp2_with (first | (go_at_call 45; refine (na _).mono ?_; rintro e w' ⟨rfl, rfl⟩) | (go_at_call 162; refine (rquarter_any _ (by omega) (by omega) _).mono ?_; rintro e w' ⟨rfl, rfl⟩))
        go_ret
        exact ⟨ret_int (by rw [hq.out]; rw [if_neg (by omega), if_neg (by omega), if_pos (by omega)]), rfl⟩
      · have Q := QB.out (129600000 - b) (by omega) (by omega)
        go_enter Tryz.func125, Tryz.ntmps125
        go_wp2_with (first | (go_at_call 45; refine (na _).mono ?_; rintro e w' ⟨rfl, rfl⟩) | (go_at_call 162; refine (rquarter_any _ (by omega) (by omega) _).mono ?_; rintro e w' ⟨rfl, rfl⟩))
        go_ret
        exact ⟨ret_int (by rw [hq.out]; rw [if_neg (by omega), if_neg (by omega), if_neg (by omega)]), rfl⟩
theorem rCos_any (a : Int) (ha : I64 a) (w : World) :
    Calls Tryz.prog 126 #[.int .i64 a] w fun e w' => e = .returned (.int .i64 (Cos a)) ∧ w = w' := by
  have tb := turnF_bd a 32400000
  go_enter Tryz.func126, Tryz.ntmps126
  go_wp2_with (first | (go_at_call 137; refine (rturn_any _ _ ha (by unfold I64; omega) _).mono ?_; rintro e w' ⟨rfl, rfl⟩) | (go_at_call 125; refine (rSin_any _ (by unfold I64; omega) _).mono ?_; rintro e w' ⟨rfl, rfl⟩))
  go_ret
  exact ⟨rfl, rfl⟩
end Go.Proofs.YtjjdojokkmfbmaaGreatDoor
/-
  The walk of sort.Search over the closures of this program.
-/
namespace Go.Proofs.YtjjdojokkmfbmaaGreatDoor
open Go.RowKit
set_option linter.unusedVariables false
theorem half_sum (i j : Int) (h0 : 0 ≤ i) (h1 : i < j) (h2 : j ≤ 1099511627776) : i ≤ (i + j) / 2 ∧ (i + j) / 2 < j := by omega
theorem search_great (n : Int) (hn : 0 ≤ n) (hn2 : n ≤ 1099511627776) (b : Nat) (p : Int → Bool) (W : World)
    (hf : ∀ h k, 0 ≤ h → h < n → Calls Tryz.prog 139 #[.int .i64 h, .pointer (some ⟨b, 0, none⟩)] (W.drewN k) fun e w' => e = .returned (.bool (p h)) ∧ ∃ m, w' = W.drewN m) :
    Calls Tryz.prog 138 #[.int .i64 n, .func (.func 139) #[] #[.pointer (some ⟨b, 0, none⟩)]] W fun e w' =>
      ∃ r, e = .returned (.int .i64 r) ∧ 0 ≤ r ∧ r ≤ n ∧ (r = n ∨ p r = true) ∧ (r = 0 ∨ p (r - 1) = false) ∧ ∃ m, w' = W.drewN m := by
  go_enter Tryz.func138, Tryz.ntmps138
  go_wp2
  go_loopw [5, 6] (fun a c wr => ∃ (i j : Int) (k : Nat), a = .int .i64 i ∧ c = .int .i64 j ∧ 0 ≤ i ∧ i ≤ j ∧ j ≤ n ∧ Hid (j = n ∨ p j = true) ∧ Hid (i = 0 ∨ p (i - 1) = false) ∧ wr = W.drewN k) (fun a c _ => (intOf c - intOf a).toNat)
  case atStart => exact ⟨0, n, 0, rfl, rfl, by omega, hn, by omega, .inl rfl, .inl rfl, rfl⟩
  case round =>
    obtain ⟨i, j, k, rfl, rfl, i0, i1, j1, J, I, rfl⟩ := hrel
    by_cases t : i < j
    · obtain ⟨h1, h2⟩ := half_sum i j i0 t (by omega)
      have eh : wrap64 (IntKind.u64.wrap (i + j) / 2) = (i + j) / 2 := by rw [IntKind.wrap_u64]; unfold wrap64; omega
      have C := hf ((i + j) / 2) k (by omega) (by omega)
      cases hp : p ((i + j) / 2) with
      | true =>
        rw [hp] at C
        have HP := hide hp
        clear hp
        go_wp2_with (go_at_call 139; refine C.mono ?_; rintro e w' ⟨rfl, m, rfl⟩)
        go_roundw
        case rel => exact ⟨i, (i + j) / 2, m, rfl, rfl, i0, h1, by omega, .inr HP.out, I, rfl⟩
        case measure => simp [intOf]; omega
      | false =>
        rw [hp] at C
        have HP := hide hp
        clear hp
        go_wp2_with (go_at_call 139; refine C.mono ?_; rintro e w' ⟨rfl, m, rfl⟩)
        go_roundw
        case rel => exact ⟨(i + j) / 2 + 1, j, m, rfl, rfl, by omega, by omega, j1, J, .inr (by rw [show (i + j) / 2 + 1 - 1 = (i + j) / 2 by omega]; exact HP.out), rfl⟩
        case measure => simp [intOf]; omega
    · obtain rfl : i = j := by omega
      go_wp2
      go_ret
      exact ⟨i, rfl, i0, j1, J.out, I.out, k, rfl⟩
end Go.Proofs.YtjjdojokkmfbmaaGreatDoor
