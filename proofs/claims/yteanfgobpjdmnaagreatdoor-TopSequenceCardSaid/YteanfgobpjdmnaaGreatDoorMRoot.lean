/-
  The walks of layer 4 (angle) and of its reference.
-/
import Derived.Test.YteanfgobpjdmnaaGreatDoorMScale
set_option maxRecDepth 100000
set_option maxHeartbeats 16000000
namespace Go.Proofs.YteanfgobpjdmnaaGreatDoor
open Go.RowKit
set_option linter.unusedVariables false
theorem fW (a : Int) : (Int.tmod a 129600000 < 0 ∧ Int.tmod a 129600000 + 129600000 = norm a ∨ 0 ≤ Int.tmod a 129600000 ∧ Int.tmod a 129600000 = norm a) ∧ 0 ≤ norm a ∧ norm a < 129600000 := by
 unfold norm
 have := Int.tmod_eq_emod (a := a) (b := 129600000)
 split at this <;> omega
theorem tC (a b : Int) : 0 ≤ zg a b ∧ zg a b < 129600000 := zM _
theorem yj (a : Int) (ha : qH a) (w : World) :
 Calls Tryz.prog 48 #[.int .i64 a] w fun e w' => e = .returned (.int .i64 (norm a)) ∧ w = w' := by
 obtain ⟨a1, a2⟩ := ha
 have T := hide (fW a)
 go_enter Tryz.func48, Tryz.ntmps48
 go_wp2
 all_goals
  go_ret
  exact ⟨qL (by have T := T.out; first | omega | (unfold wrap64; omega)), rfl⟩
theorem bQ (a b : Int) (ha : qH a) (hb : qH b) (w : World) :
 Calls Tryz.prog 63 #[.int .i64 a, .int .i64 b] w fun e w' => e = .returned (.int .i64 (zg a b)) ∧ w = w' := by
 have b1 := zM a
 have b2 := zM b
 have h := hide (show zg a b = norm (norm a + norm b) from rfl)
 generalize zg a b = q at *
 go_enter Tryz.func63, Tryz.ntmps63
 go_wp2_with (go_at_call 48; refine (yj _ (by first | assumption | (unfold qH; omega)) _).mono ?_; rintro e w' ⟨rfl, rfl⟩)
 go_ret
 exact ⟨qL h.out.symm, rfl⟩
theorem jI (a : Int) (ha : qH a) (w : World) :
 Calls Tryz.prog 98 #[.int .i64 a] w fun e w' => e = .returned (.int .i64 (zg a 64800000)) ∧ w = w' := by
 go_enter Tryz.func98, Tryz.ntmps98
 go_wp2_with (go_at_call 63; refine (bQ _ _ ha (by unfold qH; omega) _).mono ?_; rintro e w' ⟨rfl, rfl⟩)
 go_ret
 exact ⟨rfl, rfl⟩
theorem Km (a b : Int) (ha : qH a) (hb : qH b) (w : World) :
 Calls Tryz.prog 74 #[.int .i64 a, .int .i64 b] w fun e w' => e = .returned (.int .i64 (zw a b)) ∧ w = w' := by
 have b1 := zM a
 have b2 := zM b
 have b3 := zM (norm b - norm a)
 have h := hide (show zw a b = if 64800000 < norm (norm b - norm a) then norm (norm b - norm a) - 129600000 else norm (norm b - norm a) from rfl)
 generalize zw a b = q at *
 generalize hd : norm (norm b - norm a) = d at *
 go_enter Tryz.func74, Tryz.ntmps74
 go_wp2_with (go_at_call 48; refine (yj _ (by first | assumption | (unfold qH; omega)) _).mono ?_; rintro e w' ⟨rfl, rfl⟩)
 all_goals
  go_ret
  exact ⟨qL (by have h := h.out; omega), rfl⟩
theorem TJ (a b : Int) (ha : qH a) (hb : qH b) (w : World) :
 Calls Tryz.prog 43 #[.int .i64 a, .int .i64 b, .int .u8 2] w fun e w' => e = .returned (.int .i64 (norm (norm b - norm a))) ∧ w = w' := by
 have b1 := zM a
 have b2 := zM b
 go_enter Tryz.func43, Tryz.ntmps43
 go_wp2_with (go_at_call 48; refine (yj _ (by first | assumption | (unfold qH; omega)) _).mono ?_; rintro e w' ⟨rfl, rfl⟩)
 go_ret
 exact ⟨rfl, rfl⟩
theorem nG (a b : Int) (ha : qH a) (hb : qH b) (w : World) :
 Calls Tryz.prog 43 #[.int .i64 a, .int .i64 b, .int .u8 1] w fun e w' => e = .returned (.int .i64 (norm (norm a - norm b))) ∧ w = w' := by
 have b1 := zM a
 have b2 := zM b
 go_enter Tryz.func43, Tryz.ntmps43
 go_wp2_with (go_at_call 48; refine (yj _ (by first | assumption | (unfold qH; omega)) _).mono ?_; rintro e w' ⟨rfl, rfl⟩)
 go_ret
 exact ⟨rfl, rfl⟩
theorem yA (x y : Int) (hx : 0 ≤ x) (hx2 : x ≤ 2147483648) (hy : 0 ≤ y) (hy2 : y ≤ 2147483648) (w : World) :
 Calls Tryz.prog 117 #[.int .i64 x, .int .i64 y] w fun e w' => e = .returned (.int .i64 (zf x y)) ∧ w = w' := by
 have h := Int.mul_le_mul hx2 hy2 hy (by omega)
 have h0 := Int.mul_nonneg hx hy
 go_enter Tryz.func117, Tryz.ntmps117
 go_wp2
 go_ret
 exact ⟨qL (by unfold zf; omega), rfl⟩
theorem yC (x n : Int) (hx : 0 ≤ x) (hx2 : x ≤ 2147483648) (hn : 2 ≤ n) (hn2 : n ≤ 1000) (w : World) :
 Calls Tryz.prog 118 #[.int .i64 x, .int .i64 n] w fun e w' => e = .returned (.int .i64 (jm x n)) ∧ w = w' := by
 have h1 : Int.tdiv (x + n / 2) n = (x + n / 2) / n := Int.tdiv_eq_ediv_of_nonneg (by omega)
 have h2 : Int.tdiv n 2 = n / 2 := Int.tdiv_eq_ediv_of_nonneg (by omega)
 have h3 : (n == 0) = false := by simp; omega
 have h4 : 0 ≤ (x + n / 2) / n := Int.ediv_nonneg (by omega) (by omega)
 have h5 := Int.ediv_le_self n (show 0 ≤ x + n / 2 by omega)
 go_enter Tryz.func118, Tryz.ntmps118
 go_wp2
 go_ret
 exact ⟨qL (by unfold jm; omega), rfl⟩
theorem iX (a : Int) (h : 0 ≤ a) (h2 : a ≤ 16200000) (w : World) :
 Calls Tryz.prog 99 #[.int .i64 a] w fun e w' => e = .returned (.int .i64 (kW a)) ∧ w = w' := by
 have tb := xx h h2
 have ub := bK tb.1 tb.2
 have b1 := pg ub.1 ub.2
 have b2 := pq ub.1 ub.2
 have b3 := pu ub.1 ub.2
 have b4 := pw ub.1 ub.2
 have b5 := Zi ub.1 ub.2
 have fin := hide (show kW a = (zf (tA a) (bJ (zf (tA a) (tA a))) + 1) / 2 from rfl)
 generalize kW a = q at *
 have ht : (a * 6746518852 + 32400000) / 64800000 = tA a := rfl
 generalize tA a = t at *
 obtain ⟨u, hu⟩ : ∃ u, zf t t = u := ⟨_, rfl⟩
 rw [hu] at ub b1 b2 b3 b4 b5
 have e1 := hide (show Um u = 2147483648 - jm u 110 from rfl)
 have e2 := hide (show Un u = 2147483648 - jm (zf u (Um u)) 72 from rfl)
 have e3 := hide (show Uo u = 2147483648 - jm (zf u (Un u)) 42 from rfl)
 have e4 := hide (show KD u = 2147483648 - jm (zf u (Uo u)) 20 from rfl)
 have e5 := hide (show bJ u = 2147483648 - jm (zf u (KD u)) 6 from rfl)
 obtain ⟨c1, d1⟩ := b1
 obtain ⟨c2, d2⟩ := b2
 obtain ⟨c3, d3⟩ := b3
 obtain ⟨c4, d4⟩ := b4
 obtain ⟨c5, d5⟩ := b5
 obtain ⟨t1, t2⟩ := tb
 obtain ⟨u1, u2⟩ := ub
 have fin2 : Hid (q = (zf t (bJ u) + 1) / 2) := hide (by rw [fin.out, hu])
 clear fin
 generalize hr5 : bJ u = r5 at *
 generalize hr4 : KD u = r4 at *
 generalize hr3 : Uo u = r3 at *
 generalize hr2 : Un u = r2 at *
 generalize hr1 : Um u = r1 at *
 have m1 := ym u1 (show 0 ≤ r1 by omega) d1
 have m2 := ym u1 (show 0 ≤ r2 by omega) d2
 have m3 := ym u1 (show 0 ≤ r3 by omega) d3
 have m4 := ym u1 (show 0 ≤ r4 by omega) d4
 have m5 := ym t1 (show 0 ≤ r5 by omega) d5
 clear hr1 hr2 hr3 hr4 hr5
 have i0 : ∀ w : World, (Instr.index 173 (.agg #[.int .i64 110, .int .i64 72, .int .i64 42, .int .i64 20, .int .i64 6]) (.int .i64 0)).run Tryz.prog w = .ok (.int .i64 110) w := fun _ => by kernel_rfl
 have i1 : ∀ w : World, (Instr.index 173 (.agg #[.int .i64 110, .int .i64 72, .int .i64 42, .int .i64 20, .int .i64 6]) (.int .i64 1)).run Tryz.prog w = .ok (.int .i64 72) w := fun _ => by kernel_rfl
 have i2 : ∀ w : World, (Instr.index 173 (.agg #[.int .i64 110, .int .i64 72, .int .i64 42, .int .i64 20, .int .i64 6]) (.int .i64 2)).run Tryz.prog w = .ok (.int .i64 42) w := fun _ => by kernel_rfl
 have i3 : ∀ w : World, (Instr.index 173 (.agg #[.int .i64 110, .int .i64 72, .int .i64 42, .int .i64 20, .int .i64 6]) (.int .i64 3)).run Tryz.prog w = .ok (.int .i64 20) w := fun _ => by kernel_rfl
 have i4 : ∀ w : World, (Instr.index 173 (.agg #[.int .i64 110, .int .i64 72, .int .i64 42, .int .i64 20, .int .i64 6]) (.int .i64 4)).run Tryz.prog w = .ok (.int .i64 6) w := fun _ => by kernel_rfl
 go_enter Tryz.func99, Tryz.ntmps99
 go_wp2_with (first | (go_at_call 117; refine (yA _ _ (by omega) (by omega) (by omega) (by omega) _).mono ?_; rintro e w' ⟨rfl, rfl⟩) | (go_at_call 118; refine (yC _ _ (by omega) (by omega) (by omega) (by omega) _).mono ?_; rintro e w' ⟨rfl, rfl⟩))
 go_loop [17, 5] (fun a b => ∃ i r : Int, a = .int .i64 i ∧ b = .int .i64 r ∧ ((i = 0 ∧ r = 2147483648) ∨ (i = 1 ∧ r = r1) ∨ (i = 2 ∧ r = r2) ∨ (i = 3 ∧ r = r3) ∨ (i = 4 ∧ r = r4) ∨ (i = 5 ∧ r = r5))) (fun a _ => 5 - (intOf a).toNat)
 case atStart => exact ⟨0, 2147483648, rfl, rfl, .inl ⟨rfl, rfl⟩⟩
 case round =>
  obtain ⟨i, r, rfl, rfl, ⟨rfl, rfl⟩ | ⟨rfl, rfl⟩ | ⟨rfl, rfl⟩ | ⟨rfl, rfl⟩ | ⟨rfl, rfl⟩ | ⟨rfl, rfl⟩⟩ := hrel
  · have e := e1.out
    have ew : wrap64 (2147483648 - jm u 110) = r1 := by rw [← e]; unfold wrap64; omega
    have E := hide e
    go_wp2_with (first | (go_at_call 117; refine (yA _ _ (by omega) (by omega) (by omega) (by omega) _).mono ?_; rintro e w' ⟨rfl, rfl⟩) | (go_at_call 118; refine (yC _ _ (by omega) (by omega) (by omega) (by omega) _).mono ?_; rintro e w' ⟨rfl, rfl⟩))
    go_round
    case rel => exact ⟨1, r1, rfl, by first | rfl | rw [E.out] | rw [ew], by simp⟩
    case measure => simp [intOf]
  · have e := e2.out
    have ew : wrap64 (2147483648 - jm (zf u r) 72) = r2 := by rw [← e]; unfold wrap64; omega
    have E := hide e
    go_wp2_with (first | (go_at_call 117; refine (yA _ _ (by omega) (by omega) (by omega) (by omega) _).mono ?_; rintro e w' ⟨rfl, rfl⟩) | (go_at_call 118; refine (yC _ _ (by omega) (by omega) (by omega) (by omega) _).mono ?_; rintro e w' ⟨rfl, rfl⟩))
    go_round
    case rel => exact ⟨2, r2, rfl, by first | rfl | rw [E.out] | rw [ew], by simp⟩
    case measure => simp [intOf]
  · have e := e3.out
    have ew : wrap64 (2147483648 - jm (zf u r) 42) = r3 := by rw [← e]; unfold wrap64; omega
    have E := hide e
    go_wp2_with (first | (go_at_call 117; refine (yA _ _ (by omega) (by omega) (by omega) (by omega) _).mono ?_; rintro e w' ⟨rfl, rfl⟩) | (go_at_call 118; refine (yC _ _ (by omega) (by omega) (by omega) (by omega) _).mono ?_; rintro e w' ⟨rfl, rfl⟩))
    go_round
    case rel => exact ⟨3, r3, rfl, by first | rfl | rw [E.out] | rw [ew], by simp⟩
    case measure => simp [intOf]
  · have e := e4.out
    have ew : wrap64 (2147483648 - jm (zf u r) 20) = r4 := by rw [← e]; unfold wrap64; omega
    have E := hide e
    go_wp2_with (first | (go_at_call 117; refine (yA _ _ (by omega) (by omega) (by omega) (by omega) _).mono ?_; rintro e w' ⟨rfl, rfl⟩) | (go_at_call 118; refine (yC _ _ (by omega) (by omega) (by omega) (by omega) _).mono ?_; rintro e w' ⟨rfl, rfl⟩))
    go_round
    case rel => exact ⟨4, r4, rfl, by first | rfl | rw [E.out] | rw [ew], by simp⟩
    case measure => simp [intOf]
  · have e := e5.out
    have ew : wrap64 (2147483648 - jm (zf u r) 6) = r5 := by rw [← e]; unfold wrap64; omega
    have E := hide e
    go_wp2_with (first | (go_at_call 117; refine (yA _ _ (by omega) (by omega) (by omega) (by omega) _).mono ?_; rintro e w' ⟨rfl, rfl⟩) | (go_at_call 118; refine (yC _ _ (by omega) (by omega) (by omega) (by omega) _).mono ?_; rintro e w' ⟨rfl, rfl⟩))
    go_round
    case rel => exact ⟨5, r5, rfl, by first | rfl | rw [E.out] | rw [ew], by simp⟩
    case measure => simp [intOf]
  · go_wp2_with (first | (go_at_call 117; refine (yA _ _ (by omega) (by omega) (by omega) (by omega) _).mono ?_; rintro e w' ⟨rfl, rfl⟩) | (go_at_call 118; refine (yC _ _ (by omega) (by omega) (by omega) (by omega) _).mono ?_; rintro e w' ⟨rfl, rfl⟩))
    go_ret
    exact ⟨qL (by rw [fin2.out]), rfl⟩
theorem nH (a : Int) (h : 0 ≤ a) (h2 : a ≤ 16200000) (w : World) :
 Calls Tryz.prog 100 #[.int .i64 a] w fun e w' => e = .returned (.int .i64 (jB a)) ∧ w = w' := by
 have tb := xx h h2
 have ub := bK tb.1 tb.2
 have b1 := pz ub.1 ub.2
 have b2 := pC ub.1 ub.2
 have b3 := pD ub.1 ub.2
 have b4 := pE ub.1 ub.2
 have b5 := pF ub.1 ub.2
 have fin := hide (show jB a = (xj (zf (tA a) (tA a)) + 1) / 2 from rfl)
 generalize jB a = q at *
 have ht : (a * 6746518852 + 32400000) / 64800000 = tA a := rfl
 generalize tA a = t at *
 obtain ⟨u, hu⟩ : ∃ u, zf t t = u := ⟨_, rfl⟩
 rw [hu] at ub b1 b2 b3 b4 b5
 have e1 := hide (show Uq u = 2147483648 - jm u 90 from rfl)
 have e2 := hide (show Ur u = 2147483648 - jm (zf u (Uq u)) 56 from rfl)
 have e3 := hide (show Us u = 2147483648 - jm (zf u (Ur u)) 30 from rfl)
 have e4 := hide (show Ut u = 2147483648 - jm (zf u (Us u)) 12 from rfl)
 have e5 := hide (show xj u = 2147483648 - jm (zf u (Ut u)) 2 from rfl)
 obtain ⟨c1, d1⟩ := b1
 obtain ⟨c2, d2⟩ := b2
 obtain ⟨c3, d3⟩ := b3
 obtain ⟨c4, d4⟩ := b4
 obtain ⟨c5, d5⟩ := b5
 obtain ⟨t1, t2⟩ := tb
 obtain ⟨u1, u2⟩ := ub
 have fin2 : Hid (q = (xj u + 1) / 2) := hide (by rw [fin.out, hu])
 clear fin
 generalize hr5 : xj u = r5 at *
 generalize hr4 : Ut u = r4 at *
 generalize hr3 : Us u = r3 at *
 generalize hr2 : Ur u = r2 at *
 generalize hr1 : Uq u = r1 at *
 have m1 := ym u1 (show 0 ≤ r1 by omega) d1
 have m2 := ym u1 (show 0 ≤ r2 by omega) d2
 have m3 := ym u1 (show 0 ≤ r3 by omega) d3
 have m4 := ym u1 (show 0 ≤ r4 by omega) d4
 have m5 := ym t1 (show 0 ≤ r5 by omega) d5
 clear hr1 hr2 hr3 hr4 hr5
 have i0 : ∀ w : World, (Instr.index 173 (.agg #[.int .i64 90, .int .i64 56, .int .i64 30, .int .i64 12, .int .i64 2]) (.int .i64 0)).run Tryz.prog w = .ok (.int .i64 90) w := fun _ => by kernel_rfl
 have i1 : ∀ w : World, (Instr.index 173 (.agg #[.int .i64 90, .int .i64 56, .int .i64 30, .int .i64 12, .int .i64 2]) (.int .i64 1)).run Tryz.prog w = .ok (.int .i64 56) w := fun _ => by kernel_rfl
 have i2 : ∀ w : World, (Instr.index 173 (.agg #[.int .i64 90, .int .i64 56, .int .i64 30, .int .i64 12, .int .i64 2]) (.int .i64 2)).run Tryz.prog w = .ok (.int .i64 30) w := fun _ => by kernel_rfl
 have i3 : ∀ w : World, (Instr.index 173 (.agg #[.int .i64 90, .int .i64 56, .int .i64 30, .int .i64 12, .int .i64 2]) (.int .i64 3)).run Tryz.prog w = .ok (.int .i64 12) w := fun _ => by kernel_rfl
 have i4 : ∀ w : World, (Instr.index 173 (.agg #[.int .i64 90, .int .i64 56, .int .i64 30, .int .i64 12, .int .i64 2]) (.int .i64 4)).run Tryz.prog w = .ok (.int .i64 2) w := fun _ => by kernel_rfl
 go_enter Tryz.func100, Tryz.ntmps100
 go_wp2_with (first | (go_at_call 117; refine (yA _ _ (by omega) (by omega) (by omega) (by omega) _).mono ?_; rintro e w' ⟨rfl, rfl⟩) | (go_at_call 118; refine (yC _ _ (by omega) (by omega) (by omega) (by omega) _).mono ?_; rintro e w' ⟨rfl, rfl⟩))
 go_loop [17, 5] (fun a b => ∃ i r : Int, a = .int .i64 i ∧ b = .int .i64 r ∧ ((i = 0 ∧ r = 2147483648) ∨ (i = 1 ∧ r = r1) ∨ (i = 2 ∧ r = r2) ∨ (i = 3 ∧ r = r3) ∨ (i = 4 ∧ r = r4) ∨ (i = 5 ∧ r = r5))) (fun a _ => 5 - (intOf a).toNat)
 case atStart => exact ⟨0, 2147483648, rfl, rfl, .inl ⟨rfl, rfl⟩⟩
 case round =>
  obtain ⟨i, r, rfl, rfl, ⟨rfl, rfl⟩ | ⟨rfl, rfl⟩ | ⟨rfl, rfl⟩ | ⟨rfl, rfl⟩ | ⟨rfl, rfl⟩ | ⟨rfl, rfl⟩⟩ := hrel
  · have e := e1.out
    have ew : wrap64 (2147483648 - jm u 90) = r1 := by rw [← e]; unfold wrap64; omega
    have E := hide e
    go_wp2_with (first | (go_at_call 117; refine (yA _ _ (by omega) (by omega) (by omega) (by omega) _).mono ?_; rintro e w' ⟨rfl, rfl⟩) | (go_at_call 118; refine (yC _ _ (by omega) (by omega) (by omega) (by omega) _).mono ?_; rintro e w' ⟨rfl, rfl⟩))
    go_round
    case rel => exact ⟨1, r1, rfl, by first | rfl | rw [E.out] | rw [ew], by simp⟩
    case measure => simp [intOf]
  · have e := e2.out
    have ew : wrap64 (2147483648 - jm (zf u r) 56) = r2 := by rw [← e]; unfold wrap64; omega
    have E := hide e
    go_wp2_with (first | (go_at_call 117; refine (yA _ _ (by omega) (by omega) (by omega) (by omega) _).mono ?_; rintro e w' ⟨rfl, rfl⟩) | (go_at_call 118; refine (yC _ _ (by omega) (by omega) (by omega) (by omega) _).mono ?_; rintro e w' ⟨rfl, rfl⟩))
    go_round
    case rel => exact ⟨2, r2, rfl, by first | rfl | rw [E.out] | rw [ew], by simp⟩
    case measure => simp [intOf]
  · have e := e3.out
    have ew : wrap64 (2147483648 - jm (zf u r) 30) = r3 := by rw [← e]; unfold wrap64; omega
    have E := hide e
    go_wp2_with (first | (go_at_call 117; refine (yA _ _ (by omega) (by omega) (by omega) (by omega) _).mono ?_; rintro e w' ⟨rfl, rfl⟩) | (go_at_call 118; refine (yC _ _ (by omega) (by omega) (by omega) (by omega) _).mono ?_; rintro e w' ⟨rfl, rfl⟩))
    go_round
    case rel => exact ⟨3, r3, rfl, by first | rfl | rw [E.out] | rw [ew], by simp⟩
    case measure => simp [intOf]
  · have e := e4.out
    have ew : wrap64 (2147483648 - jm (zf u r) 12) = r4 := by rw [← e]; unfold wrap64; omega
    have E := hide e
    go_wp2_with (first | (go_at_call 117; refine (yA _ _ (by omega) (by omega) (by omega) (by omega) _).mono ?_; rintro e w' ⟨rfl, rfl⟩) | (go_at_call 118; refine (yC _ _ (by omega) (by omega) (by omega) (by omega) _).mono ?_; rintro e w' ⟨rfl, rfl⟩))
    go_round
    case rel => exact ⟨4, r4, rfl, by first | rfl | rw [E.out] | rw [ew], by simp⟩
    case measure => simp [intOf]
  · have e := e5.out
    have ew : wrap64 (2147483648 - jm (zf u r) 2) = r5 := by rw [← e]; unfold wrap64; omega
    have E := hide e
    go_wp2_with (first | (go_at_call 117; refine (yA _ _ (by omega) (by omega) (by omega) (by omega) _).mono ?_; rintro e w' ⟨rfl, rfl⟩) | (go_at_call 118; refine (yC _ _ (by omega) (by omega) (by omega) (by omega) _).mono ?_; rintro e w' ⟨rfl, rfl⟩))
    go_round
    case rel => exact ⟨5, r5, rfl, by first | rfl | rw [E.out] | rw [ew], by simp⟩
    case measure => simp [intOf]
  · go_wp2_with (first | (go_at_call 117; refine (yA _ _ (by omega) (by omega) (by omega) (by omega) _).mono ?_; rintro e w' ⟨rfl, rfl⟩) | (go_at_call 118; refine (yC _ _ (by omega) (by omega) (by omega) (by omega) _).mono ?_; rintro e w' ⟨rfl, rfl⟩))
    go_ret
    exact ⟨qL (by rw [fin2.out]), rfl⟩
theorem gG (a : Int) (h : 0 ≤ a) (h2 : a ≤ 32400000) (w : World) :
 Calls Tryz.prog 62 #[.int .i64 a] w fun e w' => e = .returned (.int .i64 (yo a)) ∧ w = w' := by
 have hq := hide (show yo a = if a ≤ 16200000 then kW a else jB (32400000 - a) from rfl)
 generalize yo a = q at *
 by_cases t : a ≤ 16200000
 all_goals
  go_enter Tryz.func62, Tryz.ntmps62
  go_wp2_with (first | (go_at_call 99; refine (iX _ (by omega) (by omega) _).mono ?_; rintro e w' ⟨rfl, rfl⟩) | (go_at_call 100; refine (nH _ (by omega) (by omega) _).mono ?_; rintro e w' ⟨rfl, rfl⟩))
  go_ret
  exact ⟨qL (by rw [hq.out]; first | rw [if_pos (by omega)] | rw [if_neg (by omega)]), rfl⟩
theorem QJ (a : Int) (ha : qH a) (w : World) :
 Calls Tryz.prog 28 #[.int .i64 a] w fun e w' => e = .returned (.int .i64 (qV a)) ∧ w = w' := by
 have nb := zM a
 have hq := hide (show qV a = if norm a ≤ 32400000 then yo (norm a) else if norm a ≤ 64800000 then yo (64800000 - norm a) else if norm a ≤ 97200000 then -yo (norm a - 64800000) else -yo (129600000 - norm a) from rfl)
 have na := fun w => yj a ha w
 have qb : ∀ x, 0 ≤ x → x ≤ 32400000 → 0 ≤ yo x ∧ yo x ≤ 1073741824 := fun x h1 h2 => Qz h1 h2
 have QB := hide qb
 clear qb
 generalize norm a = b at *
 generalize qV a = q at *
 obtain ⟨nb1, nb2⟩ := nb
 by_cases t1 : b ≤ 32400000
 · go_enter Tryz.func28, Tryz.ntmps28
   go_wp2_with (first | (go_at_call 48; refine (na _).mono ?_; rintro e w' ⟨rfl, rfl⟩) | (go_at_call 62; refine (gG _ (by omega) (by omega) _).mono ?_; rintro e w' ⟨rfl, rfl⟩))
   go_ret
   exact ⟨qL (by rw [hq.out]; rw [if_pos (by omega)]), rfl⟩
 · by_cases t2 : b ≤ 64800000
   · go_enter Tryz.func28, Tryz.ntmps28
     go_wp2_with (first | (go_at_call 48; refine (na _).mono ?_; rintro e w' ⟨rfl, rfl⟩) | (go_at_call 62; refine (gG _ (by omega) (by omega) _).mono ?_; rintro e w' ⟨rfl, rfl⟩))
     go_ret
     exact ⟨qL (by rw [hq.out]; rw [if_neg (by omega), if_pos (by omega)]), rfl⟩
   · by_cases t3 : b ≤ 97200000
     · have Q := QB.out (b - 64800000) (by omega) (by omega)
       go_enter Tryz.func28, Tryz.ntmps28
       go_wp2_with (first | (go_at_call 48; refine (na _).mono ?_; rintro e w' ⟨rfl, rfl⟩) | (go_at_call 62; refine (gG _ (by omega) (by omega) _).mono ?_; rintro e w' ⟨rfl, rfl⟩))
       go_ret
       exact ⟨qL (by rw [hq.out]; rw [if_neg (by omega), if_neg (by omega), if_pos (by omega)]), rfl⟩
     · have Q := QB.out (129600000 - b) (by omega) (by omega)
       go_enter Tryz.func28, Tryz.ntmps28
       go_wp2_with (first | (go_at_call 48; refine (na _).mono ?_; rintro e w' ⟨rfl, rfl⟩) | (go_at_call 62; refine (gG _ (by omega) (by omega) _).mono ?_; rintro e w' ⟨rfl, rfl⟩))
       go_ret
       exact ⟨qL (by rw [hq.out]; rw [if_neg (by omega), if_neg (by omega), if_neg (by omega)]), rfl⟩
theorem Jl (a : Int) (ha : qH a) (w : World) :
 Calls Tryz.prog 29 #[.int .i64 a] w fun e w' => e = .returned (.int .i64 (qX a)) ∧ w = w' := by
 have tb := tC a 32400000
 go_enter Tryz.func29, Tryz.ntmps29
 go_wp2_with (first | (go_at_call 63; refine (bQ _ _ ha (by unfold qH; omega) _).mono ?_; rintro e w' ⟨rfl, rfl⟩) | (go_at_call 28; refine (QJ _ (by unfold qH; omega) _).mono ?_; rintro e w' ⟨rfl, rfl⟩))
 go_ret
 exact ⟨rfl, rfl⟩
theorem iY (i j : Int) (h0 : 0 ≤ i) (h1 : i < j) (h2 : j ≤ 1099511627776) : i ≤ (i + j) / 2 ∧ (i + j) / 2 < j := by omega
theorem Gc (n : Int) (hn : 0 ≤ n) (hn2 : n ≤ 1099511627776) (b : Nat) (p : Int → Bool) (W : World)
 (hf : ∀ h k, 0 ≤ h → h < n → Calls Tryz.prog 82 #[.int .i64 h, .pointer (some ⟨b, 0, none⟩)] (W.drewN k) fun e w' => e = .returned (.bool (p h)) ∧ ∃ m, w' = W.drewN m) :
 Calls Tryz.prog 81 #[.int .i64 n, .func (.func 82) #[] #[.pointer (some ⟨b, 0, none⟩)]] W fun e w' =>
  ∃ r, e = .returned (.int .i64 r) ∧ 0 ≤ r ∧ r ≤ n ∧ (r = n ∨ p r = true) ∧ (r = 0 ∨ p (r - 1) = false) ∧ ∃ m, w' = W.drewN m := by
 go_enter Tryz.func81, Tryz.ntmps81
 go_wp2
 go_loopw [5, 6] (fun a c wr => ∃ (i j : Int) (k : Nat), a = .int .i64 i ∧ c = .int .i64 j ∧ 0 ≤ i ∧ i ≤ j ∧ j ≤ n ∧ Hid (j = n ∨ p j = true) ∧ Hid (i = 0 ∨ p (i - 1) = false) ∧ wr = W.drewN k) (fun a c _ => (intOf c - intOf a).toNat)
 case atStart => exact ⟨0, n, 0, rfl, rfl, by omega, hn, by omega, .inl rfl, .inl rfl, rfl⟩
 case round =>
  obtain ⟨i, j, k, rfl, rfl, i0, i1, j1, J, I, rfl⟩ := hrel
  by_cases t : i < j
  · obtain ⟨h1, h2⟩ := iY i j i0 t (by omega)
    have eh : wrap64 (IntKind.u64.wrap (i + j) / 2) = (i + j) / 2 := by rw [IntKind.wrap_u64]; unfold wrap64; omega
    have C := hf ((i + j) / 2) k (by omega) (by omega)
    cases hp : p ((i + j) / 2) with
    | true =>
      rw [hp] at C
      have HP := hide hp
      clear hp
      go_wp2_with (go_at_call 82; refine C.mono ?_; rintro e w' ⟨rfl, m, rfl⟩)
      go_roundw
      case rel => exact ⟨i, (i + j) / 2, m, rfl, rfl, i0, h1, by omega, .inr HP.out, I, rfl⟩
      case measure => simp [intOf]; omega
    | false =>
      rw [hp] at C
      have HP := hide hp
      clear hp
      go_wp2_with (go_at_call 82; refine C.mono ?_; rintro e w' ⟨rfl, m, rfl⟩)
      go_roundw
      case rel => exact ⟨(i + j) / 2 + 1, j, m, rfl, rfl, by omega, by omega, j1, J, .inr (by rw [show (i + j) / 2 + 1 - 1 = (i + j) / 2 by omega]; exact HP.out), rfl⟩
      case measure => simp [intOf]; omega
  · obtain rfl : i = j := by omega
    go_wp2
    go_ret
    exact ⟨i, rfl, i0, j1, J.out, I.out, k, rfl⟩
def Gd (m n c : Int) : Bool := decide (qV c * m ≤ qX c * n)
theorem fX (c m n : Int) (c0 : 0 ≤ c) (c1 : c ≤ 16200000) (m0 : 0 ≤ m) (m1 : m ≤ 2147483647) (n0 : 0 ≤ n) (n1 : n ≤ 2147483647) (bm bn : Nat) (w : World)
 (hm : w.cell? ⟨bm, 0, none⟩ = some (.int .i64 m)) (hn : w.cell? ⟨bn, 0, none⟩ = some (.int .i64 n)) :
 Calls Tryz.prog 47 #[.int .i64 c, .pointer (some ⟨bm, 0, none⟩), .pointer (some ⟨bn, 0, none⟩)] w fun e w' => e = .returned (.bool (Gd m n c)) ∧ ∃ k, w' = w.drewN k := by
 have sb := kJ c
 have cb := uj c
 have hc : qH c := by unfold qH; omega
 have p1 : qV c * m ≤ 1073741824 * m := Int.mul_le_mul_of_nonneg_right sb.2 m0
 have p2 : -1073741824 * m ≤ qV c * m := Int.mul_le_mul_of_nonneg_right sb.1 m0
 have p3 : qX c * n ≤ 1073741824 * n := Int.mul_le_mul_of_nonneg_right cb.2 n0
 have p4 : -1073741824 * n ≤ qX c * n := Int.mul_le_mul_of_nonneg_right cb.1 n0
 have q1 : qV c * m ≤ 2305843008139952128 := by omega
 have q2 : -2305843008139952128 ≤ qV c * m := by omega
 have q3 : qX c * n ≤ 2305843008139952128 := by omega
 have q4 : -2305843008139952128 ≤ qX c * n := by omega
 clear p1 p2 p3 p4
 have h := hide (show Gd m n c = decide (qV c * m ≤ qX c * n) from rfl)
 generalize Gd m n c = q at *
 go_enter Tryz.func47, Tryz.ntmps47
 go_wp2_with fail
 go_quiet ((first | (go_at_call 28; exact mI (QJ c hc _)) | (go_at_call 29; exact mI (Jl c hc _))))
 go_wp2_with fail
 go_ret
 exact ⟨yH h.out.symm, _, rfl⟩
theorem Ge (h m n : Int) (c0 : 0 ≤ h) (c1 : h < 16200000) (m0 : 0 ≤ m) (m1 : m ≤ 2147483647) (n0 : 0 ≤ n) (n1 : n ≤ 2147483647) (b bm bn : Nat) (w : World)
 (hb : w.cell? ⟨b, 0, none⟩ = some (.func (.func 47) #[] #[.pointer (some ⟨bm, 0, none⟩), .pointer (some ⟨bn, 0, none⟩)]))
 (hm : w.cell? ⟨bm, 0, none⟩ = some (.int .i64 m)) (hn : w.cell? ⟨bn, 0, none⟩ = some (.int .i64 n)) :
 Calls Tryz.prog 82 #[.int .i64 h, .pointer (some ⟨b, 0, none⟩)] w fun e w' => e = .returned (.bool (!Gd m n (h + 1))) ∧ ∃ k, w' = w.drewN k := by
 go_enter Tryz.func82, Tryz.ntmps82
 go_wp2_with (go_at_call 47; refine (fX (h + 1) m n (by omega) (by omega) m0 m1 n0 n1 bm bn _ hm hn).mono ?_; rintro e w' ⟨rfl, k, rfl⟩)
 go_ret
 exact ⟨rfl, _, rfl⟩
theorem PM {m n r : Int} (m0 : 0 ≤ m) (n0 : 0 ≤ n) (r0 : 0 ≤ r) (r1 : r ≤ 16200000) (h1 : r = 16200000 ∨ (!Gd m n (r + 1)) = true) (h2 : r = 0 ∨ (!Gd m n (r - 1 + 1)) = false) : r = kZ m n := by
 obtain ⟨g, hg, g1, g2, g3⟩ := JJ m n
 rw [hg]
 have hn := BG
 obtain ⟨k, rfl⟩ := Int.eq_ofNat_of_zero_le r0
 rcases Nat.lt_trichotomy g k with h | h | h
 · exfalso
   rcases h2 with h2 | h2
   · have : k = 0 := by exact_mod_cast h2
     omega
   · have e := g3 k h (by omega)
     rw [show (k : Int) - 1 + 1 = (k : Int) by omega] at h2
     have e2 : Gd m n (k : Int) = Pj m n k := rfl
     rw [e2, e] at h2
     exact absurd h2 (by decide)
 · rw [h]
 · exfalso
   rcases h1 with h1 | h1
   · omega
   · rcases g2 with g2 | g2
     · omega
     · have e := eK m0 n0 (c := k + 1) (d := g) (by omega) (by omega) g2
       have e2 : Gd m n ((k : Int) + 1) = Pj m n (k + 1) := rfl
       rw [e2, e] at h1
       exact absurd h1 (by decide)
theorem Jm (m n : Int) (m0 : 0 ≤ m) (m1 : m ≤ 2147483647) (n0 : 0 ≤ n) (n1 : n ≤ 2147483647) (bm bn : Nat) (w : World)
 (hbm : bm < w.heap.size) (hbn : bn < w.heap.size)
 (hm : w.cell? ⟨bm, 0, none⟩ = some (.int .i64 m)) (hn : w.cell? ⟨bn, 0, none⟩ = some (.int .i64 n)) :
 Calls Tryz.prog 46 #[.int .i64 16200000, .func (.func 47) #[] #[.pointer (some ⟨bm, 0, none⟩), .pointer (some ⟨bn, 0, none⟩)]] w fun e w' => e = .returned (.int .i64 (kZ m n)) ∧ Below w.heap.size w w' := by
 have hb1 : (w.alloc (.cells #[.func (.func 47) #[] #[.pointer (some ⟨bm, 0, none⟩), .pointer (some ⟨bn, 0, none⟩)]] 83)).cell? ⟨w.heap.size, 0, none⟩ = some (.func (.func 47) #[] #[.pointer (some ⟨bm, 0, none⟩), .pointer (some ⟨bn, 0, none⟩)]) := by
  simp
 have hm1 : (w.alloc (.cells #[.func (.func 47) #[] #[.pointer (some ⟨bm, 0, none⟩), .pointer (some ⟨bn, 0, none⟩)]] 83)).cell? ⟨bm, 0, none⟩ = some (.int .i64 m) := by
  rw [World.cell?_alloc_past _ _ _ hbm]; exact hm
 have hn1 : (w.alloc (.cells #[.func (.func 47) #[] #[.pointer (some ⟨bm, 0, none⟩), .pointer (some ⟨bn, 0, none⟩)]] 83)).cell? ⟨bn, 0, none⟩ = some (.int .i64 n) := by
  rw [World.cell?_alloc_past _ _ _ hbn]; exact hn
 have hB : Below w.heap.size w (w.alloc (.cells #[.func (.func 47) #[] #[.pointer (some ⟨bm, 0, none⟩), .pointer (some ⟨bn, 0, none⟩)]] 83)) := (Below.refl _ _).alloc (Nat.le_refl _) _
 have S := Gc 16200000 (by omega) (by omega) w.heap.size (fun h => !Gd m n (h + 1)) (w.alloc (.cells #[.func (.func 47) #[] #[.pointer (some ⟨bm, 0, none⟩), .pointer (some ⟨bn, 0, none⟩)]] 83))
  (fun h k h0 h1 => (Ge h m n h0 h1 m0 m1 n0 n1 w.heap.size bm bn ((w.alloc (.cells #[.func (.func 47) #[] #[.pointer (some ⟨bm, 0, none⟩), .pointer (some ⟨bn, 0, none⟩)]] 83)).drewN k) hb1 hm1 hn1).mono (by rintro e w' ⟨rfl, j, rfl⟩; exact ⟨rfl, _, World.drewN_drewN _ _ _⟩))
 have HB := hide hB
 have HS := hide S
 clear hB S hb1 hm1 hn1
 go_enter Tryz.func46, Tryz.ntmps46
 go_wp2_with (go_at_call 81; refine HS.out.mono ?_; rintro e w' ⟨r, rfl, r0, r1, r2, r3, k, rfl⟩; have R := hide (PM m0 n0 r0 r1 r2 r3); clear r2 r3)
 go_ret
 exact ⟨qL R.out, below_drewN HB.out _⟩
theorem iZ (x : Int) (h : -2147483647 ≤ x) (h2 : x ≤ 2147483647) (w : World) :
 Calls Tryz.prog 45 #[.int .i64 x] w fun e w' => e = .returned (.bool false) ∧ w = w' := by
 go_enter Tryz.func45, Tryz.ntmps45
 go_wp2
 all_goals
  go_ret
  exact ⟨yH (by simp; omega), rfl⟩
theorem nI (y x : Int) (A B : Int) (hA : (x.natAbs : Int) = A) (hB : (y.natAbs : Int) = B) (C : Int) (hC : C = kZ (if A < B then B else A) (if A < B then A else B)) (Q : Int) (hQ : Q = if A < B then 32400000 - C else C) : Q = yL y x := by
 rw [hQ, hC]; unfold yL
 by_cases h : A < B
 · rw [if_pos h, if_pos h, if_pos h, if_pos (by omega), hA, hB]
 · rw [if_neg h, if_neg h, if_neg h, if_neg (by omega), hA, hB]
theorem UJ (y x : Int) (hy : -2147483647 ≤ y) (hy2 : y ≤ 2147483647) (hx : -2147483647 ≤ x) (hx2 : x ≤ 2147483647) (h0 : ¬ (x = 0 ∧ y = 0)) (w : World) :
 Calls Tryz.prog 21 #[.int .i64 y, .int .i64 x] w fun e w' => e = .returned (.tuple #[.int .i64 (qZ y x), .int .i64 0]) ∧ Below w.heap.size w w' := by
 have T : ((x == 0) = true ∧ (y == 0) = false) ∨ (x == 0) = false := by
  by_cases hx0 : x = 0
  · left; simp [hx0]; intro hy0; exact h0 ⟨hx0, hy0⟩
  · right; simp [hx0]
 clear h0
 have bx : (x.natAbs : Int) ≤ 2147483647 ∧ 0 ≤ (x.natAbs : Int) := by omega
 have b_y : (y.natAbs : Int) ≤ 2147483647 ∧ 0 ≤ (y.natAbs : Int) := by omega
 have ax := fun w => kr x (by unfold qH; omega) (by omega) w
 have ay := fun w => kr y (by unfold qH; omega) (by omega) w
 have WY := nI y x
 have F : Hid (qZ y x = if 0 ≤ y then (if 0 ≤ x then yL y x else 64800000 - yL y x) else if x < 0 then 64800000 + yL y x else norm (-yL y x)) := hide rfl
 generalize hA : (x.natAbs : Int) = A at *
 generalize hB : (y.natAbs : Int) = B at *
 obtain ⟨Q, hQ⟩ : ∃ Q, Q = yL y x := ⟨_, rfl⟩
 have qb := GV y x
 rw [← hQ] at F qb
 have W0 := hide (fun C hC Q' hQ' => (WY A B rfl rfl C hC Q' hQ').trans hQ.symm)
 clear WY hQ hA hB
 generalize qZ y x = R at *
 obtain ⟨a1, a0⟩ := bx
 obtain ⟨b1, b0⟩ := b_y
 obtain ⟨qb0, qb1⟩ := qb
 have ax := hide ax
 have ay := hide ay
 by_cases t : A < B
 · have cb := Qd B A
   have mx : max A B = B := by omega
   have mn : min A B = A := by omega
   have G := fun bm bn w hbm hbn hm hn => Jm B A (by omega) (by omega) (by omega) (by omega) bm bn w hbm hbn hm hn
   have G := hide G
   generalize hC : kZ B A = C at *
   have e : 32400000 - C = Q := W0.out C (by rw [if_pos t, if_pos t]; exact hC.symm) _ (by rw [if_pos t])
   have E := hide e
   clear e W0 hC
   rcases T with ⟨T1, T2⟩ | T1
   all_goals by_cases s1 : 0 ≤ x
   all_goals by_cases s2 : 0 ≤ y
   all_goals
    go_enter Tryz.func21, Tryz.ntmps21
    go_wp2_with (go_at_call 45; refine (iZ _ (by omega) (by omega) _).mono ?_; rintro e w' ⟨rfl, rfl⟩)
    refine (ax.out _).mono ?_; rintro e w' ⟨rfl, rfl⟩
    go_wp2_with fail
    refine (ay.out _).mono ?_; rintro e w' ⟨rfl, rfl⟩
    go_wp2_with fail
    refine (G.out _ _ _ (by simp <;> omega) (by simp <;> omega) (by simp; done) (by simp; done)).mono ?_; rintro e w' ⟨rfl, hb⟩
    have HB := hide hb
    clear hb
    go_wp2_with (go_at_call 48; refine (yj _ (by unfold qH; omega) _).mono ?_; rintro e w' ⟨rfl, rfl⟩)
   all_goals
    go_ret2
    refine ⟨tD ?_ rfl, ((((Below.refl _ _).alloc (Nat.le_refl _) _).alloc (by simp) _).trans (HB.out.mono (by simp <;> omega)))⟩
    rw [F.out, ← E.out]
    first | rw [if_pos (show 0 ≤ y by omega), if_pos (show 0 ≤ x by omega)] | rw [if_pos (show 0 ≤ y by omega), if_neg (show ¬ 0 ≤ x by omega)] | rw [if_neg (show ¬ 0 ≤ y by omega), if_pos (show x < 0 by omega)] | rw [if_neg (show ¬ 0 ≤ y by omega), if_neg (show ¬ x < 0 by omega)]
 · have cb := Qd A B
   have mx : max A B = A := by omega
   have mn : min A B = B := by omega
   have G := fun bm bn w hbm hbn hm hn => Jm A B (by omega) (by omega) (by omega) (by omega) bm bn w hbm hbn hm hn
   have G := hide G
   generalize hC : kZ A B = C at *
   have e : C = Q := W0.out C (by rw [if_neg t, if_neg t]; exact hC.symm) _ (by rw [if_neg t])
   have E := hide e
   clear e W0 hC
   rcases T with ⟨T1, T2⟩ | T1
   all_goals by_cases s1 : 0 ≤ x
   all_goals by_cases s2 : 0 ≤ y
   all_goals
    go_enter Tryz.func21, Tryz.ntmps21
    go_wp2_with (go_at_call 45; refine (iZ _ (by omega) (by omega) _).mono ?_; rintro e w' ⟨rfl, rfl⟩)
    refine (ax.out _).mono ?_; rintro e w' ⟨rfl, rfl⟩
    go_wp2_with fail
    refine (ay.out _).mono ?_; rintro e w' ⟨rfl, rfl⟩
    go_wp2_with fail
    refine (G.out _ _ _ (by simp <;> omega) (by simp <;> omega) (by simp; done) (by simp; done)).mono ?_; rintro e w' ⟨rfl, hb⟩
    have HB := hide hb
    clear hb
    go_wp2_with (go_at_call 48; refine (yj _ (by unfold qH; omega) _).mono ?_; rintro e w' ⟨rfl, rfl⟩)
   all_goals
    go_ret2
    refine ⟨tD ?_ rfl, ((((Below.refl _ _).alloc (Nat.le_refl _) _).alloc (by simp) _).trans (HB.out.mono (by simp <;> omega)))⟩
    rw [F.out, ← E.out]
    first | rw [if_pos (show 0 ≤ y by omega), if_pos (show 0 ≤ x by omega)] | rw [if_pos (show 0 ≤ y by omega), if_neg (show ¬ 0 ≤ x by omega)] | rw [if_neg (show ¬ 0 ≤ y by omega), if_pos (show x < 0 by omega)] | rw [if_neg (show ¬ 0 ≤ y by omega), if_neg (show ¬ x < 0 by omega)]
theorem iC {n r : Int} (hn : 0 ≤ n) (hr : 0 ≤ r) (h1 : r * r ≤ n) (h2 : n < (r + 1) * (r + 1)) : r = vO n.toNat := by
 have e := aZ (n := n.toNat) (r := r.toNat) (by
  have : ((r.toNat * r.toNat : Nat) : Int) ≤ (n.toNat : Int) := by
   rw [Int.natCast_mul, Int.toNat_of_nonneg hr, Int.toNat_of_nonneg hn]; exact h1
  omega) (by
  have : (n.toNat : Int) < (((r.toNat + 1) * (r.toNat + 1) : Nat) : Int) := by
   rw [Int.natCast_mul, Int.natCast_add, Int.toNat_of_nonneg hr, Int.toNat_of_nonneg hn]; exact h2
  omega)
 rw [e, Int.toNat_of_nonneg hr]
end Go.Proofs.YteanfgobpjdmnaaGreatDoor
