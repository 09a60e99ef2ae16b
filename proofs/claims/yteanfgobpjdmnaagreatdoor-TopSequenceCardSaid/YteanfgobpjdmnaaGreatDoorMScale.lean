/-
  The walk of fixed.scale, rounding down.
-/
import Derived.Test.YteanfgobpjdmnaaGreatDoorMFixed
set_option maxRecDepth 100000
set_option maxHeartbeats 16000000
namespace Go.Proofs.YteanfgobpjdmnaaGreatDoor
open Go.RowKit
set_option linter.unusedVariables false
theorem iD (a b c : Int) (ha : qH a) (hb : qH b) (hc : qH c) (h0 : c ≠ 0) (w : World) :
 Calls Tryz.prog 64 #[.int .i64 a, .int .i64 b, .int .i64 c, .int .u8 1] w fun e w' => e = .returned (.tuple #[.int .i64 (qM 1 a b c).1, .int .i64 (qM 1 a b c).2]) ∧ ∃ n, w' = w.drewN n := by
 have h1 : (c == 0) = false := by simp [h0]
 have A1 : (a.natAbs : Int) < 18446744073709551616 := by have := ha.1; have := ha.2; omega
 have B1 : (b.natAbs : Int) < 18446744073709551616 := by have := hb.1; have := hb.2; omega
 have C1 : (c.natAbs : Int) < 18446744073709551616 := by have := hc.1; have := hc.2; omega
 have C0 : 0 < (c.natAbs : Int) := by omega
 have P0 : 0 ≤ (a.natAbs : Int) * b.natAbs := Int.mul_nonneg (by omega) (by omega)
 have A0 : 0 ≤ (a.natAbs : Int) := by omega
 have B0 : 0 ≤ (b.natAbs : Int) := by omega
 have F := sN 1 a b c h0
 generalize hA : (a.natAbs : Int) = A at *
 generalize hB : (b.natAbs : Int) = B at *
 generalize hC : (c.natAbs : Int) = D at *
 generalize hQ : A * B / D = Q at *
 generalize hR : A * B % D = R at *
 obtain ⟨F1, F2, F3, F4, F5, F6, F7⟩ := F
 have G5 := hide F5
 have G6 := hide F6
 have G7 := hide F7
 clear F5 F6 F7 h0
 by_cases hd : D ≤ A * B / 18446744073709551616
 · go_enter Tryz.func64, Tryz.ntmps64
   go_wp2_with (first | (go_at_call 101; refine (ZH _ (by assumption) _).mono ?_; rintro e w' ⟨rfl, rfl⟩) | (go_at_call 102; refine (Qq _ _ (by omega) (by omega) (by omega) (by omega) _).mono ?_; rintro e w' ⟨rfl, rfl⟩))
   go_ret2
   exact ⟨tD (by rw [G5.out hd]) (by rw [G5.out hd]), 0, rfl⟩
 · have q1 : 0 ≤ A * B / 18446744073709551616 := by omega
   have q2 : A * B / 18446744073709551616 < D := by omega
   have q3 : 0 ≤ A * B % 18446744073709551616 := by omega
   have q4 : A * B % 18446744073709551616 < 18446744073709551616 := by omega
   have q5 : Q < 18446744073709551616 := G6.out q2
   have K0 : ∀ (neg : Bool) (k : Int), (neg = true ↔ ((a < 0 ↔ ¬ b < 0) ↔ ¬ c < 0)) → ((away 1 neg R.toNat D.toNat).toNat : Int) = k → qM 1 a b c = sg (Q + k) neg := fun neg k h2 h3 => Nd k h1 F2 (G7.out neg h2) h3
   have AW := fun neg => aw 1 neg R D F3 F4
   have K1 : ∀ (neg : Bool), (neg = true ↔ ((a < 0 ↔ ¬ b < 0) ↔ ¬ c < 0)) → ((away 1 neg R.toNat D.toNat).toNat : Int) = 0 → qM 1 a b c = sg Q neg := fun neg h2 h3 => by rw [K0 neg 0 h2 h3, Int.add_zero]
   have K2 : ∀ (neg : Bool), (neg = true ↔ ((a < 0 ↔ ¬ b < 0) ↔ ¬ c < 0)) → ((away 1 neg R.toNat D.toNat).toNat : Int) = 1 → 18446744073709551615 ≤ Q → qM 1 a b c = (0, 2) := fun neg h2 h3 h4 => by
    rw [K0 neg 1 h2 h3]; unfold sg ZI; cases neg <;> simp <;> omega
   have GK := hide K0
   have GK1 := hide K1
   have GK2 := hide K2
   clear K1 K2
   have GA := hide AW
   clear K0 AW
   by_cases qm : Q < 18446744073709551615
   case' pos => have qm' : (Q == 18446744073709551615) = false := by simp; omega
   case' neg => have qm' : (Q == 18446744073709551615) = true := by simp; omega
   all_goals by_cases sa : a < 0 <;> by_cases sb : b < 0 <;> by_cases sc : c < 0
   all_goals
    go_enter Tryz.func64, Tryz.ntmps64
    go_wp2_with (first | (go_at_call 101; refine (ZH _ (by assumption) _).mono ?_; rintro e w' ⟨rfl, rfl⟩) | (go_at_call 102; refine (Qq _ _ (by omega) (by omega) (by omega) (by omega) _).mono ?_; rintro e w' ⟨rfl, rfl⟩) | (go_at_call 104; refine (Vh _ _ (by omega) _).mono ?_; rintro e w' ⟨rfl, rfl⟩) | (go_at_call 103; refine (KZ _ _ _ q1 q2 q3 q4 (by omega) _).mono ?_; rintro e w' ⟨rfl, m, rfl⟩))
   all_goals
    go_ret2
    refine ⟨?_, _, rfl⟩
    first
    | (refine kq (GK.out true 1 ?_ ?_).symm <;> first | omega | (simp; done) | (simp; omega) | (rw [GA.out true]; simp; done) | (rw [GA.out true]; simp; omega))
    | (refine kq (GK1.out true ?_ ?_).symm <;> first | omega | (simp; done) | (simp; omega) | (rw [GA.out true]; simp; done) | (rw [GA.out true]; simp; omega))
    | (refine kq (GK.out false 1 ?_ ?_).symm <;> first | omega | (simp; done) | (simp; omega) | (rw [GA.out false]; simp; done) | (rw [GA.out false]; simp; omega))
    | (refine kq (GK1.out false ?_ ?_).symm <;> first | omega | (simp; done) | (simp; omega) | (rw [GA.out false]; simp; done) | (rw [GA.out false]; simp; omega))
    | (refine kq (x := (0, 2)) (GK2.out true ?_ ?_ ?_).symm <;> first | omega | (simp; done) | (simp; omega) | (rw [GA.out true]; simp; done) | (rw [GA.out true]; simp; omega))
    | (refine kq (x := (0, 2)) (GK2.out false ?_ ?_ ?_).symm <;> first | omega | (simp; done) | (simp; omega) | (rw [GA.out false]; simp; done) | (rw [GA.out false]; simp; omega))
theorem pY (a b c : Int) (ha : qH a) (hb : qH b) (hc : qH c) (h0 : c ≠ 0) (w : World) :
 Calls Tryz.prog 64 #[.int .i64 a, .int .i64 b, .int .i64 c, .int .u8 2] w fun e w' => e = .returned (.tuple #[.int .i64 (qM 2 a b c).1, .int .i64 (qM 2 a b c).2]) ∧ ∃ n, w' = w.drewN n := by
 have h1 : (c == 0) = false := by simp [h0]
 have A1 : (a.natAbs : Int) < 18446744073709551616 := by have := ha.1; have := ha.2; omega
 have B1 : (b.natAbs : Int) < 18446744073709551616 := by have := hb.1; have := hb.2; omega
 have C1 : (c.natAbs : Int) < 18446744073709551616 := by have := hc.1; have := hc.2; omega
 have C0 : 0 < (c.natAbs : Int) := by omega
 have P0 : 0 ≤ (a.natAbs : Int) * b.natAbs := Int.mul_nonneg (by omega) (by omega)
 have A0 : 0 ≤ (a.natAbs : Int) := by omega
 have B0 : 0 ≤ (b.natAbs : Int) := by omega
 have F := sN 2 a b c h0
 generalize hA : (a.natAbs : Int) = A at *
 generalize hB : (b.natAbs : Int) = B at *
 generalize hC : (c.natAbs : Int) = D at *
 generalize hQ : A * B / D = Q at *
 generalize hR : A * B % D = R at *
 obtain ⟨F1, F2, F3, F4, F5, F6, F7⟩ := F
 have G5 := hide F5
 have G6 := hide F6
 have G7 := hide F7
 clear F5 F6 F7 h0
 by_cases hd : D ≤ A * B / 18446744073709551616
 · go_enter Tryz.func64, Tryz.ntmps64
   go_wp2_with (first | (go_at_call 101; refine (ZH _ (by assumption) _).mono ?_; rintro e w' ⟨rfl, rfl⟩) | (go_at_call 102; refine (Qq _ _ (by omega) (by omega) (by omega) (by omega) _).mono ?_; rintro e w' ⟨rfl, rfl⟩))
   go_ret2
   exact ⟨tD (by rw [G5.out hd]) (by rw [G5.out hd]), 0, rfl⟩
 · have q1 : 0 ≤ A * B / 18446744073709551616 := by omega
   have q2 : A * B / 18446744073709551616 < D := by omega
   have q3 : 0 ≤ A * B % 18446744073709551616 := by omega
   have q4 : A * B % 18446744073709551616 < 18446744073709551616 := by omega
   have q5 : Q < 18446744073709551616 := G6.out q2
   have K0 : ∀ (neg : Bool) (k : Int), (neg = true ↔ ((a < 0 ↔ ¬ b < 0) ↔ ¬ c < 0)) → ((away 2 neg R.toNat D.toNat).toNat : Int) = k → qM 2 a b c = sg (Q + k) neg := fun neg k h2 h3 => Nd k h1 F2 (G7.out neg h2) h3
   have AW := fun neg => aw 2 neg R D F3 F4
   have K1 : ∀ (neg : Bool), (neg = true ↔ ((a < 0 ↔ ¬ b < 0) ↔ ¬ c < 0)) → ((away 2 neg R.toNat D.toNat).toNat : Int) = 0 → qM 2 a b c = sg Q neg := fun neg h2 h3 => by rw [K0 neg 0 h2 h3, Int.add_zero]
   have K2 : ∀ (neg : Bool), (neg = true ↔ ((a < 0 ↔ ¬ b < 0) ↔ ¬ c < 0)) → ((away 2 neg R.toNat D.toNat).toNat : Int) = 1 → 18446744073709551615 ≤ Q → qM 2 a b c = (0, 2) := fun neg h2 h3 h4 => by
    rw [K0 neg 1 h2 h3]; unfold sg ZI; cases neg <;> simp <;> omega
   have GK := hide K0
   have GK1 := hide K1
   have GK2 := hide K2
   clear K1 K2
   have GA := hide AW
   clear K0 AW
   have T : (D - R < R ∧ decide (D - R < R) = true) ∨ (R ≤ D - R ∧ D - R ≤ R ∧ decide (D - R < R) = false ∧ (R == D - R) = true) ∨ (R < D - R ∧ decide (D - R < R) = false ∧ (R == D - R) = false) := by
    by_cases t1 : D - R < R
    · exact .inl ⟨t1, decide_eq_true t1⟩
    · by_cases t2 : R < D - R
      · exact .inr (.inr ⟨t2, decide_eq_false t1, by simp; omega⟩)
      · exact .inr (.inl ⟨by omega, by omega, decide_eq_false t1, by simp; omega⟩)
   by_cases qm : Q < 18446744073709551615
   case' pos => have qm' : (Q == 18446744073709551615) = false := by simp; omega
   case' neg => have qm' : (Q == 18446744073709551615) = true := by simp; omega
   all_goals rcases T with ⟨t1, t2⟩ | ⟨t1, t2, t3, t4⟩ | ⟨t1, t2, t3⟩
   all_goals by_cases sa : a < 0 <;> by_cases sb : b < 0 <;> by_cases sc : c < 0
   all_goals
    go_enter Tryz.func64, Tryz.ntmps64
    go_wp2_with (first | (go_at_call 101; refine (ZH _ (by assumption) _).mono ?_; rintro e w' ⟨rfl, rfl⟩) | (go_at_call 102; refine (Qq _ _ (by omega) (by omega) (by omega) (by omega) _).mono ?_; rintro e w' ⟨rfl, rfl⟩) | (go_at_call 104; refine (Vh _ _ (by omega) _).mono ?_; rintro e w' ⟨rfl, rfl⟩) | (go_at_call 103; refine (KZ _ _ _ q1 q2 q3 q4 (by omega) _).mono ?_; rintro e w' ⟨rfl, m, rfl⟩))
   all_goals
    go_ret2
    refine ⟨?_, _, rfl⟩
    first
    | (refine kq (GK.out true 1 ?_ ?_).symm <;> first | omega | (simp; done) | (simp; omega) | (rw [GA.out true]; simp; done) | (rw [GA.out true]; simp; omega))
    | (refine kq (GK1.out true ?_ ?_).symm <;> first | omega | (simp; done) | (simp; omega) | (rw [GA.out true]; simp; done) | (rw [GA.out true]; simp; omega))
    | (refine kq (GK.out false 1 ?_ ?_).symm <;> first | omega | (simp; done) | (simp; omega) | (rw [GA.out false]; simp; done) | (rw [GA.out false]; simp; omega))
    | (refine kq (GK1.out false ?_ ?_).symm <;> first | omega | (simp; done) | (simp; omega) | (rw [GA.out false]; simp; done) | (rw [GA.out false]; simp; omega))
    | (refine kq (x := (0, 2)) (GK2.out true ?_ ?_ ?_).symm <;> first | omega | (simp; done) | (simp; omega) | (rw [GA.out true]; simp; done) | (rw [GA.out true]; simp; omega))
    | (refine kq (x := (0, 2)) (GK2.out false ?_ ?_ ?_).symm <;> first | omega | (simp; done) | (simp; omega) | (rw [GA.out false]; simp; done) | (rw [GA.out false]; simp; omega))
theorem gu : qH 1 := by unfold qH; omega
theorem Ym (m : Nat) (a b : Int) : qM m a b 0 = (0, 1) := by unfold qM; simp
theorem Jg (a b c : Int) (ha : qH a) (hb : qH b) (hc : qH c) (w : World) :
 Calls Tryz.prog 64 #[.int .i64 a, .int .i64 b, .int .i64 c, .int .u8 1] w fun e w' => e = .returned (.tuple #[.int .i64 (qM 1 a b c).1, .int .i64 (qM 1 a b c).2]) ∧ ∃ n, w' = w.drewN n := by
 by_cases h0 : c = 0
 · subst h0
   rw [Ym]
   exact Vg a b 1 w
 · exact iD a b c ha hb hc h0 w
theorem Qg (a b c : Int) (ha : qH a) (hb : qH b) (hc : qH c) (w : World) :
 Calls Tryz.prog 64 #[.int .i64 a, .int .i64 b, .int .i64 c, .int .u8 2] w fun e w' => e = .returned (.tuple #[.int .i64 (qM 2 a b c).1, .int .i64 (qM 2 a b c).2]) ∧ ∃ n, w' = w.drewN n := by
 by_cases h0 : c = 0
 · subst h0
   rw [Ym]
   exact Vg a b 2 w
 · exact pY a b c ha hb hc h0 w
theorem QG (a b : Int) (ha : qH a) (hb : qH b) (w : World) :
 Calls Tryz.prog 67 #[.int .i64 a, .int .i64 b] w fun e w' => e = .returned (.tuple #[.int .i64 (qM 2 a 1 b).1, .int .i64 (qM 2 a 1 b).2]) ∧ ∃ n, w' = w.drewN n := by
 go_enter Tryz.func67, Tryz.ntmps67
 go_wp2_with (go_at_call 64; refine (Qg _ _ _ (by first | assumption | exact gu) (by first | assumption | exact gu) (by assumption) _).mono ?_; rintro e w' ⟨rfl, m, rfl⟩)
 go_ret2
 exact ⟨rfl, _, rfl⟩
theorem yZ (a b c : Int) (ha : qH a) (hb : qH b) (hc : qH c) (w : World) :
 Calls Tryz.prog 108 #[.int .i64 a, .int .i64 b, .int .i64 c] w fun e w' => e = .returned (.tuple #[.int .i64 (qM 2 a b c).1, .int .i64 (qM 2 a b c).2]) ∧ ∃ n, w' = w.drewN n := by
 go_enter Tryz.func108, Tryz.ntmps108
 go_wp2_with (go_at_call 64; refine (Qg _ _ _ (by first | assumption | exact gu) (by first | assumption | exact gu) (by assumption) _).mono ?_; rintro e w' ⟨rfl, m, rfl⟩)
 go_ret2
 exact ⟨rfl, _, rfl⟩
theorem xq (a b c : Int) (ha : qH a) (hb : qH b) (hc : qH c) (w : World) :
 Calls Tryz.prog 30 #[.int .i64 a, .int .i64 b, .int .i64 c] w fun e w' => e = .returned (.tuple #[.int .i64 (qM 1 a b c).1, .int .i64 (qM 1 a b c).2]) ∧ ∃ n, w' = w.drewN n := by
 go_enter Tryz.func30, Tryz.ntmps30
 go_wp2_with (go_at_call 64; refine (Jg _ _ _ (by first | assumption | exact gu) (by first | assumption | exact gu) (by assumption) _).mono ?_; rintro e w' ⟨rfl, m, rfl⟩)
 go_ret2
 exact ⟨rfl, _, rfl⟩
theorem dm (a b : Int) (ha : qH a) (hb : qH b) (w : World) :
 Calls Tryz.prog 126 #[.int .i64 a, .int .i64 b] w fun e w' => e = .returned (.int .i64 (sat (a + b))) ∧ w = w' := by
 obtain ⟨a1, a2⟩ := ha
 obtain ⟨b1, b2⟩ := hb
 go_enter Tryz.func126, Tryz.ntmps126
 go_wp2
 all_goals
  go_ret
  refine ⟨qL ?_, rfl⟩
  unfold sat Nk
  simp [wrap64] at *
  omega
theorem kr (a : Int) (ha : qH a) (h : a ≠ -9223372036854775808) (w : World) :
 Calls Tryz.prog 44 #[.int .i64 a] w fun e w' => e = .returned (.int .i64 a.natAbs) ∧ w = w' := by
 obtain ⟨a1, a2⟩ := ha
 have h1 : (a == -9223372036854775808) = false := by simp [h]
 have h2 : -9223372036854775807 ≤ a := by omega
 clear h
 by_cases hn : a < 0
 all_goals
  go_enter Tryz.func44, Tryz.ntmps44
  go_wp2
  go_ret
  exact ⟨qL (by omega), rfl⟩
theorem fS {n x : Int} (hn : 0 ≤ n) (hx : 1 ≤ x) : (vO n.toNat : Int) ≤ (x + n / x) / 2 := by
 have h := QA n hn
 generalize (vO n.toNat : Int) = r at *
 rcases Int.lt_or_le ((x + n / x) / 2) r with h1 | h1
 · exfalso
   have h2 : n / x ≤ 2 * r - 1 - x := by omega
   have h3 : n / x < 2 * r - x := by omega
   rw [Int.ediv_lt_iff_lt_mul (by omega)] at h3
   have e : (2 * r - x) * x = r * r - (r - x) * (r - x) := by grind
   have := zx (r - x)
   omega
 · exact h1
theorem pZ {n x : Int} (hn : 0 ≤ n) (hx : 1 ≤ x) (h1 : x ≤ (x + n / x) / 2) (h2 : (vO n.toNat : Int) ≤ x) : x = vO n.toNat := by
 have h := QA n hn
 have h3 : x ≤ n / x := by omega
 rw [Int.le_ediv_iff_mul_le (by omega)] at h3
 have := da (a := x) (b := (vO n.toNat : Int) + 1) (by omega) (by omega)
 omega
theorem Kc (n : Int) (hn : qH n) (w : World) :
 Calls Tryz.prog 65 #[.int .i64 n] w fun e w' => e = .returned (.int .i64 (vO n.toNat)) ∧ ∃ k, w' = w.drewN k := by
 obtain ⟨n1, n2⟩ := hn
 by_cases h0 : n ≤ 0
 · have e : vO n.toNat = 0 := by rw [show n.toNat = 0 from by omega]; rfl
   go_enter Tryz.func65, Tryz.ntmps65
   go_wp2
   go_ret
   exact ⟨qL (by rw [e]; rfl), 0, rfl⟩
 · go_enter Tryz.func65, Tryz.ntmps65
   go_wp2_with fail
   refine (Tryz.bits_Len64 n w (by omega) (by omega)).mono ?_
   rintro e w' ⟨rfl, rfl⟩
   obtain ⟨L, hL⟩ : ∃ L, Lib.bitLen n.toNat = L := ⟨_, rfl⟩
   obtain ⟨b1, b2, b3⟩ := Lib.bitLenAux_bounds 64 n.toNat (by simp; omega) (by omega)
   have b0 : Lib.bitLenAux 64 n.toNat ≤ 63 := Lib.bitLenAux_le 64 n.toNat 63 (by simp; omega)
   have hL' : Lib.bitLenAux 64 n.toNat = L := hL
   rw [hL'] at b1 b2 b3 b0
   have HL := hide hL'
   clear hL'
   have hx0 : ∃ x0 : Int, wrap64 (2 ^ ((L + 1) / 2)) = x0 ∧ 1 ≤ x0 ∧ x0 ≤ 4294967296 ∧ (vO n.toNat : Int) ≤ x0 := by
    have h1 : (2 : Nat) ^ ((L + 1) / 2) ≤ 2 ^ 32 := Nat.pow_le_pow_right (by decide) (by omega)
    have h2 : 0 < (2 : Nat) ^ ((L + 1) / 2) := Nat.two_pow_pos _
    have h3 : (2 : Nat) ^ L ≤ 2 ^ ((L + 1) / 2) * 2 ^ ((L + 1) / 2) := by
     rw [← Nat.pow_add]
     exact Nat.pow_le_pow_right (by decide) (by omega)
    have h4 := ed (n := n.toNat) (r := 2 ^ ((L + 1) / 2)) (by omega)
    have e : (2 : Int) ^ ((L + 1) / 2) = ((2 ^ ((L + 1) / 2) : Nat) : Int) := by rw [Int.natCast_pow]; rfl
    rw [e]
    generalize (2 : Nat) ^ ((L + 1) / 2) = p at *
    refine ⟨p, ?_, by omega, by omega, by omega⟩
    unfold wrap64
    omega
   obtain ⟨x0, ex, x1, x2, x3⟩ := hx0
   obtain ⟨r, hr⟩ : ∃ r, r = (vO n.toNat : Int) := ⟨_, rfl⟩
   rw [← hr] at x3
   have hi := QA n (by omega)
   rw [← hr] at hi
   have r0 : 1 ≤ r := by
    have : (1 : Nat) ≤ vO n.toNat := MP (by omega)
    omega
   have HR := hide hr
   have HI := hide hi
   clear hr hi
   go_wp2_with fail
   go_loop [3] (fun a => ∃ x : Int, a = .int .i64 x ∧ 1 ≤ x ∧ x ≤ 4294967296 ∧ r ≤ x) (fun a => (intOf a).toNat)
   case atStart => exact ⟨x0, by rw [ex], x1, x2, x3⟩
   case round =>
    obtain ⟨x, rfl, y1, y2, y3⟩ := hrel
    have lo := fS (n := n) (x := x) (by omega) y1
    rw [← HR.out] at lo
    have q0 : 0 ≤ n / x := Int.ediv_nonneg (by omega) (by omega)
    have q1 : n / x ≤ x + 2 := by
     have h1 : n / x < x + 3 := by
      rw [Int.ediv_lt_iff_lt_mul (by omega)]
      have h2 : (r + 1) * (r + 1) ≤ (x + 1) * (x + 1) := Int.mul_le_mul (by omega) (by omega) (by omega) (by omega)
      have h3 := HI.out.2
      have e1 : (x + 1) * (x + 1) = x * x + 2 * x + 1 := by grind
      have e2 : (x + 3) * x = x * x + 3 * x := by grind
      omega
     omega
    by_cases hx : x ≤ (x + n / x) / 2
    · have he := pZ (n := n) (x := x) (by omega) y1 hx (by rw [← HR.out]; exact y3)
      have HE := hide he
      clear he
      go_wp2_with fail
      go_ret
      exact ⟨qL HE.out, 0, rfl⟩
    · go_wp2_with fail
      go_round
      case rel => exact ⟨(x + n / x) / 2, rfl, by omega, by omega, lo⟩
      case measure => simp [intOf]; omega
end Go.Proofs.YteanfgobpjdmnaaGreatDoor
