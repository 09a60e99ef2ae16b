/-
  has and uses of the reference of chapter 16.
-/
import Derived.Test.YtjjdojokkmfbmaaGreatDoorMLaid25
set_option maxRecDepth 100000
set_option maxHeartbeats 16000000
namespace Go.Proofs.YtjjdojokkmfbmaaGreatDoor
open Go.RowKit
set_option linter.unusedVariables false
set_option linter.unusedSimpArgs false
def hasL (l : List UInt8) (c : Int) : Bool := !(l.all fun b => !decide ((b.toNat : Int) = c))
theorem has_any (s : ByteArray) (c : Int) (hs : s.size ≤ maxLen) (w : World) :
    Calls Tryz.prog 75 #[.string s, .int .u8 c] w fun e w' => e = .returned (.bool (hasL s.data.toList c)) ∧ w = w' := by
  unfold maxLen at hs
  go_enter Tryz.func75, Tryz.ntmps75
  go_wp2_with fail
  go_loop [5] (fun i => ∃ k : Nat, k ≤ s.size ∧ i = .int .i64 k ∧ Hid ((s.data.toList.take k).all (fun b => !decide ((b.toNat : Int) = c)) = true)) (fun i => s.size - (intOf i).toNat)
  case atStart => exact ⟨0, by omega, rfl, hide rfl⟩
  case round =>
    obtain ⟨k, hk, rfl, hA⟩ := hrel
    by_cases hlt : k < s.size
    · by_cases hc : (s[k].toNat : Int) = c
      · have hbad := hide (all_bad s (fun b => !decide ((b.toNat : Int) = c)) k hlt (by simp [hc]))
        have hq : ((s[k].toNat : Int) == c) = true := by simpa using hc
        clear hc
        go_wp2_with fail
        all_goals first
          | (exfalso; omega)
          | (go_ret
             exact ⟨ret_b (by unfold hasL; rw [hbad.out]; rfl), rfl⟩)
      · have hst := hide (all_step s (fun b => !decide ((b.toNat : Int) = c)) k hlt)
        have hy : Hid ((!decide ((s[k].toNat : Int) = c)) = true) := hide (by simp [hc])
        have hq : ((s[k].toNat : Int) == c) = false := by simpa using hc
        clear hc
        go_wp2_with fail
        all_goals first
          | (exfalso; omega)
          | (go_round
             case rel => exact ⟨k + 1, by omega, by go_num, hide (by rw [hst.out, hA.out]; exact hy.out)⟩
             case measure => simp [intOf]; omega)
    · have hend := hide (all_end s (fun b => !decide ((b.toNat : Int) = c)) k (by omega) hA.out)
      go_wp2_with fail
      go_ret
      exact ⟨ret_b (by unfold hasL; rw [hend.out]; rfl), rfl⟩
def usesLS : List ByteArray := [⟨#[]⟩, ⟨#[70]⟩, ⟨#[70, 111]⟩, ⟨#[70, 111, 75]⟩, ⟨#[70, 111]⟩, ⟨#[70, 67, 84, 82]⟩, ⟨#[70, 67, 84, 82]⟩, ⟨#[75, 97]⟩, ⟨#[67, 75, 68]⟩, ⟨#[75]⟩, ⟨#[67, 75, 72]⟩, ⟨#[70, 75, 97]⟩, ⟨#[70, 75, 68]⟩, ⟨#[70, 75]⟩, ⟨#[70, 84, 75, 68, 97]⟩, ⟨#[70, 84, 75, 68]⟩, ⟨#[70, 84, 75, 68]⟩, ⟨#[70, 84, 75, 68]⟩]
def usesS (t : Int) : ByteArray := if t < 1 ∨ t > 17 then ⟨#[]⟩ else usesLS.getD t.toNat ⟨#[]⟩
theorem usesS_no {t : Int} (h : t < 1 ∨ 17 < t) : usesS t = ⟨#[]⟩ := if_pos (by omega)
theorem uses_any (t : Int) (w : World) : Calls Tryz.prog 73 #[.int .u8 t] w fun e w' => e = .returned (.string (usesS t)) ∧ w = w' := by
  by_cases h : t < 1 ∨ 17 < t
  · have HR := hide (usesS_no h)
    have k1 : (t == 1) = false := by simp; omega
    have k2 : (t == 2) = false := by simp; omega
    have k3 : (t == 3) = false := by simp; omega
    have k4 : (t == 4) = false := by simp; omega
    have k5 : (t == 5) = false := by simp; omega
    have k6 : (t == 6) = false := by simp; omega
    have k7 : (t == 7) = false := by simp; omega
    have k8 : (t == 8) = false := by simp; omega
    have k9 : (t == 9) = false := by simp; omega
    have k10 : (t == 10) = false := by simp; omega
    have k11 : (t == 11) = false := by simp; omega
    have k12 : (t == 12) = false := by simp; omega
    have k13 : (t == 13) = false := by simp; omega
    have k14 : (t == 14) = false := by simp; omega
    have k15 : (t == 15) = false := by simp; omega
    have k16 : (t == 16) = false := by simp; omega
    have k17 : (t == 17) = false := by simp; omega
    clear h
    go_enter Tryz.func73, Tryz.ntmps73
    go_wp2_with fail
    all_goals
      go_ret
      exact ⟨(congrArg (fun z => Ending.returned (.string z)) HR.out).symm, rfl⟩
  · obtain rfl | rfl | rfl | rfl | rfl | rfl | rfl | rfl | rfl | rfl | rfl | rfl | rfl | rfl | rfl | rfl | rfl : t = 1 ∨ t = 2 ∨ t = 3 ∨ t = 4 ∨ t = 5 ∨ t = 6 ∨ t = 7 ∨ t = 8 ∨ t = 9 ∨ t = 10 ∨ t = 11 ∨ t = 12 ∨ t = 13 ∨ t = 14 ∨ t = 15 ∨ t = 16 ∨ t = 17 := by omega
    all_goals
      go_enter Tryz.func73, Tryz.ntmps73
      go_wp2_with fail
      all_goals
        go_ret
        exact ⟨rfl, rfl⟩
theorem uses_size : ∀ t : Nat, t ≤ 17 → (usesS t).size ≤ 5 ∧ (1 ≤ t → 0 < (usesS t).size) := by decide +kernel
theorem has_bit : ∀ t : Nat, t ≤ 17 → 1 ≤ t → hasL (usesS t).data.toList 70 = useB t 0 ∧ hasL (usesS t).data.toList 67 = useB t 1 ∧ hasL (usesS t).data.toList 84 = useB t 2 ∧ hasL (usesS t).data.toList 111 = useB t 3 ∧ hasL (usesS t).data.toList 75 = useB t 4 ∧ hasL (usesS t).data.toList 68 = useB t 5 ∧ hasL (usesS t).data.toList 82 = useB t 6 ∧ hasL (usesS t).data.toList 72 = useB t 7 ∧ hasL (usesS t).data.toList 97 = climbs t := by decide +kernel
end Go.Proofs.YtjjdojokkmfbmaaGreatDoor
/-
  Check of the reference of chapter 16, for all legs.
-/
set_option maxRecDepth 100000
set_option maxHeartbeats 16000000
namespace Go.Proofs.YtjjdojokkmfbmaaGreatDoor
open Go.RowKit
set_option linter.unusedVariables false
set_option linter.unusedSimpArgs false
theorem altE_of1 {x : En} {qa : Bool} (hq : climbs x.ty = qa) (h : (decide (x.lo < -200000 ∨ x.lo > x.hi ∨ x.hi > 6000000) || (qa && decide (x.lo = -200000))) = true) : altE x = 2 := by
  unfold altE
  subst hq
  simp only [Bool.or_eq_true, Bool.and_eq_true, decide_eq_true_eq] at h
  rcases h with h | h
  · rw [if_pos h]
  · split
    · rfl
    · first | rfl | rw [if_pos h]
theorem altE_of2 {x : En} {qa : Bool} (hq : climbs x.ty = qa) (h : (decide (x.lo < -200000 ∨ x.lo > x.hi ∨ x.hi > 6000000) || (qa && decide (x.lo = -200000))) = false) (h2 : decide (x.spd < 0 ∨ x.spd > 1000 ∨ x.rnp < 0 ∨ x.rnp > 120000) = true) : altE x = 2 := by
  unfold altE
  subst hq
  simp only [Bool.or_eq_false_iff, Bool.and_eq_false_iff, decide_eq_false_iff_not] at h
  rw [if_neg h.1]
  split
  · rfl
  · rw [if_pos (of_decide_eq_true h2)]
theorem altE_of3 {x : En} {qa : Bool} (hq : climbs x.ty = qa) (h : (decide (x.lo < -200000 ∨ x.lo > x.hi ∨ x.hi > 6000000) || (qa && decide (x.lo = -200000))) = false) (h2 : decide (x.spd < 0 ∨ x.spd > 1000 ∨ x.rnp < 0 ∨ x.rnp > 120000) = false) : altE x = 0 := by
  unfold altE
  subst hq
  simp only [Bool.or_eq_false_iff, Bool.and_eq_false_iff, decide_eq_false_iff_not] at h
  rw [if_neg h.1, if_neg (by rintro ⟨a, b⟩; rcases h.2 with h2 | h2; · rw [a] at h2; cases h2
                             · exact h2 b), if_neg (of_decide_eq_false h2)]
theorem rlcheck_bad (x : En) (hx : LegW x) (h1 : 1 ≤ x.ty) (h2 : x.ty ≤ 17) (hV : (if useB x.ty 2 then decide (x.tn = 1) || decide (x.tn = 2) else decide (x.tn = 0)) = false) (w : World) :
    Calls Tryz.prog 35 #[.agg x.leg.toArray] w fun e w' => e = .returned (.int .i64 (legF x)) ∧ Below w.heap.size w w' := by
  have US := fun W => uses_any x.ty W
  obtain ⟨us, hus⟩ : ∃ us, usesS x.ty = us := ⟨_, rfl⟩
  have hb := has_bit x.ty.toNat (by omega) (by omega)
  have hz := uses_size x.ty.toNat (by omega)
  rw [show ((x.ty.toNat : Nat) : Int) = x.ty by omega, hus] at hb hz
  rw [hus] at US
  clear hus
  obtain ⟨hz1, hz2⟩ := hz
  have hz3 := hz2 (by omega)
  obtain ⟨a0, a1, a2, a3, a4, a5, a6, a7, ha⟩ := hb
  obtain ⟨qa, hqa⟩ : ∃ q, climbs x.ty = q := ⟨_, rfl⟩
  have HAa := fun W => has_any us 97 (by unfold maxLen; omega) W
  rw [ha, hqa] at HAa
  have HQa := hide hqa
  clear hqa ha
  have hl : us.toList = [] ↔ False := by
    rw [Lib.toList_data]
    refine ⟨fun e => ?_, False.elim⟩
    rw [str_nil e] at hz3
    cases hz3
  have hl2 : (us.toList == []) = false := by
    rw [beq_eq_false_iff_ne]; exact fun e => hl.1 e
  have hl3 : us.toList.isEmpty = false := by
    cases hq : us.toList with
    | nil => exact (hl.1 hq).elim
    | cons a b => rfl
  have C1 := fun W => rref_any x.fx (useB x.ty 0) hx.fx W
  obtain ⟨e1, he1⟩ : ∃ e, refE x.fx (useB x.ty 0) = e := ⟨_, rfl⟩
  rw [he1] at C1
  have C2 := fun W => rref_any x.ct (useB x.ty 1) hx.ct W
  obtain ⟨e2, he2⟩ : ∃ e, refE x.ct (useB x.ty 1) = e := ⟨_, rfl⟩
  rw [he2] at C2
  have C5 := fun W => rnum_any x.crs (useB x.ty 4) 0 129599999 W
  obtain ⟨e5, he5⟩ : ∃ e, numE x.crs (useB x.ty 4) 0 129599999 = e := ⟨_, rfl⟩
  rw [he5] at C5
  have C6 := fun W => rnum_any x.dst (useB x.ty 5) 1 2000000 W
  obtain ⟨e6, he6⟩ : ∃ e, numE x.dst (useB x.ty 5) 1 2000000 = e := ⟨_, rfl⟩
  rw [he6] at C6
  have C7 := fun W => rnum_any x.rad (useB x.ty 6) 1 2000000 W
  obtain ⟨e7, he7⟩ : ∃ e, numE x.rad (useB x.ty 6) 1 2000000 = e := ⟨_, rfl⟩
  rw [he7] at C7
  have C8 := fun W => rnum_any x.tht (useB x.ty 7) 0 129599999 W
  obtain ⟨e8, he8⟩ : ∃ e, numE x.tht (useB x.ty 7) 0 129599999 = e := ⟨_, rfl⟩
  rw [he8] at C8
  obtain ⟨q0, hq0⟩ : ∃ q, useB x.ty 0 = q := ⟨_, rfl⟩
  obtain ⟨q1, hq1⟩ : ∃ q, useB x.ty 1 = q := ⟨_, rfl⟩
  obtain ⟨q2, hq2⟩ : ∃ q, useB x.ty 2 = q := ⟨_, rfl⟩
  obtain ⟨q3, hq3⟩ : ∃ q, useB x.ty 3 = q := ⟨_, rfl⟩
  obtain ⟨q4, hq4⟩ : ∃ q, useB x.ty 4 = q := ⟨_, rfl⟩
  obtain ⟨q5, hq5⟩ : ∃ q, useB x.ty 5 = q := ⟨_, rfl⟩
  obtain ⟨q6, hq6⟩ : ∃ q, useB x.ty 6 = q := ⟨_, rfl⟩
  obtain ⟨q7, hq7⟩ : ∃ q, useB x.ty 7 = q := ⟨_, rfl⟩
  have HA0 := fun W => has_any us 70 (by unfold maxLen; omega) W
  rw [a0, hq0] at HA0
  have HA1 := fun W => has_any us 67 (by unfold maxLen; omega) W
  rw [a1, hq1] at HA1
  have HA2 := fun W => has_any us 84 (by unfold maxLen; omega) W
  rw [a2, hq2] at HA2
  have HA3 := fun W => has_any us 111 (by unfold maxLen; omega) W
  rw [a3, hq3] at HA3
  have HA4 := fun W => has_any us 75 (by unfold maxLen; omega) W
  rw [a4, hq4] at HA4
  have HA5 := fun W => has_any us 68 (by unfold maxLen; omega) W
  rw [a5, hq5] at HA5
  have HA6 := fun W => has_any us 82 (by unfold maxLen; omega) W
  rw [a6, hq6] at HA6
  have HA7 := fun W => has_any us 72 (by unfold maxLen; omega) W
  rw [a7, hq7] at HA7
  clear hz1 hz2 hz3 a0 a1 a2 a3 a4 a5 a6 a7
  rw [hq0] at C1
  rw [hq1] at C2
  rw [hq4] at C5
  rw [hq5] at C6
  rw [hq6] at C7
  rw [hq7] at C8
  have He1 := hide he1
  clear he1
  have He2 := hide he2
  clear he2
  have He5 := hide he5
  clear he5
  have He6 := hide he6
  clear he6
  have He7 := hide he7
  clear he7
  have He8 := hide he8
  clear he8
  have HQ0 := hide hq0
  clear hq0
  have HQ1 := hide hq1
  clear hq1
  have HQ2 := hide hq2
  clear hq2
  have HQ3 := hide hq3
  clear hq3
  have HQ4 := hide hq4
  clear hq4
  have HQ5 := hide hq5
  clear hq5
  have HQ6 := hide hq6
  clear hq6
  have HQ7 := hide hq7
  clear hq7
  have HT : Hid ((if q2 then decide (x.tn = 1) || decide (x.tn = 2) else decide (x.tn = 0)) = false) := hide (by rw [← HQ2.out]; exact hV)
  clear hV
  have hM := mem_nil w
  go_enter Tryz.func35, Tryz.ntmps35
  go_upto_region 4 with (first | (go_at_call 73; (with_reducible refine (US _).mono ?_); rintro e W1 ⟨rfl, rfl⟩) | (go_at_call 75; (with_reducible refine (HA0 _).mono ?_); rintro e W1 ⟨rfl, rfl⟩) | (go_at_call 75; (with_reducible refine (HA1 _).mono ?_); rintro e W1 ⟨rfl, rfl⟩) | (go_at_call 75; (with_reducible refine (HA2 _).mono ?_); rintro e W1 ⟨rfl, rfl⟩) | (go_at_call 75; (with_reducible refine (HA3 _).mono ?_); rintro e W1 ⟨rfl, rfl⟩) | (go_at_call 75; (with_reducible refine (HA4 _).mono ?_); rintro e W1 ⟨rfl, rfl⟩) | (go_at_call 75; (with_reducible refine (HA5 _).mono ?_); rintro e W1 ⟨rfl, rfl⟩) | (go_at_call 75; (with_reducible refine (HA6 _).mono ?_); rintro e W1 ⟨rfl, rfl⟩) | (go_at_call 75; (with_reducible refine (HA7 _).mono ?_); rintro e W1 ⟨rfl, rfl⟩) | (go_at_call 75; (with_reducible refine (HAa _).mono ?_); rintro e W1 ⟨rfl, rfl⟩) | (go_at_call 74; (with_reducible refine (C1 _).mono ?_); rintro e W1 ⟨rfl, hq⟩; replace hM := mem_q hM hq; clear hq) | (go_at_call 74; (with_reducible refine (C2 _).mono ?_); rintro e W1 ⟨rfl, hq⟩; replace hM := mem_q hM hq; clear hq) | (go_at_call 76; (with_reducible refine (C5 _).mono ?_); rintro e W1 ⟨rfl, rfl⟩) | (go_at_call 76; (with_reducible refine (C6 _).mono ?_); rintro e W1 ⟨rfl, rfl⟩) | (go_at_call 76; (with_reducible refine (C7 _).mono ?_); rintro e W1 ⟨rfl, rfl⟩) | (go_at_call 76; (with_reducible refine (C8 _).mono ?_); rintro e W1 ⟨rfl, rfl⟩) | ((with_reducible refine lX ?_); first | refine aL hM rfl rfl ?_ | refine aM hM rfl rfl ?_) | ((with_reducible refine sX ?_); refine aS hM rfl rfl rfl ?_; clear hM; intro W hM) | ((with_reducible refine bX ?_); refine aB hM rfl rfl ?_; clear hM; intro g W hM) | ((with_reducible refine zX ?_); refine aN hM rfl rfl ?_; clear hM; intro g W hM))
  go_cut [4] (fun s wx => s = .int .i64 e1 ∧ Mem w wx [(g, x.leg, 36)])
  case first =>
    refine region_all hM (by kernel_rfl) ?_; (clear hM; intro W hM hK)
    refine kP 0 hM hK ?_
    try simp only [pS, pN, sA, sB, sC]
    first | refine kL 1 hM hK ?_ | refine kM 1 hM hK ?_
    try simp only [pS, pN, sA, sB, sC]
    refine kP 2 hM hK ?_
    try simp only [pS, pN, sA, sB, sC]
    refine tk_call (i := 3) (nthQ rfl) (by kernel_rfl) rfl (fun K' hK' => ?_)
    go_wp2_with (first | (go_at_call 75; (with_reducible refine (HA0 _).mono ?_); rintro e W1 ⟨rfl, rfl⟩) | (go_at_call 74; (with_reducible refine (C1 _).mono ?_); rintro e W1 ⟨rfl, hq⟩; replace hM := mem_q hM hq; clear hq))
    refine hK'.out _ _ (held_of hM hK) ?_
    clear hK' K'
    try simp only [pS, pN, sA, sB, sC]
    refine tk_call (i := 4) (nthQ rfl) (by kernel_rfl) rfl (fun K' hK' => ?_)
    go_wp2_with (first | (go_at_call 75; (with_reducible refine (HA0 _).mono ?_); rintro e W1 ⟨rfl, rfl⟩) | (go_at_call 74; (with_reducible refine (C1 _).mono ?_); rintro e W1 ⟨rfl, hq⟩; replace hM := mem_q hM hq; clear hq))
    refine hK'.out _ _ (held_of hM hK) ?_
    clear hK' K'
    try simp only [pS, pN, sA, sB, sC]
    refine kP 5 hM hK ?_
    try simp only [pS, pN, sA, sB, sC]
    refine tk_done (by kernel_rfl) ?_
    go_wp2_with fail
    go_meet
    exact ⟨rfl, hM⟩
  case rest =>
  clear hM
  obtain ⟨rfl, hM⟩ := hcut
  go_upto_region 7 with (fail)
  all_goals first
    | (go_ret; exact ⟨ret_int ((legL1 h1 h2 (by rw [He1.out]; assumption)).trans He1.out).symm, hM.below⟩; done)
    | skip
  go_cut [5] (fun s wx => s = .int .i64 e2 ∧ Mem w wx [(g, x.leg, 36)])
  case first =>
    refine region_all hM (by kernel_rfl) ?_; (clear hM; intro W hM hK)
    refine kP 0 hM hK ?_
    try simp only [pS, pN, sA, sB, sC]
    first | refine kL 1 hM hK ?_ | refine kM 1 hM hK ?_
    try simp only [pS, pN, sA, sB, sC]
    refine kP 2 hM hK ?_
    try simp only [pS, pN, sA, sB, sC]
    refine tk_call (i := 3) (nthQ rfl) (by kernel_rfl) rfl (fun K' hK' => ?_)
    go_wp2_with (first | (go_at_call 75; (with_reducible refine (HA1 _).mono ?_); rintro e W1 ⟨rfl, rfl⟩) | (go_at_call 74; (with_reducible refine (C2 _).mono ?_); rintro e W1 ⟨rfl, hq⟩; replace hM := mem_q hM hq; clear hq))
    refine hK'.out _ _ (held_of hM hK) ?_
    clear hK' K'
    try simp only [pS, pN, sA, sB, sC]
    refine tk_call (i := 4) (nthQ rfl) (by kernel_rfl) rfl (fun K' hK' => ?_)
    go_wp2_with (first | (go_at_call 75; (with_reducible refine (HA1 _).mono ?_); rintro e W1 ⟨rfl, rfl⟩) | (go_at_call 74; (with_reducible refine (C2 _).mono ?_); rintro e W1 ⟨rfl, hq⟩; replace hM := mem_q hM hq; clear hq))
    refine hK'.out _ _ (held_of hM hK) ?_
    clear hK' K'
    try simp only [pS, pN, sA, sB, sC]
    refine kP 5 hM hK ?_
    try simp only [pS, pN, sA, sB, sC]
    refine tk_done (by kernel_rfl) ?_
    go_wp2_with fail
    go_meet
    exact ⟨rfl, hM⟩
  case rest =>
  clear hM
  obtain ⟨rfl, hM⟩ := hcut
  go_upto_region 10 with (first | (go_at_call 73; (with_reducible refine (US _).mono ?_); rintro e W1 ⟨rfl, rfl⟩) | (go_at_call 75; (with_reducible refine (HA0 _).mono ?_); rintro e W1 ⟨rfl, rfl⟩) | (go_at_call 75; (with_reducible refine (HA1 _).mono ?_); rintro e W1 ⟨rfl, rfl⟩) | (go_at_call 75; (with_reducible refine (HA2 _).mono ?_); rintro e W1 ⟨rfl, rfl⟩) | (go_at_call 75; (with_reducible refine (HA3 _).mono ?_); rintro e W1 ⟨rfl, rfl⟩) | (go_at_call 75; (with_reducible refine (HA4 _).mono ?_); rintro e W1 ⟨rfl, rfl⟩) | (go_at_call 75; (with_reducible refine (HA5 _).mono ?_); rintro e W1 ⟨rfl, rfl⟩) | (go_at_call 75; (with_reducible refine (HA6 _).mono ?_); rintro e W1 ⟨rfl, rfl⟩) | (go_at_call 75; (with_reducible refine (HA7 _).mono ?_); rintro e W1 ⟨rfl, rfl⟩) | (go_at_call 75; (with_reducible refine (HAa _).mono ?_); rintro e W1 ⟨rfl, rfl⟩) | (go_at_call 74; (with_reducible refine (C1 _).mono ?_); rintro e W1 ⟨rfl, hq⟩; replace hM := mem_q hM hq; clear hq) | (go_at_call 74; (with_reducible refine (C2 _).mono ?_); rintro e W1 ⟨rfl, hq⟩; replace hM := mem_q hM hq; clear hq) | (go_at_call 76; (with_reducible refine (C5 _).mono ?_); rintro e W1 ⟨rfl, rfl⟩) | (go_at_call 76; (with_reducible refine (C6 _).mono ?_); rintro e W1 ⟨rfl, rfl⟩) | (go_at_call 76; (with_reducible refine (C7 _).mono ?_); rintro e W1 ⟨rfl, rfl⟩) | (go_at_call 76; (with_reducible refine (C8 _).mono ?_); rintro e W1 ⟨rfl, rfl⟩) | ((with_reducible refine lX ?_); first | refine aL hM rfl rfl ?_ | refine aM hM rfl rfl ?_) | ((with_reducible refine sX ?_); refine aS hM rfl rfl rfl ?_; clear hM; intro W hM) | ((with_reducible refine bX ?_); refine aB hM rfl rfl ?_; clear hM; intro g W hM) | ((with_reducible refine zX ?_); refine aN hM rfl rfl ?_; clear hM; intro g W hM))
  all_goals first
    | (go_ret; exact ⟨ret_int ((legL2 h1 h2 (by rw [He1.out]; assumption) (by rw [He2.out]; assumption)).trans He2.out).symm, hM.below⟩; done)
    | skip
  go_cut [51] (fun s wx => s = .bool true ∧ Mem w wx [(g, x.leg, 36)])
  case first =>
    have hcs : ((x.tn == 1) = true ∧ (x.tn == 2) = false ∧ (x.tn == 0) = false ∧ (x.tn != 0) = true ∧ q2 = false) ∨ ((x.tn == 1) = false ∧ (x.tn == 2) = true ∧ (x.tn == 0) = false ∧ (x.tn != 0) = true ∧ q2 = false) ∨ ((x.tn == 1) = false ∧ (x.tn == 2) = false ∧ (x.tn == 0) = true ∧ (x.tn != 0) = false ∧ q2 = true) ∨ ((x.tn == 1) = false ∧ (x.tn == 2) = false ∧ (x.tn == 0) = false ∧ (x.tn != 0) = true ∧ q2 = false) ∨ ((x.tn == 1) = false ∧ (x.tn == 2) = false ∧ (x.tn == 0) = false ∧ (x.tn != 0) = true ∧ q2 = true) := by
      have hT := HT.out
      rcases q2 with _ | _
      · have h : x.tn = 1 ∨ x.tn = 2 ∨ x.tn = 0 ∨ (x.tn ≠ 1 ∧ x.tn ≠ 2 ∧ x.tn ≠ 0) := by omega
        rcases h with h | h | h | h <;> simp [h] at hT ⊢
      · have h : x.tn = 1 ∨ x.tn = 2 ∨ x.tn = 0 ∨ (x.tn ≠ 1 ∧ x.tn ≠ 2 ∧ x.tn ≠ 0) := by omega
        rcases h with h | h | h | h <;> simp [h] at hT ⊢
    rcases hcs with ⟨t1, t2, t0, tz, rfl⟩ | ⟨t1, t2, t0, tz, rfl⟩ | ⟨t1, t2, t0, tz, rfl⟩ | ⟨t1, t2, t0, tz, rfl⟩ | ⟨t1, t2, t0, tz, rfl⟩
    all_goals (
      have hc3 : _ = some (Value.int .u8 x.tn) := hM.cell (i := 3) Lk.head
      go_quiet ((go_at_call 75; exact quiet_l (HA2 _)))
      go_wp2_with fail
      go_meet
      exact ⟨rfl, (by first | exact hM | exact mem_drew hM | exact mem_drewN hM _)⟩)
  case rest =>
  clear hM
  obtain ⟨rfl, hM⟩ := hcut
  go_wp2_with (first | (go_at_call 73; (with_reducible refine (US _).mono ?_); rintro e W1 ⟨rfl, rfl⟩) | (go_at_call 75; (with_reducible refine (HA0 _).mono ?_); rintro e W1 ⟨rfl, rfl⟩) | (go_at_call 75; (with_reducible refine (HA1 _).mono ?_); rintro e W1 ⟨rfl, rfl⟩) | (go_at_call 75; (with_reducible refine (HA2 _).mono ?_); rintro e W1 ⟨rfl, rfl⟩) | (go_at_call 75; (with_reducible refine (HA3 _).mono ?_); rintro e W1 ⟨rfl, rfl⟩) | (go_at_call 75; (with_reducible refine (HA4 _).mono ?_); rintro e W1 ⟨rfl, rfl⟩) | (go_at_call 75; (with_reducible refine (HA5 _).mono ?_); rintro e W1 ⟨rfl, rfl⟩) | (go_at_call 75; (with_reducible refine (HA6 _).mono ?_); rintro e W1 ⟨rfl, rfl⟩) | (go_at_call 75; (with_reducible refine (HA7 _).mono ?_); rintro e W1 ⟨rfl, rfl⟩) | (go_at_call 75; (with_reducible refine (HAa _).mono ?_); rintro e W1 ⟨rfl, rfl⟩) | (go_at_call 74; (with_reducible refine (C1 _).mono ?_); rintro e W1 ⟨rfl, hq⟩; replace hM := mem_q hM hq; clear hq) | (go_at_call 74; (with_reducible refine (C2 _).mono ?_); rintro e W1 ⟨rfl, hq⟩; replace hM := mem_q hM hq; clear hq) | (go_at_call 76; (with_reducible refine (C5 _).mono ?_); rintro e W1 ⟨rfl, rfl⟩) | (go_at_call 76; (with_reducible refine (C6 _).mono ?_); rintro e W1 ⟨rfl, rfl⟩) | (go_at_call 76; (with_reducible refine (C7 _).mono ?_); rintro e W1 ⟨rfl, rfl⟩) | (go_at_call 76; (with_reducible refine (C8 _).mono ?_); rintro e W1 ⟨rfl, rfl⟩) | ((with_reducible refine lX ?_); first | refine aL hM rfl rfl ?_ | refine aM hM rfl rfl ?_) | ((with_reducible refine sX ?_); refine aS hM rfl rfl rfl ?_; clear hM; intro W hM) | ((with_reducible refine bX ?_); refine aB hM rfl rfl ?_; clear hM; intro g W hM) | ((with_reducible refine zX ?_); refine aN hM rfl rfl ?_; clear hM; intro g W hM))
  all_goals
    go_ret
    exact ⟨ret_int (legL3 h1 h2 (by rw [He1.out]; assumption) (by rw [He2.out]; assumption) (by rw [HQ2.out]; exact HT.out)).symm, hM.below⟩
theorem rlcheck_good (x : En) (hx : LegW x) (h1 : 1 ≤ x.ty) (h2 : x.ty ≤ 17) (hV : (if useB x.ty 2 then decide (x.tn = 1) || decide (x.tn = 2) else decide (x.tn = 0)) = true) (w : World) :
    Calls Tryz.prog 35 #[.agg x.leg.toArray] w fun e w' => e = .returned (.int .i64 (legF x)) ∧ Below w.heap.size w w' := by
  have US := fun W => uses_any x.ty W
  obtain ⟨us, hus⟩ : ∃ us, usesS x.ty = us := ⟨_, rfl⟩
  have hb := has_bit x.ty.toNat (by omega) (by omega)
  have hz := uses_size x.ty.toNat (by omega)
  rw [show ((x.ty.toNat : Nat) : Int) = x.ty by omega, hus] at hb hz
  rw [hus] at US
  clear hus
  obtain ⟨hz1, hz2⟩ := hz
  have hz3 := hz2 (by omega)
  obtain ⟨a0, a1, a2, a3, a4, a5, a6, a7, ha⟩ := hb
  obtain ⟨qa, hqa⟩ : ∃ q, climbs x.ty = q := ⟨_, rfl⟩
  have HAa := fun W => has_any us 97 (by unfold maxLen; omega) W
  rw [ha, hqa] at HAa
  have HQa := hide hqa
  clear hqa ha
  have hl : us.toList = [] ↔ False := by
    rw [Lib.toList_data]
    refine ⟨fun e => ?_, False.elim⟩
    rw [str_nil e] at hz3
    cases hz3
  have hl2 : (us.toList == []) = false := by
    rw [beq_eq_false_iff_ne]; exact fun e => hl.1 e
  have hl3 : us.toList.isEmpty = false := by
    cases hq : us.toList with
    | nil => exact (hl.1 hq).elim
    | cons a b => rfl
  have C1 := fun W => rref_any x.fx (useB x.ty 0) hx.fx W
  obtain ⟨e1, he1⟩ : ∃ e, refE x.fx (useB x.ty 0) = e := ⟨_, rfl⟩
  rw [he1] at C1
  have C2 := fun W => rref_any x.ct (useB x.ty 1) hx.ct W
  obtain ⟨e2, he2⟩ : ∃ e, refE x.ct (useB x.ty 1) = e := ⟨_, rfl⟩
  rw [he2] at C2
  have C5 := fun W => rnum_any x.crs (useB x.ty 4) 0 129599999 W
  obtain ⟨e5, he5⟩ : ∃ e, numE x.crs (useB x.ty 4) 0 129599999 = e := ⟨_, rfl⟩
  rw [he5] at C5
  have C6 := fun W => rnum_any x.dst (useB x.ty 5) 1 2000000 W
  obtain ⟨e6, he6⟩ : ∃ e, numE x.dst (useB x.ty 5) 1 2000000 = e := ⟨_, rfl⟩
  rw [he6] at C6
  have C7 := fun W => rnum_any x.rad (useB x.ty 6) 1 2000000 W
  obtain ⟨e7, he7⟩ : ∃ e, numE x.rad (useB x.ty 6) 1 2000000 = e := ⟨_, rfl⟩
  rw [he7] at C7
  have C8 := fun W => rnum_any x.tht (useB x.ty 7) 0 129599999 W
  obtain ⟨e8, he8⟩ : ∃ e, numE x.tht (useB x.ty 7) 0 129599999 = e := ⟨_, rfl⟩
  rw [he8] at C8
  obtain ⟨q0, hq0⟩ : ∃ q, useB x.ty 0 = q := ⟨_, rfl⟩
  obtain ⟨q1, hq1⟩ : ∃ q, useB x.ty 1 = q := ⟨_, rfl⟩
  obtain ⟨q2, hq2⟩ : ∃ q, useB x.ty 2 = q := ⟨_, rfl⟩
  obtain ⟨q3, hq3⟩ : ∃ q, useB x.ty 3 = q := ⟨_, rfl⟩
  obtain ⟨q4, hq4⟩ : ∃ q, useB x.ty 4 = q := ⟨_, rfl⟩
  obtain ⟨q5, hq5⟩ : ∃ q, useB x.ty 5 = q := ⟨_, rfl⟩
  obtain ⟨q6, hq6⟩ : ∃ q, useB x.ty 6 = q := ⟨_, rfl⟩
  obtain ⟨q7, hq7⟩ : ∃ q, useB x.ty 7 = q := ⟨_, rfl⟩
  have HA0 := fun W => has_any us 70 (by unfold maxLen; omega) W
  rw [a0, hq0] at HA0
  have HA1 := fun W => has_any us 67 (by unfold maxLen; omega) W
  rw [a1, hq1] at HA1
  have HA2 := fun W => has_any us 84 (by unfold maxLen; omega) W
  rw [a2, hq2] at HA2
  have HA3 := fun W => has_any us 111 (by unfold maxLen; omega) W
  rw [a3, hq3] at HA3
  have HA4 := fun W => has_any us 75 (by unfold maxLen; omega) W
  rw [a4, hq4] at HA4
  have HA5 := fun W => has_any us 68 (by unfold maxLen; omega) W
  rw [a5, hq5] at HA5
  have HA6 := fun W => has_any us 82 (by unfold maxLen; omega) W
  rw [a6, hq6] at HA6
  have HA7 := fun W => has_any us 72 (by unfold maxLen; omega) W
  rw [a7, hq7] at HA7
  clear hz1 hz2 hz3 a0 a1 a2 a3 a4 a5 a6 a7
  rw [hq0] at C1
  rw [hq1] at C2
  rw [hq4] at C5
  rw [hq5] at C6
  rw [hq6] at C7
  rw [hq7] at C8
  have He1 := hide he1
  clear he1
  have He2 := hide he2
  clear he2
  have He5 := hide he5
  clear he5
  have He6 := hide he6
  clear he6
  have He7 := hide he7
  clear he7
  have He8 := hide he8
  clear he8
  have HQ0 := hide hq0
  clear hq0
  have HQ1 := hide hq1
  clear hq1
  have HQ2 := hide hq2
  clear hq2
  have HQ3 := hide hq3
  clear hq3
  have HQ4 := hide hq4
  clear hq4
  have HQ5 := hide hq5
  clear hq5
  have HQ6 := hide hq6
  clear hq6
  have HQ7 := hide hq7
  clear hq7
  have HT : Hid ((if q2 then decide (x.tn = 1) || decide (x.tn = 2) else decide (x.tn = 0)) = true) := hide (by rw [← HQ2.out]; exact hV)
  clear hV
  have hM := mem_nil w
  go_enter Tryz.func35, Tryz.ntmps35
  go_upto_region 4 with (first | (go_at_call 73; (with_reducible refine (US _).mono ?_); rintro e W1 ⟨rfl, rfl⟩) | (go_at_call 75; (with_reducible refine (HA0 _).mono ?_); rintro e W1 ⟨rfl, rfl⟩) | (go_at_call 75; (with_reducible refine (HA1 _).mono ?_); rintro e W1 ⟨rfl, rfl⟩) | (go_at_call 75; (with_reducible refine (HA2 _).mono ?_); rintro e W1 ⟨rfl, rfl⟩) | (go_at_call 75; (with_reducible refine (HA3 _).mono ?_); rintro e W1 ⟨rfl, rfl⟩) | (go_at_call 75; (with_reducible refine (HA4 _).mono ?_); rintro e W1 ⟨rfl, rfl⟩) | (go_at_call 75; (with_reducible refine (HA5 _).mono ?_); rintro e W1 ⟨rfl, rfl⟩) | (go_at_call 75; (with_reducible refine (HA6 _).mono ?_); rintro e W1 ⟨rfl, rfl⟩) | (go_at_call 75; (with_reducible refine (HA7 _).mono ?_); rintro e W1 ⟨rfl, rfl⟩) | (go_at_call 75; (with_reducible refine (HAa _).mono ?_); rintro e W1 ⟨rfl, rfl⟩) | (go_at_call 74; (with_reducible refine (C1 _).mono ?_); rintro e W1 ⟨rfl, hq⟩; replace hM := mem_q hM hq; clear hq) | (go_at_call 74; (with_reducible refine (C2 _).mono ?_); rintro e W1 ⟨rfl, hq⟩; replace hM := mem_q hM hq; clear hq) | (go_at_call 76; (with_reducible refine (C5 _).mono ?_); rintro e W1 ⟨rfl, rfl⟩) | (go_at_call 76; (with_reducible refine (C6 _).mono ?_); rintro e W1 ⟨rfl, rfl⟩) | (go_at_call 76; (with_reducible refine (C7 _).mono ?_); rintro e W1 ⟨rfl, rfl⟩) | (go_at_call 76; (with_reducible refine (C8 _).mono ?_); rintro e W1 ⟨rfl, rfl⟩) | ((with_reducible refine lX ?_); first | refine aL hM rfl rfl ?_ | refine aM hM rfl rfl ?_) | ((with_reducible refine sX ?_); refine aS hM rfl rfl rfl ?_; clear hM; intro W hM) | ((with_reducible refine bX ?_); refine aB hM rfl rfl ?_; clear hM; intro g W hM) | ((with_reducible refine zX ?_); refine aN hM rfl rfl ?_; clear hM; intro g W hM))
  go_cut [4] (fun s wx => s = .int .i64 e1 ∧ Mem w wx [(g, x.leg, 36)])
  case first =>
    refine region_all hM (by kernel_rfl) ?_; (clear hM; intro W hM hK)
    refine kP 0 hM hK ?_
    try simp only [pS, pN, sA, sB, sC]
    first | refine kL 1 hM hK ?_ | refine kM 1 hM hK ?_
    try simp only [pS, pN, sA, sB, sC]
    refine kP 2 hM hK ?_
    try simp only [pS, pN, sA, sB, sC]
    refine tk_call (i := 3) (nthQ rfl) (by kernel_rfl) rfl (fun K' hK' => ?_)
    go_wp2_with (first | (go_at_call 75; (with_reducible refine (HA0 _).mono ?_); rintro e W1 ⟨rfl, rfl⟩) | (go_at_call 74; (with_reducible refine (C1 _).mono ?_); rintro e W1 ⟨rfl, hq⟩; replace hM := mem_q hM hq; clear hq))
    refine hK'.out _ _ (held_of hM hK) ?_
    clear hK' K'
    try simp only [pS, pN, sA, sB, sC]
    refine tk_call (i := 4) (nthQ rfl) (by kernel_rfl) rfl (fun K' hK' => ?_)
    go_wp2_with (first | (go_at_call 75; (with_reducible refine (HA0 _).mono ?_); rintro e W1 ⟨rfl, rfl⟩) | (go_at_call 74; (with_reducible refine (C1 _).mono ?_); rintro e W1 ⟨rfl, hq⟩; replace hM := mem_q hM hq; clear hq))
    refine hK'.out _ _ (held_of hM hK) ?_
    clear hK' K'
    try simp only [pS, pN, sA, sB, sC]
    refine kP 5 hM hK ?_
    try simp only [pS, pN, sA, sB, sC]
    refine tk_done (by kernel_rfl) ?_
    go_wp2_with fail
    go_meet
    exact ⟨rfl, hM⟩
  case rest =>
  clear hM
  obtain ⟨rfl, hM⟩ := hcut
  go_upto_region 7 with (fail)
  all_goals first
    | (go_ret; exact ⟨ret_int ((legL1 h1 h2 (by rw [He1.out]; assumption)).trans He1.out).symm, hM.below⟩; done)
    | skip
  go_cut [5] (fun s wx => s = .int .i64 e2 ∧ Mem w wx [(g, x.leg, 36)])
  case first =>
    refine region_all hM (by kernel_rfl) ?_; (clear hM; intro W hM hK)
    refine kP 0 hM hK ?_
    try simp only [pS, pN, sA, sB, sC]
    first | refine kL 1 hM hK ?_ | refine kM 1 hM hK ?_
    try simp only [pS, pN, sA, sB, sC]
    refine kP 2 hM hK ?_
    try simp only [pS, pN, sA, sB, sC]
    refine tk_call (i := 3) (nthQ rfl) (by kernel_rfl) rfl (fun K' hK' => ?_)
    go_wp2_with (first | (go_at_call 75; (with_reducible refine (HA1 _).mono ?_); rintro e W1 ⟨rfl, rfl⟩) | (go_at_call 74; (with_reducible refine (C2 _).mono ?_); rintro e W1 ⟨rfl, hq⟩; replace hM := mem_q hM hq; clear hq))
    refine hK'.out _ _ (held_of hM hK) ?_
    clear hK' K'
    try simp only [pS, pN, sA, sB, sC]
    refine tk_call (i := 4) (nthQ rfl) (by kernel_rfl) rfl (fun K' hK' => ?_)
    go_wp2_with (first | (go_at_call 75; (with_reducible refine (HA1 _).mono ?_); rintro e W1 ⟨rfl, rfl⟩) | (go_at_call 74; (with_reducible refine (C2 _).mono ?_); rintro e W1 ⟨rfl, hq⟩; replace hM := mem_q hM hq; clear hq))
    refine hK'.out _ _ (held_of hM hK) ?_
    clear hK' K'
    try simp only [pS, pN, sA, sB, sC]
    refine kP 5 hM hK ?_
    try simp only [pS, pN, sA, sB, sC]
    refine tk_done (by kernel_rfl) ?_
    go_wp2_with fail
    go_meet
    exact ⟨rfl, hM⟩
  case rest =>
  clear hM
  obtain ⟨rfl, hM⟩ := hcut
  go_upto_region 10 with (first | (go_at_call 73; (with_reducible refine (US _).mono ?_); rintro e W1 ⟨rfl, rfl⟩) | (go_at_call 75; (with_reducible refine (HA0 _).mono ?_); rintro e W1 ⟨rfl, rfl⟩) | (go_at_call 75; (with_reducible refine (HA1 _).mono ?_); rintro e W1 ⟨rfl, rfl⟩) | (go_at_call 75; (with_reducible refine (HA2 _).mono ?_); rintro e W1 ⟨rfl, rfl⟩) | (go_at_call 75; (with_reducible refine (HA3 _).mono ?_); rintro e W1 ⟨rfl, rfl⟩) | (go_at_call 75; (with_reducible refine (HA4 _).mono ?_); rintro e W1 ⟨rfl, rfl⟩) | (go_at_call 75; (with_reducible refine (HA5 _).mono ?_); rintro e W1 ⟨rfl, rfl⟩) | (go_at_call 75; (with_reducible refine (HA6 _).mono ?_); rintro e W1 ⟨rfl, rfl⟩) | (go_at_call 75; (with_reducible refine (HA7 _).mono ?_); rintro e W1 ⟨rfl, rfl⟩) | (go_at_call 75; (with_reducible refine (HAa _).mono ?_); rintro e W1 ⟨rfl, rfl⟩) | (go_at_call 74; (with_reducible refine (C1 _).mono ?_); rintro e W1 ⟨rfl, hq⟩; replace hM := mem_q hM hq; clear hq) | (go_at_call 74; (with_reducible refine (C2 _).mono ?_); rintro e W1 ⟨rfl, hq⟩; replace hM := mem_q hM hq; clear hq) | (go_at_call 76; (with_reducible refine (C5 _).mono ?_); rintro e W1 ⟨rfl, rfl⟩) | (go_at_call 76; (with_reducible refine (C6 _).mono ?_); rintro e W1 ⟨rfl, rfl⟩) | (go_at_call 76; (with_reducible refine (C7 _).mono ?_); rintro e W1 ⟨rfl, rfl⟩) | (go_at_call 76; (with_reducible refine (C8 _).mono ?_); rintro e W1 ⟨rfl, rfl⟩) | ((with_reducible refine lX ?_); first | refine aL hM rfl rfl ?_ | refine aM hM rfl rfl ?_) | ((with_reducible refine sX ?_); refine aS hM rfl rfl rfl ?_; clear hM; intro W hM) | ((with_reducible refine bX ?_); refine aB hM rfl rfl ?_; clear hM; intro g W hM) | ((with_reducible refine zX ?_); refine aN hM rfl rfl ?_; clear hM; intro g W hM))
  all_goals first
    | (go_ret; exact ⟨ret_int ((legL2 h1 h2 (by rw [He1.out]; assumption) (by rw [He2.out]; assumption)).trans He2.out).symm, hM.below⟩; done)
    | skip
  go_cut [51] (fun s wx => s = .bool false ∧ Mem w wx [(g, x.leg, 36)])
  case first =>
    have hcs : ((x.tn == 1) = true ∧ (x.tn == 2) = false ∧ (x.tn == 0) = false ∧ (x.tn != 0) = true ∧ q2 = true) ∨ ((x.tn == 1) = false ∧ (x.tn == 2) = true ∧ (x.tn == 0) = false ∧ (x.tn != 0) = true ∧ q2 = true) ∨ ((x.tn == 1) = false ∧ (x.tn == 2) = false ∧ (x.tn == 0) = true ∧ (x.tn != 0) = false ∧ q2 = false) := by
      have hT := HT.out
      rcases q2 with _ | _
      · have h : x.tn = 1 ∨ x.tn = 2 ∨ x.tn = 0 ∨ (x.tn ≠ 1 ∧ x.tn ≠ 2 ∧ x.tn ≠ 0) := by omega
        rcases h with h | h | h | h <;> simp [h] at hT ⊢
      · have h : x.tn = 1 ∨ x.tn = 2 ∨ x.tn = 0 ∨ (x.tn ≠ 1 ∧ x.tn ≠ 2 ∧ x.tn ≠ 0) := by omega
        rcases h with h | h | h | h <;> simp [h] at hT ⊢
    rcases hcs with ⟨t1, t2, t0, tz, rfl⟩ | ⟨t1, t2, t0, tz, rfl⟩ | ⟨t1, t2, t0, tz, rfl⟩
    all_goals (
      have hc3 : _ = some (Value.int .u8 x.tn) := hM.cell (i := 3) Lk.head
      go_quiet ((go_at_call 75; exact quiet_l (HA2 _)))
      go_wp2_with fail
      go_meet
      exact ⟨rfl, (by first | exact hM | exact mem_drew hM | exact mem_drewN hM _)⟩)
  case rest =>
  clear hM
  obtain ⟨rfl, hM⟩ := hcut
  go_upto_region 12 with (first | (go_at_call 73; (with_reducible refine (US _).mono ?_); rintro e W1 ⟨rfl, rfl⟩) | (go_at_call 75; (with_reducible refine (HA0 _).mono ?_); rintro e W1 ⟨rfl, rfl⟩) | (go_at_call 75; (with_reducible refine (HA1 _).mono ?_); rintro e W1 ⟨rfl, rfl⟩) | (go_at_call 75; (with_reducible refine (HA2 _).mono ?_); rintro e W1 ⟨rfl, rfl⟩) | (go_at_call 75; (with_reducible refine (HA3 _).mono ?_); rintro e W1 ⟨rfl, rfl⟩) | (go_at_call 75; (with_reducible refine (HA4 _).mono ?_); rintro e W1 ⟨rfl, rfl⟩) | (go_at_call 75; (with_reducible refine (HA5 _).mono ?_); rintro e W1 ⟨rfl, rfl⟩) | (go_at_call 75; (with_reducible refine (HA6 _).mono ?_); rintro e W1 ⟨rfl, rfl⟩) | (go_at_call 75; (with_reducible refine (HA7 _).mono ?_); rintro e W1 ⟨rfl, rfl⟩) | (go_at_call 75; (with_reducible refine (HAa _).mono ?_); rintro e W1 ⟨rfl, rfl⟩) | (go_at_call 74; (with_reducible refine (C1 _).mono ?_); rintro e W1 ⟨rfl, hq⟩; replace hM := mem_q hM hq; clear hq) | (go_at_call 74; (with_reducible refine (C2 _).mono ?_); rintro e W1 ⟨rfl, hq⟩; replace hM := mem_q hM hq; clear hq) | (go_at_call 76; (with_reducible refine (C5 _).mono ?_); rintro e W1 ⟨rfl, rfl⟩) | (go_at_call 76; (with_reducible refine (C6 _).mono ?_); rintro e W1 ⟨rfl, rfl⟩) | (go_at_call 76; (with_reducible refine (C7 _).mono ?_); rintro e W1 ⟨rfl, rfl⟩) | (go_at_call 76; (with_reducible refine (C8 _).mono ?_); rintro e W1 ⟨rfl, rfl⟩) | ((with_reducible refine lX ?_); first | refine aL hM rfl rfl ?_ | refine aM hM rfl rfl ?_) | ((with_reducible refine sX ?_); refine aS hM rfl rfl rfl ?_; clear hM; intro W hM) | ((with_reducible refine bX ?_); refine aB hM rfl rfl ?_; clear hM; intro g W hM) | ((with_reducible refine zX ?_); refine aN hM rfl rfl ?_; clear hM; intro g W hM))
  go_cut [58] (fun s wx => ∃ b, s = .bool b ∧ Hid (b = (x.ov && !q3)) ∧ Mem w wx [(g, x.leg, 36)])
  case first =>
    go_wp2_with (first | (go_at_call 73; (with_reducible refine (US _).mono ?_); rintro e W1 ⟨rfl, rfl⟩) | (go_at_call 75; (with_reducible refine (HA0 _).mono ?_); rintro e W1 ⟨rfl, rfl⟩) | (go_at_call 75; (with_reducible refine (HA1 _).mono ?_); rintro e W1 ⟨rfl, rfl⟩) | (go_at_call 75; (with_reducible refine (HA2 _).mono ?_); rintro e W1 ⟨rfl, rfl⟩) | (go_at_call 75; (with_reducible refine (HA3 _).mono ?_); rintro e W1 ⟨rfl, rfl⟩) | (go_at_call 75; (with_reducible refine (HA4 _).mono ?_); rintro e W1 ⟨rfl, rfl⟩) | (go_at_call 75; (with_reducible refine (HA5 _).mono ?_); rintro e W1 ⟨rfl, rfl⟩) | (go_at_call 75; (with_reducible refine (HA6 _).mono ?_); rintro e W1 ⟨rfl, rfl⟩) | (go_at_call 75; (with_reducible refine (HA7 _).mono ?_); rintro e W1 ⟨rfl, rfl⟩) | (go_at_call 75; (with_reducible refine (HAa _).mono ?_); rintro e W1 ⟨rfl, rfl⟩) | (go_at_call 74; (with_reducible refine (C1 _).mono ?_); rintro e W1 ⟨rfl, hq⟩; replace hM := mem_q hM hq; clear hq) | (go_at_call 74; (with_reducible refine (C2 _).mono ?_); rintro e W1 ⟨rfl, hq⟩; replace hM := mem_q hM hq; clear hq) | (go_at_call 76; (with_reducible refine (C5 _).mono ?_); rintro e W1 ⟨rfl, rfl⟩) | (go_at_call 76; (with_reducible refine (C6 _).mono ?_); rintro e W1 ⟨rfl, rfl⟩) | (go_at_call 76; (with_reducible refine (C7 _).mono ?_); rintro e W1 ⟨rfl, rfl⟩) | (go_at_call 76; (with_reducible refine (C8 _).mono ?_); rintro e W1 ⟨rfl, rfl⟩) | ((with_reducible refine lX ?_); first | refine aL hM rfl rfl ?_ | refine aM hM rfl rfl ?_) | ((with_reducible refine sX ?_); refine aS hM rfl rfl rfl ?_; clear hM; intro W hM) | ((with_reducible refine bX ?_); refine aB hM rfl rfl ?_; clear hM; intro g W hM) | ((with_reducible refine zX ?_); refine aN hM rfl rfl ?_; clear hM; intro g W hM))
    all_goals
      go_meet
      exact ⟨_, rfl, hide (by (first | rfl | exact (decide_eq_true (by omega)).symm | exact (decide_eq_false (by omega)).symm | exact decide_eq_decide.2 (by omega) | (rw [Bool.eq_iff_iff]; simp only [Bool.or_eq_true, Bool.and_eq_true, beq_iff_eq, bne_iff_ne, ne_eq, decide_eq_true_eq, Bool.not_eq_true']; omega) | (simp [*]; done))), hM⟩
  case rest =>
  clear hM
  obtain ⟨b12, rfl, hb12, hM⟩ := hcut
  go_upto_region 14 with (fail)
  all_goals first
    | (go_ret; exact ⟨ret_int (legL4 h1 h2 (by rw [He1.out]; assumption) (by rw [He2.out]; assumption) (by rw [HQ2.out]; exact HT.out) (by rw [HQ3.out, ← hb12.out]; assumption)).symm, hM.below⟩; done)
    | skip
  go_cut [6] (fun s wx => s = .int .i64 e5 ∧ Mem w wx [(g, x.leg, 36)])
  case first =>
    refine region_all hM (by kernel_rfl) ?_; (clear hM; intro W hM hK)
    refine kP 0 hM hK ?_
    try simp only [pS, pN, sA, sB, sC]
    first | refine kL 1 hM hK ?_ | refine kM 1 hM hK ?_
    try simp only [pS, pN, sA, sB, sC]
    refine kP 2 hM hK ?_
    try simp only [pS, pN, sA, sB, sC]
    refine tk_call (i := 3) (nthQ rfl) (by kernel_rfl) rfl (fun K' hK' => ?_)
    go_wp2_with (first | (go_at_call 75; (with_reducible refine (HA4 _).mono ?_); rintro e W1 ⟨rfl, rfl⟩) | (go_at_call 76; (with_reducible refine (C5 _).mono ?_); rintro e W1 ⟨rfl, rfl⟩))
    refine hK'.out _ _ (held_of hM hK) ?_
    clear hK' K'
    try simp only [pS, pN, sA, sB, sC]
    refine tk_call (i := 4) (nthQ rfl) (by kernel_rfl) rfl (fun K' hK' => ?_)
    go_wp2_with (first | (go_at_call 75; (with_reducible refine (HA4 _).mono ?_); rintro e W1 ⟨rfl, rfl⟩) | (go_at_call 76; (with_reducible refine (C5 _).mono ?_); rintro e W1 ⟨rfl, rfl⟩))
    refine hK'.out _ _ (held_of hM hK) ?_
    clear hK' K'
    try simp only [pS, pN, sA, sB, sC]
    refine kP 5 hM hK ?_
    try simp only [pS, pN, sA, sB, sC]
    refine tk_done (by kernel_rfl) ?_
    go_wp2_with fail
    go_meet
    exact ⟨rfl, hM⟩
  case rest =>
  clear hM
  obtain ⟨rfl, hM⟩ := hcut
  go_upto_region 17 with (fail)
  all_goals first
    | (go_ret; exact ⟨ret_int ((legL5 h1 h2 (by rw [He1.out]; assumption) (by rw [He2.out]; assumption) (by rw [HQ2.out]; exact HT.out) (by rw [HQ3.out, ← hb12.out]; assumption) (by rw [He5.out]; assumption)).trans He5.out).symm, hM.below⟩; done)
    | skip
  go_cut [7] (fun s wx => s = .int .i64 e6 ∧ Mem w wx [(g, x.leg, 36)])
  case first =>
    refine region_all hM (by kernel_rfl) ?_; (clear hM; intro W hM hK)
    refine kP 0 hM hK ?_
    try simp only [pS, pN, sA, sB, sC]
    first | refine kL 1 hM hK ?_ | refine kM 1 hM hK ?_
    try simp only [pS, pN, sA, sB, sC]
    refine kP 2 hM hK ?_
    try simp only [pS, pN, sA, sB, sC]
    refine tk_call (i := 3) (nthQ rfl) (by kernel_rfl) rfl (fun K' hK' => ?_)
    go_wp2_with (first | (go_at_call 75; (with_reducible refine (HA5 _).mono ?_); rintro e W1 ⟨rfl, rfl⟩) | (go_at_call 76; (with_reducible refine (C6 _).mono ?_); rintro e W1 ⟨rfl, rfl⟩))
    refine hK'.out _ _ (held_of hM hK) ?_
    clear hK' K'
    try simp only [pS, pN, sA, sB, sC]
    refine tk_call (i := 4) (nthQ rfl) (by kernel_rfl) rfl (fun K' hK' => ?_)
    go_wp2_with (first | (go_at_call 75; (with_reducible refine (HA5 _).mono ?_); rintro e W1 ⟨rfl, rfl⟩) | (go_at_call 76; (with_reducible refine (C6 _).mono ?_); rintro e W1 ⟨rfl, rfl⟩))
    refine hK'.out _ _ (held_of hM hK) ?_
    clear hK' K'
    try simp only [pS, pN, sA, sB, sC]
    refine kP 5 hM hK ?_
    try simp only [pS, pN, sA, sB, sC]
    refine tk_done (by kernel_rfl) ?_
    go_wp2_with fail
    go_meet
    exact ⟨rfl, hM⟩
  case rest =>
  clear hM
  obtain ⟨rfl, hM⟩ := hcut
  go_upto_region 20 with (fail)
  all_goals first
    | (go_ret; exact ⟨ret_int ((legL6 h1 h2 (by rw [He1.out]; assumption) (by rw [He2.out]; assumption) (by rw [HQ2.out]; exact HT.out) (by rw [HQ3.out, ← hb12.out]; assumption) (by rw [He5.out]; assumption) (by rw [He6.out]; assumption)).trans He6.out).symm, hM.below⟩; done)
    | skip
  go_cut [8] (fun s wx => s = .int .i64 e7 ∧ Mem w wx [(g, x.leg, 36)])
  case first =>
    refine region_all hM (by kernel_rfl) ?_; (clear hM; intro W hM hK)
    refine kP 0 hM hK ?_
    try simp only [pS, pN, sA, sB, sC]
    first | refine kL 1 hM hK ?_ | refine kM 1 hM hK ?_
    try simp only [pS, pN, sA, sB, sC]
    refine kP 2 hM hK ?_
    try simp only [pS, pN, sA, sB, sC]
    refine tk_call (i := 3) (nthQ rfl) (by kernel_rfl) rfl (fun K' hK' => ?_)
    go_wp2_with (first | (go_at_call 75; (with_reducible refine (HA6 _).mono ?_); rintro e W1 ⟨rfl, rfl⟩) | (go_at_call 76; (with_reducible refine (C7 _).mono ?_); rintro e W1 ⟨rfl, rfl⟩))
    refine hK'.out _ _ (held_of hM hK) ?_
    clear hK' K'
    try simp only [pS, pN, sA, sB, sC]
    refine tk_call (i := 4) (nthQ rfl) (by kernel_rfl) rfl (fun K' hK' => ?_)
    go_wp2_with (first | (go_at_call 75; (with_reducible refine (HA6 _).mono ?_); rintro e W1 ⟨rfl, rfl⟩) | (go_at_call 76; (with_reducible refine (C7 _).mono ?_); rintro e W1 ⟨rfl, rfl⟩))
    refine hK'.out _ _ (held_of hM hK) ?_
    clear hK' K'
    try simp only [pS, pN, sA, sB, sC]
    refine kP 5 hM hK ?_
    try simp only [pS, pN, sA, sB, sC]
    refine tk_done (by kernel_rfl) ?_
    go_wp2_with fail
    go_meet
    exact ⟨rfl, hM⟩
  case rest =>
  clear hM
  obtain ⟨rfl, hM⟩ := hcut
  go_upto_region 23 with (fail)
  all_goals first
    | (go_ret; exact ⟨ret_int ((legL7 h1 h2 (by rw [He1.out]; assumption) (by rw [He2.out]; assumption) (by rw [HQ2.out]; exact HT.out) (by rw [HQ3.out, ← hb12.out]; assumption) (by rw [He5.out]; assumption) (by rw [He6.out]; assumption) (by rw [He7.out]; assumption)).trans He7.out).symm, hM.below⟩; done)
    | skip
  go_cut [9] (fun s wx => s = .int .i64 e8 ∧ Mem w wx [(g, x.leg, 36)])
  case first =>
    refine region_all hM (by kernel_rfl) ?_; (clear hM; intro W hM hK)
    refine kP 0 hM hK ?_
    try simp only [pS, pN, sA, sB, sC]
    first | refine kL 1 hM hK ?_ | refine kM 1 hM hK ?_
    try simp only [pS, pN, sA, sB, sC]
    refine kP 2 hM hK ?_
    try simp only [pS, pN, sA, sB, sC]
    refine tk_call (i := 3) (nthQ rfl) (by kernel_rfl) rfl (fun K' hK' => ?_)
    go_wp2_with (first | (go_at_call 75; (with_reducible refine (HA7 _).mono ?_); rintro e W1 ⟨rfl, rfl⟩) | (go_at_call 76; (with_reducible refine (C8 _).mono ?_); rintro e W1 ⟨rfl, rfl⟩))
    refine hK'.out _ _ (held_of hM hK) ?_
    clear hK' K'
    try simp only [pS, pN, sA, sB, sC]
    refine tk_call (i := 4) (nthQ rfl) (by kernel_rfl) rfl (fun K' hK' => ?_)
    go_wp2_with (first | (go_at_call 75; (with_reducible refine (HA7 _).mono ?_); rintro e W1 ⟨rfl, rfl⟩) | (go_at_call 76; (with_reducible refine (C8 _).mono ?_); rintro e W1 ⟨rfl, rfl⟩))
    refine hK'.out _ _ (held_of hM hK) ?_
    clear hK' K'
    try simp only [pS, pN, sA, sB, sC]
    refine kP 5 hM hK ?_
    try simp only [pS, pN, sA, sB, sC]
    refine tk_done (by kernel_rfl) ?_
    go_wp2_with fail
    go_meet
    exact ⟨rfl, hM⟩
  case rest =>
  clear hM
  obtain ⟨rfl, hM⟩ := hcut
  go_upto_region 26 with (first | (go_at_call 73; (with_reducible refine (US _).mono ?_); rintro e W1 ⟨rfl, rfl⟩) | (go_at_call 75; (with_reducible refine (HA0 _).mono ?_); rintro e W1 ⟨rfl, rfl⟩) | (go_at_call 75; (with_reducible refine (HA1 _).mono ?_); rintro e W1 ⟨rfl, rfl⟩) | (go_at_call 75; (with_reducible refine (HA2 _).mono ?_); rintro e W1 ⟨rfl, rfl⟩) | (go_at_call 75; (with_reducible refine (HA3 _).mono ?_); rintro e W1 ⟨rfl, rfl⟩) | (go_at_call 75; (with_reducible refine (HA4 _).mono ?_); rintro e W1 ⟨rfl, rfl⟩) | (go_at_call 75; (with_reducible refine (HA5 _).mono ?_); rintro e W1 ⟨rfl, rfl⟩) | (go_at_call 75; (with_reducible refine (HA6 _).mono ?_); rintro e W1 ⟨rfl, rfl⟩) | (go_at_call 75; (with_reducible refine (HA7 _).mono ?_); rintro e W1 ⟨rfl, rfl⟩) | (go_at_call 75; (with_reducible refine (HAa _).mono ?_); rintro e W1 ⟨rfl, rfl⟩) | (go_at_call 74; (with_reducible refine (C1 _).mono ?_); rintro e W1 ⟨rfl, hq⟩; replace hM := mem_q hM hq; clear hq) | (go_at_call 74; (with_reducible refine (C2 _).mono ?_); rintro e W1 ⟨rfl, hq⟩; replace hM := mem_q hM hq; clear hq) | (go_at_call 76; (with_reducible refine (C5 _).mono ?_); rintro e W1 ⟨rfl, rfl⟩) | (go_at_call 76; (with_reducible refine (C6 _).mono ?_); rintro e W1 ⟨rfl, rfl⟩) | (go_at_call 76; (with_reducible refine (C7 _).mono ?_); rintro e W1 ⟨rfl, rfl⟩) | (go_at_call 76; (with_reducible refine (C8 _).mono ?_); rintro e W1 ⟨rfl, rfl⟩) | ((with_reducible refine lX ?_); first | refine aL hM rfl rfl ?_ | refine aM hM rfl rfl ?_) | ((with_reducible refine sX ?_); refine aS hM rfl rfl rfl ?_; clear hM; intro W hM) | ((with_reducible refine bX ?_); refine aB hM rfl rfl ?_; clear hM; intro g W hM) | ((with_reducible refine zX ?_); refine aN hM rfl rfl ?_; clear hM; intro g W hM))
  all_goals first
    | (go_ret; exact ⟨ret_int ((legL8 h1 h2 (by rw [He1.out]; assumption) (by rw [He2.out]; assumption) (by rw [HQ2.out]; exact HT.out) (by rw [HQ3.out, ← hb12.out]; assumption) (by rw [He5.out]; assumption) (by rw [He6.out]; assumption) (by rw [He7.out]; assumption) (by rw [He8.out]; assumption)).trans He8.out).symm, hM.below⟩; done)
    | skip
  go_cut [119] (fun s wx => ∃ b, s = .bool b ∧ Hid (b = (decide (x.lo < -200000 ∨ x.lo > x.hi ∨ x.hi > 6000000) || (qa && decide (x.lo = -200000)))) ∧ Mem w wx [(g, x.leg, 36)])
  case first =>
    go_wp2_with (first | (go_at_call 73; (with_reducible refine (US _).mono ?_); rintro e W1 ⟨rfl, rfl⟩) | (go_at_call 75; (with_reducible refine (HA0 _).mono ?_); rintro e W1 ⟨rfl, rfl⟩) | (go_at_call 75; (with_reducible refine (HA1 _).mono ?_); rintro e W1 ⟨rfl, rfl⟩) | (go_at_call 75; (with_reducible refine (HA2 _).mono ?_); rintro e W1 ⟨rfl, rfl⟩) | (go_at_call 75; (with_reducible refine (HA3 _).mono ?_); rintro e W1 ⟨rfl, rfl⟩) | (go_at_call 75; (with_reducible refine (HA4 _).mono ?_); rintro e W1 ⟨rfl, rfl⟩) | (go_at_call 75; (with_reducible refine (HA5 _).mono ?_); rintro e W1 ⟨rfl, rfl⟩) | (go_at_call 75; (with_reducible refine (HA6 _).mono ?_); rintro e W1 ⟨rfl, rfl⟩) | (go_at_call 75; (with_reducible refine (HA7 _).mono ?_); rintro e W1 ⟨rfl, rfl⟩) | (go_at_call 75; (with_reducible refine (HAa _).mono ?_); rintro e W1 ⟨rfl, rfl⟩) | (go_at_call 74; (with_reducible refine (C1 _).mono ?_); rintro e W1 ⟨rfl, hq⟩; replace hM := mem_q hM hq; clear hq) | (go_at_call 74; (with_reducible refine (C2 _).mono ?_); rintro e W1 ⟨rfl, hq⟩; replace hM := mem_q hM hq; clear hq) | (go_at_call 76; (with_reducible refine (C5 _).mono ?_); rintro e W1 ⟨rfl, rfl⟩) | (go_at_call 76; (with_reducible refine (C6 _).mono ?_); rintro e W1 ⟨rfl, rfl⟩) | (go_at_call 76; (with_reducible refine (C7 _).mono ?_); rintro e W1 ⟨rfl, rfl⟩) | (go_at_call 76; (with_reducible refine (C8 _).mono ?_); rintro e W1 ⟨rfl, rfl⟩) | ((with_reducible refine lX ?_); first | refine aL hM rfl rfl ?_ | refine aM hM rfl rfl ?_) | ((with_reducible refine sX ?_); refine aS hM rfl rfl rfl ?_; clear hM; intro W hM) | ((with_reducible refine bX ?_); refine aB hM rfl rfl ?_; clear hM; intro g W hM) | ((with_reducible refine zX ?_); refine aN hM rfl rfl ?_; clear hM; intro g W hM))
    all_goals
      go_meet
      exact ⟨_, rfl, hide (by first | rfl | (rw [Bool.eq_iff_iff]; simp only [Bool.or_eq_true, Bool.and_eq_true, beq_iff_eq, decide_eq_true_eq]; first | omega | (simp_all; done) | (simp_all; omega)) | (simp_all; done) | (simp_all; omega)), hM⟩
  case rest =>
  clear hM
  obtain ⟨b26, rfl, hb26, hM⟩ := hcut
  go_upto_region 28 with (first | (go_at_call 73; (with_reducible refine (US _).mono ?_); rintro e W1 ⟨rfl, rfl⟩) | (go_at_call 75; (with_reducible refine (HA0 _).mono ?_); rintro e W1 ⟨rfl, rfl⟩) | (go_at_call 75; (with_reducible refine (HA1 _).mono ?_); rintro e W1 ⟨rfl, rfl⟩) | (go_at_call 75; (with_reducible refine (HA2 _).mono ?_); rintro e W1 ⟨rfl, rfl⟩) | (go_at_call 75; (with_reducible refine (HA3 _).mono ?_); rintro e W1 ⟨rfl, rfl⟩) | (go_at_call 75; (with_reducible refine (HA4 _).mono ?_); rintro e W1 ⟨rfl, rfl⟩) | (go_at_call 75; (with_reducible refine (HA5 _).mono ?_); rintro e W1 ⟨rfl, rfl⟩) | (go_at_call 75; (with_reducible refine (HA6 _).mono ?_); rintro e W1 ⟨rfl, rfl⟩) | (go_at_call 75; (with_reducible refine (HA7 _).mono ?_); rintro e W1 ⟨rfl, rfl⟩) | (go_at_call 75; (with_reducible refine (HAa _).mono ?_); rintro e W1 ⟨rfl, rfl⟩) | (go_at_call 74; (with_reducible refine (C1 _).mono ?_); rintro e W1 ⟨rfl, hq⟩; replace hM := mem_q hM hq; clear hq) | (go_at_call 74; (with_reducible refine (C2 _).mono ?_); rintro e W1 ⟨rfl, hq⟩; replace hM := mem_q hM hq; clear hq) | (go_at_call 76; (with_reducible refine (C5 _).mono ?_); rintro e W1 ⟨rfl, rfl⟩) | (go_at_call 76; (with_reducible refine (C6 _).mono ?_); rintro e W1 ⟨rfl, rfl⟩) | (go_at_call 76; (with_reducible refine (C7 _).mono ?_); rintro e W1 ⟨rfl, rfl⟩) | (go_at_call 76; (with_reducible refine (C8 _).mono ?_); rintro e W1 ⟨rfl, rfl⟩) | ((with_reducible refine lX ?_); first | refine aL hM rfl rfl ?_ | refine aM hM rfl rfl ?_) | ((with_reducible refine sX ?_); refine aS hM rfl rfl rfl ?_; clear hM; intro W hM) | ((with_reducible refine bX ?_); refine aB hM rfl rfl ?_; clear hM; intro g W hM) | ((with_reducible refine zX ?_); refine aN hM rfl rfl ?_; clear hM; intro g W hM))
  all_goals first
    | (go_ret; exact ⟨ret_int ((legL9 h1 h2 (by rw [He1.out]; assumption) (by rw [He2.out]; assumption) (by rw [HQ2.out]; exact HT.out) (by rw [HQ3.out, ← hb12.out]; assumption) (by rw [He5.out]; assumption) (by rw [He6.out]; assumption) (by rw [He7.out]; assumption) (by rw [He8.out]; assumption)).trans (altE_of1 HQa.out (hb26.out.symm.trans (show b26 = true by assumption)))).symm, hM.below⟩; done)
    | skip
  go_cut [119, 137] (fun s119 s wx => ∃ b, s = .bool b ∧ Hid (b = (decide (x.spd < 0 ∨ x.spd > 1000 ∨ x.rnp < 0 ∨ x.rnp > 120000))) ∧ Mem w wx [(g, x.leg, 36)])
  case first =>
    go_wp2_with (first | (go_at_call 73; (with_reducible refine (US _).mono ?_); rintro e W1 ⟨rfl, rfl⟩) | (go_at_call 75; (with_reducible refine (HA0 _).mono ?_); rintro e W1 ⟨rfl, rfl⟩) | (go_at_call 75; (with_reducible refine (HA1 _).mono ?_); rintro e W1 ⟨rfl, rfl⟩) | (go_at_call 75; (with_reducible refine (HA2 _).mono ?_); rintro e W1 ⟨rfl, rfl⟩) | (go_at_call 75; (with_reducible refine (HA3 _).mono ?_); rintro e W1 ⟨rfl, rfl⟩) | (go_at_call 75; (with_reducible refine (HA4 _).mono ?_); rintro e W1 ⟨rfl, rfl⟩) | (go_at_call 75; (with_reducible refine (HA5 _).mono ?_); rintro e W1 ⟨rfl, rfl⟩) | (go_at_call 75; (with_reducible refine (HA6 _).mono ?_); rintro e W1 ⟨rfl, rfl⟩) | (go_at_call 75; (with_reducible refine (HA7 _).mono ?_); rintro e W1 ⟨rfl, rfl⟩) | (go_at_call 75; (with_reducible refine (HAa _).mono ?_); rintro e W1 ⟨rfl, rfl⟩) | (go_at_call 74; (with_reducible refine (C1 _).mono ?_); rintro e W1 ⟨rfl, hq⟩; replace hM := mem_q hM hq; clear hq) | (go_at_call 74; (with_reducible refine (C2 _).mono ?_); rintro e W1 ⟨rfl, hq⟩; replace hM := mem_q hM hq; clear hq) | (go_at_call 76; (with_reducible refine (C5 _).mono ?_); rintro e W1 ⟨rfl, rfl⟩) | (go_at_call 76; (with_reducible refine (C6 _).mono ?_); rintro e W1 ⟨rfl, rfl⟩) | (go_at_call 76; (with_reducible refine (C7 _).mono ?_); rintro e W1 ⟨rfl, rfl⟩) | (go_at_call 76; (with_reducible refine (C8 _).mono ?_); rintro e W1 ⟨rfl, rfl⟩) | ((with_reducible refine lX ?_); first | refine aL hM rfl rfl ?_ | refine aM hM rfl rfl ?_) | ((with_reducible refine sX ?_); refine aS hM rfl rfl rfl ?_; clear hM; intro W hM) | ((with_reducible refine bX ?_); refine aB hM rfl rfl ?_; clear hM; intro g W hM) | ((with_reducible refine zX ?_); refine aN hM rfl rfl ?_; clear hM; intro g W hM))
    all_goals
      go_meet
      exact ⟨_, rfl, hide (by (first | rfl | exact (decide_eq_true (by omega)).symm | exact (decide_eq_false (by omega)).symm | exact decide_eq_decide.2 (by omega) | (rw [Bool.eq_iff_iff]; simp only [Bool.or_eq_true, Bool.and_eq_true, beq_iff_eq, bne_iff_ne, ne_eq, decide_eq_true_eq, Bool.not_eq_true']; omega) | (simp [*]; done))), hM⟩
  case rest =>
  clear hM
  obtain ⟨b28, rfl, hb28, hM⟩ := hcut
  go_wp2_with (first | (go_at_call 73; (with_reducible refine (US _).mono ?_); rintro e W1 ⟨rfl, rfl⟩) | (go_at_call 75; (with_reducible refine (HA0 _).mono ?_); rintro e W1 ⟨rfl, rfl⟩) | (go_at_call 75; (with_reducible refine (HA1 _).mono ?_); rintro e W1 ⟨rfl, rfl⟩) | (go_at_call 75; (with_reducible refine (HA2 _).mono ?_); rintro e W1 ⟨rfl, rfl⟩) | (go_at_call 75; (with_reducible refine (HA3 _).mono ?_); rintro e W1 ⟨rfl, rfl⟩) | (go_at_call 75; (with_reducible refine (HA4 _).mono ?_); rintro e W1 ⟨rfl, rfl⟩) | (go_at_call 75; (with_reducible refine (HA5 _).mono ?_); rintro e W1 ⟨rfl, rfl⟩) | (go_at_call 75; (with_reducible refine (HA6 _).mono ?_); rintro e W1 ⟨rfl, rfl⟩) | (go_at_call 75; (with_reducible refine (HA7 _).mono ?_); rintro e W1 ⟨rfl, rfl⟩) | (go_at_call 75; (with_reducible refine (HAa _).mono ?_); rintro e W1 ⟨rfl, rfl⟩) | (go_at_call 74; (with_reducible refine (C1 _).mono ?_); rintro e W1 ⟨rfl, hq⟩; replace hM := mem_q hM hq; clear hq) | (go_at_call 74; (with_reducible refine (C2 _).mono ?_); rintro e W1 ⟨rfl, hq⟩; replace hM := mem_q hM hq; clear hq) | (go_at_call 76; (with_reducible refine (C5 _).mono ?_); rintro e W1 ⟨rfl, rfl⟩) | (go_at_call 76; (with_reducible refine (C6 _).mono ?_); rintro e W1 ⟨rfl, rfl⟩) | (go_at_call 76; (with_reducible refine (C7 _).mono ?_); rintro e W1 ⟨rfl, rfl⟩) | (go_at_call 76; (with_reducible refine (C8 _).mono ?_); rintro e W1 ⟨rfl, rfl⟩) | ((with_reducible refine lX ?_); first | refine aL hM rfl rfl ?_ | refine aM hM rfl rfl ?_) | ((with_reducible refine sX ?_); refine aS hM rfl rfl rfl ?_; clear hM; intro W hM) | ((with_reducible refine bX ?_); refine aB hM rfl rfl ?_; clear hM; intro g W hM) | ((with_reducible refine zX ?_); refine aN hM rfl rfl ?_; clear hM; intro g W hM))
  all_goals first
    | (go_ret; exact ⟨ret_int ((legL9 h1 h2 (by rw [He1.out]; assumption) (by rw [He2.out]; assumption) (by rw [HQ2.out]; exact HT.out) (by rw [HQ3.out, ← hb12.out]; assumption) (by rw [He5.out]; assumption) (by rw [He6.out]; assumption) (by rw [He7.out]; assumption) (by rw [He8.out]; assumption)).trans (altE_of2 HQa.out (hb26.out.symm.trans (show b26 = false by assumption)) (hb28.out.symm.trans (show b28 = true by assumption)))).symm, hM.below⟩)
    | (go_ret; exact ⟨ret_int ((legL9 h1 h2 (by rw [He1.out]; assumption) (by rw [He2.out]; assumption) (by rw [HQ2.out]; exact HT.out) (by rw [HQ3.out, ← hb12.out]; assumption) (by rw [He5.out]; assumption) (by rw [He6.out]; assumption) (by rw [He7.out]; assumption) (by rw [He8.out]; assumption)).trans (altE_of3 HQa.out (hb26.out.symm.trans (show b26 = false by assumption)) (hb28.out.symm.trans (show b28 = false by assumption)))).symm, hM.below⟩)
theorem rlcheck_any (x : En) (hx : LegW x) (w : World) :
    Calls Tryz.prog 35 #[.agg x.leg.toArray] w fun e w' => e = .returned (.int .i64 (legF x)) ∧ Below w.heap.size w w' := by
  by_cases hk : x.ty < 1 ∨ 17 < x.ty
  · have HR : Hid (legF x = 17) := hide (by unfold legF; rw [if_pos (by omega)])
    have US := fun W => uses_any x.ty W
    rw [usesS_no hk] at US
    clear hk
    have hM := mem_nil w
    go_enter Tryz.func35, Tryz.ntmps35
    go_wp2_with (first | (go_at_call 73; (with_reducible refine (US _).mono ?_); rintro e W1 ⟨rfl, rfl⟩) | ((with_reducible refine lX ?_); first | refine aL hM rfl rfl ?_ | refine aM hM rfl rfl ?_) | ((with_reducible refine sX ?_); refine aS hM rfl rfl rfl ?_; clear hM; intro W hM) | ((with_reducible refine bX ?_); refine aB hM rfl rfl ?_; clear hM; intro g W hM) | ((with_reducible refine zX ?_); refine aN hM rfl rfl ?_; clear hM; intro g W hM))
    all_goals
      go_ret
      exact ⟨ret_int HR.out.symm, hM.below⟩
  · rcases hV : (if useB x.ty 2 then decide (x.tn = 1) || decide (x.tn = 2) else decide (x.tn = 0)) with _ | _
    · exact rlcheck_bad x hx (by omega) (by omega) hV w
    · exact rlcheck_good x hx (by omega) (by omega) hV w
end Go.Proofs.YtjjdojokkmfbmaaGreatDoor
