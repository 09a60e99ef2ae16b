/-
  The walks of layer 7 (trig): the angle of a vector.
-/
import Derived.Test.YtjjdojokkmfbmaaGreatDoorMScale
import Derived.Test.YtjjdojokkmfbmaaGreatDoorMTrig
set_option maxRecDepth 100000
set_option maxHeartbeats 16000000
namespace Go.Proofs.YtjjdojokkmfbmaaGreatDoor
open Go.RowKit
set_option linter.unusedVariables false
def atP' (m n c : Int) : Bool := decide (Sin c * m ≤ Cos c * n)
theorem atclo_any (c m n : Int) (c0 : 0 ≤ c) (c1 : c ≤ 16200000) (m0 : 0 ≤ m) (m1 : m ≤ 2147483647) (n0 : 0 ≤ n) (n1 : n ≤ 2147483647) (bm bn : Nat) (w : World)
    (hm : w.cell? ⟨bm, 0, none⟩ = some (.int .i64 m)) (hn : w.cell? ⟨bn, 0, none⟩ = some (.int .i64 n)) :
    Calls Tryz.prog 95 #[.int .i64 c, .pointer (some ⟨bm, 0, none⟩), .pointer (some ⟨bn, 0, none⟩)] w fun e w' => e = .returned (.bool (atP' m n c)) ∧ ∃ k, w' = w.drewN k := by
  have sb := Sin_bd c
  have cb := Cos_bd c
  have hc : I64 c := by unfold I64; omega
  have p1 : Sin c * m ≤ 1073741824 * m := Int.mul_le_mul_of_nonneg_right sb.2 m0
  have p2 : -1073741824 * m ≤ Sin c * m := Int.mul_le_mul_of_nonneg_right sb.1 m0
  have p3 : Cos c * n ≤ 1073741824 * n := Int.mul_le_mul_of_nonneg_right cb.2 n0
  have p4 : -1073741824 * n ≤ Cos c * n := Int.mul_le_mul_of_nonneg_right cb.1 n0
  have q1 : Sin c * m ≤ 2305843008139952128 := by omega
  have q2 : -2305843008139952128 ≤ Sin c * m := by omega
  have q3 : Cos c * n ≤ 2305843008139952128 := by omega
  have q4 : -2305843008139952128 ≤ Cos c * n := by omega
  clear p1 p2 p3 p4
  have h := hide (show atP' m n c = decide (Sin c * m ≤ Cos c * n) from rfl)
  generalize atP' m n c = q at *
  go_enter Tryz.func95, Tryz.ntmps95
  go_wp2_with fail
  go_quiet ((first | (go_at_call 96; exact quiet_l (Sin_any c hc _)) | (go_at_call 97; exact quiet_l (Cos_any c hc _))))
  go_wp2_with fail
  go_ret
  exact ⟨ret_bool h.out.symm, _, rfl⟩
theorem greatclo_any (h m n : Int) (c0 : 0 ≤ h) (c1 : h < 16200000) (m0 : 0 ≤ m) (m1 : m ≤ 2147483647) (n0 : 0 ≤ n) (n1 : n ≤ 2147483647) (b bm bn : Nat) (w : World)
    (hb : w.cell? ⟨b, 0, none⟩ = some (.func (.func 95) #[] #[.pointer (some ⟨bm, 0, none⟩), .pointer (some ⟨bn, 0, none⟩)]))
    (hm : w.cell? ⟨bm, 0, none⟩ = some (.int .i64 m)) (hn : w.cell? ⟨bn, 0, none⟩ = some (.int .i64 n)) :
    Calls Tryz.prog 139 #[.int .i64 h, .pointer (some ⟨b, 0, none⟩)] w fun e w' => e = .returned (.bool (!atP' m n (h + 1))) ∧ ∃ k, w' = w.drewN k := by
  go_enter Tryz.func139, Tryz.ntmps139
  go_wp2_with (go_at_call 95; refine (atclo_any (h + 1) m n (by omega) (by omega) m0 m1 n0 n1 bm bn _ hm hn).mono ?_; rintro e w' ⟨rfl, k, rfl⟩)
  go_ret
  exact ⟨rfl, _, rfl⟩
theorem atP_end {m n r : Int} (m0 : 0 ≤ m) (n0 : 0 ≤ n) (r0 : 0 ≤ r) (r1 : r ≤ 16200000) (h1 : r = 16200000 ∨ (!atP' m n (r + 1)) = true) (h2 : r = 0 ∨ (!atP' m n (r - 1 + 1)) = false) : r = atanC m n := by
  obtain ⟨g, hg, g1, g2, g3⟩ := atanC_nat m n
  rw [hg]
  have hn := n45_eq
  obtain ⟨k, rfl⟩ := Int.eq_ofNat_of_zero_le r0
  rcases Nat.lt_trichotomy g k with h | h | h
  · exfalso
    rcases h2 with h2 | h2
    · have : k = 0 := by exact_mod_cast h2
      omega
    · have e := g3 k h (by omega)
      rw [show (k : Int) - 1 + 1 = (k : Int) by omega] at h2
      have e2 : atP' m n (k : Int) = atP m n k := rfl
      rw [e2, e] at h2
      exact absurd h2 (by decide)
  · rw [h]
  · exfalso
    rcases h1 with h1 | h1
    · omega
    · rcases g2 with g2 | g2
      · omega
      · have e := atP_down m0 n0 (c := k + 1) (d := g) (by omega) (by omega) g2
        have e2 : atP' m n ((k : Int) + 1) = atP m n (k + 1) := rfl
        rw [e2, e] at h1
        exact absurd h1 (by decide)
theorem greatest_any (m n : Int) (m0 : 0 ≤ m) (m1 : m ≤ 2147483647) (n0 : 0 ≤ n) (n1 : n ≤ 2147483647) (bm bn : Nat) (w : World)
    (hbm : bm < w.heap.size) (hbn : bn < w.heap.size)
    (hm : w.cell? ⟨bm, 0, none⟩ = some (.int .i64 m)) (hn : w.cell? ⟨bn, 0, none⟩ = some (.int .i64 n)) :
    Calls Tryz.prog 94 #[.int .i64 16200000, .func (.func 95) #[] #[.pointer (some ⟨bm, 0, none⟩), .pointer (some ⟨bn, 0, none⟩)]] w fun e w' => e = .returned (.int .i64 (atanC m n)) ∧ Below w.heap.size w w' := by
  have hb1 : (w.alloc (.cells #[.func (.func 95) #[] #[.pointer (some ⟨bm, 0, none⟩), .pointer (some ⟨bn, 0, none⟩)]] 64)).cell? ⟨w.heap.size, 0, none⟩ = some (.func (.func 95) #[] #[.pointer (some ⟨bm, 0, none⟩), .pointer (some ⟨bn, 0, none⟩)]) := by
    simp
  have hm1 : (w.alloc (.cells #[.func (.func 95) #[] #[.pointer (some ⟨bm, 0, none⟩), .pointer (some ⟨bn, 0, none⟩)]] 64)).cell? ⟨bm, 0, none⟩ = some (.int .i64 m) := by
    rw [World.cell?_alloc_past _ _ _ hbm]; exact hm
  have hn1 : (w.alloc (.cells #[.func (.func 95) #[] #[.pointer (some ⟨bm, 0, none⟩), .pointer (some ⟨bn, 0, none⟩)]] 64)).cell? ⟨bn, 0, none⟩ = some (.int .i64 n) := by
    rw [World.cell?_alloc_past _ _ _ hbn]; exact hn
  have hB : Below w.heap.size w (w.alloc (.cells #[.func (.func 95) #[] #[.pointer (some ⟨bm, 0, none⟩), .pointer (some ⟨bn, 0, none⟩)]] 64)) := (Below.refl _ _).alloc (Nat.le_refl _) _
  have S := search_great 16200000 (by omega) (by omega) w.heap.size (fun h => !atP' m n (h + 1)) (w.alloc (.cells #[.func (.func 95) #[] #[.pointer (some ⟨bm, 0, none⟩), .pointer (some ⟨bn, 0, none⟩)]] 64))
    (fun h k h0 h1 => (greatclo_any h m n h0 h1 m0 m1 n0 n1 w.heap.size bm bn ((w.alloc (.cells #[.func (.func 95) #[] #[.pointer (some ⟨bm, 0, none⟩), .pointer (some ⟨bn, 0, none⟩)]] 64)).drewN k) hb1 hm1 hn1).mono (by rintro e w' ⟨rfl, j, rfl⟩; exact ⟨rfl, _, World.drewN_drewN _ _ _⟩))
  have HB := hide hB
  have HS := hide S
  clear hB S hb1 hm1 hn1
  go_enter Tryz.func94, Tryz.ntmps94
  go_wp2_with (go_at_call 138; refine HS.out.mono ?_; rintro e w' ⟨r, rfl, r0, r1, r2, r3, k, rfl⟩; have R := hide (atP_end m0 n0 r0 r1 r2 r3); clear r2 r3)
  go_ret
  exact ⟨ret_int R.out, below_drewN HB.out _⟩
theorem out_no (x : Int) (h : -2147483647 ≤ x) (h2 : x ≤ 2147483647) (w : World) :
    Calls Tryz.prog 93 #[.int .i64 x] w fun e w' => e = .returned (.bool false) ∧ w = w' := by
  go_enter Tryz.func93, Tryz.ntmps93
  go_wp2
  all_goals
    go_ret
    exact ⟨ret_bool (by simp; omega), rfl⟩
theorem atan2_ways (y x : Int) (A B : Int) (hA : (x.natAbs : Int) = A) (hB : (y.natAbs : Int) = B) (C : Int) (hC : C = atanC (if A < B then B else A) (if A < B then A else B)) (Q : Int) (hQ : Q = if A < B then 32400000 - C else C) : Q = atanQ y x := by
  rw [hQ, hC]; unfold atanQ
  by_cases h : A < B
  · rw [if_pos h, if_pos h, if_pos h, if_pos (by omega), hA, hB]
  · rw [if_neg h, if_neg h, if_neg h, if_neg (by omega), hA, hB]
theorem atan2_any (y x : Int) (hy : -2147483647 ≤ y) (hy2 : y ≤ 2147483647) (hx : -2147483647 ≤ x) (hx2 : x ≤ 2147483647) (h0 : ¬ (x = 0 ∧ y = 0)) (w : World) :
    Calls Tryz.prog 50 #[.int .i64 y, .int .i64 x] w fun e w' => e = .returned (.tuple #[.int .i64 (atan2F y x), .int .i64 0]) ∧ Below w.heap.size w w' := by
  have T : ((x == 0) = true ∧ (y == 0) = false) ∨ (x == 0) = false := by
    by_cases hx0 : x = 0
    · left; simp [hx0]; intro hy0; exact h0 ⟨hx0, hy0⟩
    · right; simp [hx0]
  clear h0
  have bx : (x.natAbs : Int) ≤ 2147483647 ∧ 0 ≤ (x.natAbs : Int) := by omega
  have b_y : (y.natAbs : Int) ≤ 2147483647 ∧ 0 ≤ (y.natAbs : Int) := by omega
  have ax := fun w => abs_any x (by unfold I64; omega) (by omega) w
  have ay := fun w => abs_any y (by unfold I64; omega) (by omega) w
  have WY := atan2_ways y x
  have F : Hid (atan2F y x = if 0 ≤ y then (if 0 ≤ x then atanQ y x else 64800000 - atanQ y x) else if x < 0 then 64800000 + atanQ y x else norm (-atanQ y x)) := hide rfl
  generalize hA : (x.natAbs : Int) = A at *
  generalize hB : (y.natAbs : Int) = B at *
  obtain ⟨Q, hQ⟩ : ∃ Q, Q = atanQ y x := ⟨_, rfl⟩
  have qb := atanQ_bd y x
  rw [← hQ] at F qb
  have W0 := hide (fun C hC Q' hQ' => (WY A B rfl rfl C hC Q' hQ').trans hQ.symm)
  clear WY hQ hA hB
  generalize atan2F y x = R at *
  obtain ⟨a1, a0⟩ := bx
  obtain ⟨b1, b0⟩ := b_y
  obtain ⟨qb0, qb1⟩ := qb
  have ax := hide ax
  have ay := hide ay
  by_cases t : A < B
  · have cb := atanC_bd B A
    have mx : max A B = B := by omega
    have mn : min A B = A := by omega
    have G := fun bm bn w hbm hbn hm hn => greatest_any B A (by omega) (by omega) (by omega) (by omega) bm bn w hbm hbn hm hn
    have G := hide G
    generalize hC : atanC B A = C at *
    have e : 32400000 - C = Q := W0.out C (by rw [if_pos t, if_pos t]; exact hC.symm) _ (by rw [if_pos t])
    have E := hide e
    clear e W0 hC
    rcases T with ⟨T1, T2⟩ | T1
    all_goals by_cases s1 : 0 ≤ x
    all_goals by_cases s2 : 0 ≤ y
    all_goals
      go_enter Tryz.func50, Tryz.ntmps50
      go_wp2_with (go_at_call 93; refine (out_no _ (by omega) (by omega) _).mono ?_; rintro e w' ⟨rfl, rfl⟩)
      refine (ax.out _).mono ?_; rintro e w' ⟨rfl, rfl⟩
      go_wp2_with fail
      refine (ay.out _).mono ?_; rintro e w' ⟨rfl, rfl⟩
      go_wp2_with fail
      refine (G.out _ _ _ (by simp <;> omega) (by simp <;> omega) (by simp; done) (by simp; done)).mono ?_; rintro e w' ⟨rfl, hb⟩
      have HB := hide hb
      clear hb
      go_wp2_with (go_at_call 34; refine (norm_any _ (by unfold I64; omega) _).mono ?_; rintro e w' ⟨rfl, rfl⟩)
    all_goals
      go_ret2
      refine ⟨ret_pair ?_ rfl, ((((Below.refl _ _).alloc (Nat.le_refl _) _).alloc (by simp) _).trans (HB.out.mono (by simp <;> omega)))⟩
      rw [F.out, ← E.out]
      first | rw [if_pos (show 0 ≤ y by omega), if_pos (show 0 ≤ x by omega)] | rw [if_pos (show 0 ≤ y by omega), if_neg (show ¬ 0 ≤ x by omega)] | rw [if_neg (show ¬ 0 ≤ y by omega), if_pos (show x < 0 by omega)] | rw [if_neg (show ¬ 0 ≤ y by omega), if_neg (show ¬ x < 0 by omega)]
  · have cb := atanC_bd A B
    have mx : max A B = A := by omega
    have mn : min A B = B := by omega
    have G := fun bm bn w hbm hbn hm hn => greatest_any A B (by omega) (by omega) (by omega) (by omega) bm bn w hbm hbn hm hn
    have G := hide G
    generalize hC : atanC A B = C at *
    have e : C = Q := W0.out C (by rw [if_neg t, if_neg t]; exact hC.symm) _ (by rw [if_neg t])
    have E := hide e
    clear e W0 hC
    rcases T with ⟨T1, T2⟩ | T1
    all_goals by_cases s1 : 0 ≤ x
    all_goals by_cases s2 : 0 ≤ y
    all_goals
      go_enter Tryz.func50, Tryz.ntmps50
      go_wp2_with (go_at_call 93; refine (out_no _ (by omega) (by omega) _).mono ?_; rintro e w' ⟨rfl, rfl⟩)
      refine (ax.out _).mono ?_; rintro e w' ⟨rfl, rfl⟩
      go_wp2_with fail
      refine (ay.out _).mono ?_; rintro e w' ⟨rfl, rfl⟩
      go_wp2_with fail
      refine (G.out _ _ _ (by simp <;> omega) (by simp <;> omega) (by simp; done) (by simp; done)).mono ?_; rintro e w' ⟨rfl, hb⟩
      have HB := hide hb
      clear hb
      go_wp2_with (go_at_call 34; refine (norm_any _ (by unfold I64; omega) _).mono ?_; rintro e w' ⟨rfl, rfl⟩)
    all_goals
      go_ret2
      refine ⟨ret_pair ?_ rfl, ((((Below.refl _ _).alloc (Nat.le_refl _) _).alloc (by simp) _).trans (HB.out.mono (by simp <;> omega)))⟩
      rw [F.out, ← E.out]
      first | rw [if_pos (show 0 ≤ y by omega), if_pos (show 0 ≤ x by omega)] | rw [if_pos (show 0 ≤ y by omega), if_neg (show ¬ 0 ≤ x by omega)] | rw [if_neg (show ¬ 0 ≤ y by omega), if_pos (show x < 0 by omega)] | rw [if_neg (show ¬ 0 ≤ y by omega), if_neg (show ¬ x < 0 by omega)]
end Go.Proofs.YtjjdojokkmfbmaaGreatDoor
