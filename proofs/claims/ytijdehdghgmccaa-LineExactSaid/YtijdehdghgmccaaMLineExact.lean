/-
  The walk of the law LineExact.
-/
import Derived.Test.YtijdehdghgmccaaMAwakeL
import Derived.Test.YtijdehdghgmccaaMLaws
import Derived.Test.YtijdehdghgmccaaRows
import Derived.Test.YtijdehdghgmccaaMFrame
namespace Go.Proofs.Ytijdehdghgmccaa
open Go.RowKit
set_option linter.unusedVariables false
set_option linter.unusedSimpArgs false
theorem div_mod (z : Int) : z / 18446744073709551616 * 18446744073709551616 + z % 18446744073709551616 = z := by omega
theorem sq_pos_bd {k m : Int} (h0 : 0 ≤ k) (h1 : k ≤ m) : 0 ≤ k * k ∧ k * k ≤ m * m := ⟨Int.mul_nonneg h0 h0, Int.mul_le_mul h1 h1 h0 (by omega)⟩
/-- off and along of an offset: the law's numbers -/
theorem exact_len {n s : Int} (hs : 0 < s) (hb : n * n ≤ 32000000000000 * s) :
    (-8388608 ≤ lenF n s ∧ lenF n s ≤ 8388608) ∧ ((lenF n s).natAbs : Int) * (lenF n s).natAbs * s ≤ n * n ∧ n * n < (((lenF n s).natAbs : Int) + 1) * (((lenF n s).natAbs : Int) + 1) * s ∧ ((n < 0 → lenF n s ≤ 0) ∧ (0 ≤ n → 0 ≤ lenF n s) ∧ (n = 0 → lenF n s = 0)) := by
  have hc := lenF_cases n s
  have sp := lenN_spec n s hs
  have hl := lenN_le (n := n) (s := s) (k := 5656855) hs (by omega) (by
    have : (32000000000000 : Int) * s ≤ 5656855 * 5656855 * s := Int.mul_le_mul_of_nonneg_right (by omega) (by omega)
    omega)
  have e : ((lenF n s).natAbs : Int) = lenN n s := by omega
  rw [e]
  refine ⟨by omega, sp.2.1, sp.2.2, fun h => by omega, fun h => by omega, fun h => ?_⟩
  have h0 : lenN n s = 0 := by
    unfold lenN
    rw [h, Int.zero_mul, Int.zero_ediv]
    rfl
  omega
theorem neg_sq (n : Int) : -n * -n = n * n := Int.neg_mul_neg n n
set_option maxRecDepth 100000 in
set_option maxHeartbeats 4000000 in
theorem square_any (n s k K : Int) (hn : -4000000000000000000 ≤ n) (hn2 : n ≤ 4000000000000000000) (hs : 0 < s) (hs2 : s ≤ 32000000000000) (hK : K = k.natAbs) (hk : K ≤ 8388608) (h1 : K * K * s ≤ n * n) (h2 : n * n < (K + 1) * (K + 1) * s) (w : World) :
    Calls Try.prog 77 #[.int .i64 n, .int .i64 s, .int .i64 k] w fun e w' => e = .returned (.bool true) ∧ Below w.heap.size w w' := by
  have hK0 : 0 ≤ K := by omega
  have kk := sq_pos_bd hK0 hk
  have kk1 := sq_pos_bd (k := K + 1) (m := 8388609) (by omega) (by omega)
  have nn : n * n ≤ 4000000000000000000 * 4000000000000000000 := sq_bd hn hn2
  have n0 := sq_nonneg n
  have L0 : 0 ≤ K * K * s := Int.mul_nonneg kk.1 (by omega)
  have H0 : 0 ≤ (K + 1) * (K + 1) * s := Int.mul_nonneg kk1.1 (by omega)
  have L1 : K * K * s ≤ 8388608 * 8388608 * 32000000000000 := Int.mul_le_mul kk.2 hs2 (by omega) (by omega)
  have H1 : (K + 1) * (K + 1) * s ≤ 8388609 * 8388609 * 32000000000000 := Int.mul_le_mul kk1.2 hs2 (by omega) (by omega)
  have M1 := fun W => wmul_pos n n (n * n / 18446744073709551616) (n * n % 18446744073709551616) (by unfold I64; omega) (by unfold I64; omega) Iff.rfl (by omega) (by omega) (div_mod _) W
  have M2 := fun W => wmul_pos K K (K * K / 18446744073709551616) (K * K % 18446744073709551616) (by unfold I64; omega) (by unfold I64; omega) Iff.rfl (by omega) (by omega) (div_mod _) W
  have M3 := fun W => wmul_pos (K + 1) (K + 1) ((K + 1) * (K + 1) / 18446744073709551616) ((K + 1) * (K + 1) % 18446744073709551616) (by unfold I64; omega) (by unfold I64; omega) Iff.rfl (by omega) (by omega) (div_mod _) W
  have T1 := fun W => wtimes_pos (K * K / 18446744073709551616) (K * K % 18446744073709551616) s (K * K * s / 18446744073709551616) (K * K * s % 18446744073709551616) (by omega) (by omega) (by omega) (by omega) (by omega) (by omega) (by omega) (by omega) (by rw [div_mod, div_mod]) (by omega) W
  have T2 := fun W => wtimes_pos ((K + 1) * (K + 1) / 18446744073709551616) ((K + 1) * (K + 1) % 18446744073709551616) s ((K + 1) * (K + 1) * s / 18446744073709551616) ((K + 1) * (K + 1) * s % 18446744073709551616) (by omega) (by omega) (by omega) (by omega) (by omega) (by omega) (by omega) (by omega) (by rw [div_mod, div_mod]) (by omega) W
  have C1 := fun W => wcmp_pos (K * K * s / 18446744073709551616) (K * K * s % 18446744073709551616) (n * n / 18446744073709551616) (n * n % 18446744073709551616) (by omega) (by omega) (by omega) (by omega) W
  have C2 := fun W => wcmp_pos (n * n / 18446744073709551616) (n * n % 18446744073709551616) ((K + 1) * (K + 1) * s / 18446744073709551616) ((K + 1) * (K + 1) * s % 18446744073709551616) (by omega) (by omega) (by omega) (by omega) W
  rw [div_mod, div_mod] at C1 C2
  have c1 : cmp3 (K * K * s) (n * n) ≤ 0 := by unfold cmp3; omega
  have c2 : cmp3 (n * n) ((K + 1) * (K + 1) * s) < 0 := by unfold cmp3; omega
  clear kk kk1 nn n0 L0 H0 L1 H1 h1 h2
  generalize cmp3 (K * K * s) (n * n) = v1 at *
  generalize cmp3 (n * n) ((K + 1) * (K + 1) * s) = v2 at *
  generalize (K + 1) * (K + 1) * s / 18446744073709551616 = hh at *
  generalize (K + 1) * (K + 1) * s % 18446744073709551616 = hl at *
  generalize K * K * s / 18446744073709551616 = lh at *
  generalize K * K * s % 18446744073709551616 = ll at *
  generalize (K + 1) * (K + 1) / 18446744073709551616 = ph at *
  generalize (K + 1) * (K + 1) % 18446744073709551616 = pl at *
  generalize K * K / 18446744073709551616 = kh at *
  generalize K * K % 18446744073709551616 = kl at *
  generalize n * n / 18446744073709551616 = qh at *
  generalize n * n % 18446744073709551616 = ql at *
  rcases (show (k < 0 ∧ K = -k) ∨ (0 ≤ k ∧ K = k) by omega) with ⟨k1, rfl⟩ | ⟨k1, rfl⟩
  all_goals
    clear hK
    go_enter Try.func77, Try.ntmps77
    go_wp2_with fail
    refine (M1 _).mono ?_
    rintro e w1 ⟨rfl, hb1⟩
    go_wp2_with fail
    refine (M2 _).mono ?_
    rintro e w2 ⟨rfl, hb2⟩
    have f1 := cell_below hb2 (b := w1.heap.size) (o := 0) (v := .int .i64 qh) (by repeat (first | (with_reducible assumption) | (with_reducible refine cell_drew ?_) | (with_reducible refine cell_drewN ?_ _) | (with_reducible refine cell_below (by assumption) ?_) | ((with_reducible refine cell_new ?_ ?_); (· (simp; done)); (· rfl)) | (with_reducible refine cell_alloc ?_ _) | ((with_reducible refine cell_set ?_ ?_ _); (· first | (simp; done) | (simp; omega) | omega))))
    have zf1 : w1.heap.size < w2.heap.size := World.block_lt_of_cell? _ _ f1
    have f2 := cell_below hb2 (b := w1.heap.size) (o := 1) (v := .int .u64 ql) (by repeat (first | (with_reducible assumption) | (with_reducible refine cell_drew ?_) | (with_reducible refine cell_drewN ?_ _) | (with_reducible refine cell_below (by assumption) ?_) | ((with_reducible refine cell_new ?_ ?_); (· (simp; done)); (· rfl)) | (with_reducible refine cell_alloc ?_ _) | ((with_reducible refine cell_set ?_ ?_ _); (· first | (simp; done) | (simp; omega) | omega))))
    go_wp2_with fail
    refine (T1 _).mono ?_
    rintro e w3 ⟨rfl, hb3⟩
    have f3 := cell_below hb3 (b := w1.heap.size) (o := 0) (v := .int .i64 qh) (by repeat (first | (with_reducible assumption) | (with_reducible refine cell_drew ?_) | (with_reducible refine cell_drewN ?_ _) | (with_reducible refine cell_below (by assumption) ?_) | ((with_reducible refine cell_new ?_ ?_); (· (simp; done)); (· rfl)) | (with_reducible refine cell_alloc ?_ _) | ((with_reducible refine cell_set ?_ ?_ _); (· first | (simp; done) | (simp; omega) | omega))))
    have zf3 : w1.heap.size < w3.heap.size := World.block_lt_of_cell? _ _ f3
    have f4 := cell_below hb3 (b := w1.heap.size) (o := 1) (v := .int .u64 ql) (by repeat (first | (with_reducible assumption) | (with_reducible refine cell_drew ?_) | (with_reducible refine cell_drewN ?_ _) | (with_reducible refine cell_below (by assumption) ?_) | ((with_reducible refine cell_new ?_ ?_); (· (simp; done)); (· rfl)) | (with_reducible refine cell_alloc ?_ _) | ((with_reducible refine cell_set ?_ ?_ _); (· first | (simp; done) | (simp; omega) | omega))))
    clear f1 zf1 f2
    go_wp2_with fail
    refine (M3 _).mono ?_
    rintro e w4 ⟨rfl, hb4⟩
    have f5 := cell_below hb4 (b := w1.heap.size) (o := 0) (v := .int .i64 qh) (by repeat (first | (with_reducible assumption) | (with_reducible refine cell_drew ?_) | (with_reducible refine cell_drewN ?_ _) | (with_reducible refine cell_below (by assumption) ?_) | ((with_reducible refine cell_new ?_ ?_); (· (simp; done)); (· rfl)) | (with_reducible refine cell_alloc ?_ _) | ((with_reducible refine cell_set ?_ ?_ _); (· first | (simp; done) | (simp; omega) | omega))))
    have zf5 : w1.heap.size < w4.heap.size := World.block_lt_of_cell? _ _ f5
    have f6 := cell_below hb4 (b := w1.heap.size) (o := 1) (v := .int .u64 ql) (by repeat (first | (with_reducible assumption) | (with_reducible refine cell_drew ?_) | (with_reducible refine cell_drewN ?_ _) | (with_reducible refine cell_below (by assumption) ?_) | ((with_reducible refine cell_new ?_ ?_); (· (simp; done)); (· rfl)) | (with_reducible refine cell_alloc ?_ _) | ((with_reducible refine cell_set ?_ ?_ _); (· first | (simp; done) | (simp; omega) | omega))))
    have f7 := cell_below hb4 (b := w3.heap.size) (o := 0) (v := .int .i64 lh) (by repeat (first | (with_reducible assumption) | (with_reducible refine cell_drew ?_) | (with_reducible refine cell_drewN ?_ _) | (with_reducible refine cell_below (by assumption) ?_) | ((with_reducible refine cell_new ?_ ?_); (· (simp; done)); (· rfl)) | (with_reducible refine cell_alloc ?_ _) | ((with_reducible refine cell_set ?_ ?_ _); (· first | (simp; done) | (simp; omega) | omega))))
    have zf7 : w3.heap.size < w4.heap.size := World.block_lt_of_cell? _ _ f7
    have f8 := cell_below hb4 (b := w3.heap.size) (o := 1) (v := .int .u64 ll) (by repeat (first | (with_reducible assumption) | (with_reducible refine cell_drew ?_) | (with_reducible refine cell_drewN ?_ _) | (with_reducible refine cell_below (by assumption) ?_) | ((with_reducible refine cell_new ?_ ?_); (· (simp; done)); (· rfl)) | (with_reducible refine cell_alloc ?_ _) | ((with_reducible refine cell_set ?_ ?_ _); (· first | (simp; done) | (simp; omega) | omega))))
    clear f3 zf3 f4
    go_wp2_with fail
    refine (T2 _).mono ?_
    rintro e w5 ⟨rfl, hb5⟩
    have f9 := cell_below hb5 (b := w1.heap.size) (o := 0) (v := .int .i64 qh) (by repeat (first | (with_reducible assumption) | (with_reducible refine cell_drew ?_) | (with_reducible refine cell_drewN ?_ _) | (with_reducible refine cell_below (by assumption) ?_) | ((with_reducible refine cell_new ?_ ?_); (· (simp; done)); (· rfl)) | (with_reducible refine cell_alloc ?_ _) | ((with_reducible refine cell_set ?_ ?_ _); (· first | (simp; done) | (simp; omega) | omega))))
    have zf9 : w1.heap.size < w5.heap.size := World.block_lt_of_cell? _ _ f9
    have f10 := cell_below hb5 (b := w1.heap.size) (o := 1) (v := .int .u64 ql) (by repeat (first | (with_reducible assumption) | (with_reducible refine cell_drew ?_) | (with_reducible refine cell_drewN ?_ _) | (with_reducible refine cell_below (by assumption) ?_) | ((with_reducible refine cell_new ?_ ?_); (· (simp; done)); (· rfl)) | (with_reducible refine cell_alloc ?_ _) | ((with_reducible refine cell_set ?_ ?_ _); (· first | (simp; done) | (simp; omega) | omega))))
    have f11 := cell_below hb5 (b := w3.heap.size) (o := 0) (v := .int .i64 lh) (by repeat (first | (with_reducible assumption) | (with_reducible refine cell_drew ?_) | (with_reducible refine cell_drewN ?_ _) | (with_reducible refine cell_below (by assumption) ?_) | ((with_reducible refine cell_new ?_ ?_); (· (simp; done)); (· rfl)) | (with_reducible refine cell_alloc ?_ _) | ((with_reducible refine cell_set ?_ ?_ _); (· first | (simp; done) | (simp; omega) | omega))))
    have zf11 : w3.heap.size < w5.heap.size := World.block_lt_of_cell? _ _ f11
    have f12 := cell_below hb5 (b := w3.heap.size) (o := 1) (v := .int .u64 ll) (by repeat (first | (with_reducible assumption) | (with_reducible refine cell_drew ?_) | (with_reducible refine cell_drewN ?_ _) | (with_reducible refine cell_below (by assumption) ?_) | ((with_reducible refine cell_new ?_ ?_); (· (simp; done)); (· rfl)) | (with_reducible refine cell_alloc ?_ _) | ((with_reducible refine cell_set ?_ ?_ _); (· first | (simp; done) | (simp; omega) | omega))))
    clear f5 zf5 f6 f7 zf7 f8
    go_wp2_with fail
    refine (C1 _).mono ?_
    rintro e w6 ⟨rfl, hb6⟩
    have f13 := cell_below hb6 (b := w1.heap.size) (o := 0) (v := .int .i64 qh) (by repeat (first | (with_reducible assumption) | (with_reducible refine cell_drew ?_) | (with_reducible refine cell_drewN ?_ _) | (with_reducible refine cell_below (by assumption) ?_) | ((with_reducible refine cell_new ?_ ?_); (· (simp; done)); (· rfl)) | (with_reducible refine cell_alloc ?_ _) | ((with_reducible refine cell_set ?_ ?_ _); (· first | (simp; done) | (simp; omega) | omega))))
    have zf13 : w1.heap.size < w6.heap.size := World.block_lt_of_cell? _ _ f13
    have f14 := cell_below hb6 (b := w1.heap.size) (o := 1) (v := .int .u64 ql) (by repeat (first | (with_reducible assumption) | (with_reducible refine cell_drew ?_) | (with_reducible refine cell_drewN ?_ _) | (with_reducible refine cell_below (by assumption) ?_) | ((with_reducible refine cell_new ?_ ?_); (· (simp; done)); (· rfl)) | (with_reducible refine cell_alloc ?_ _) | ((with_reducible refine cell_set ?_ ?_ _); (· first | (simp; done) | (simp; omega) | omega))))
    have f15 := cell_below hb6 (b := w3.heap.size) (o := 0) (v := .int .i64 lh) (by repeat (first | (with_reducible assumption) | (with_reducible refine cell_drew ?_) | (with_reducible refine cell_drewN ?_ _) | (with_reducible refine cell_below (by assumption) ?_) | ((with_reducible refine cell_new ?_ ?_); (· (simp; done)); (· rfl)) | (with_reducible refine cell_alloc ?_ _) | ((with_reducible refine cell_set ?_ ?_ _); (· first | (simp; done) | (simp; omega) | omega))))
    have zf15 : w3.heap.size < w6.heap.size := World.block_lt_of_cell? _ _ f15
    have f16 := cell_below hb6 (b := w3.heap.size) (o := 1) (v := .int .u64 ll) (by repeat (first | (with_reducible assumption) | (with_reducible refine cell_drew ?_) | (with_reducible refine cell_drewN ?_ _) | (with_reducible refine cell_below (by assumption) ?_) | ((with_reducible refine cell_new ?_ ?_); (· (simp; done)); (· rfl)) | (with_reducible refine cell_alloc ?_ _) | ((with_reducible refine cell_set ?_ ?_ _); (· first | (simp; done) | (simp; omega) | omega))))
    have f17 := cell_below hb6 (b := w5.heap.size) (o := 0) (v := .int .i64 hh) (by repeat (first | (with_reducible assumption) | (with_reducible refine cell_drew ?_) | (with_reducible refine cell_drewN ?_ _) | (with_reducible refine cell_below (by assumption) ?_) | ((with_reducible refine cell_new ?_ ?_); (· (simp; done)); (· rfl)) | (with_reducible refine cell_alloc ?_ _) | ((with_reducible refine cell_set ?_ ?_ _); (· first | (simp; done) | (simp; omega) | omega))))
    have zf17 : w5.heap.size < w6.heap.size := World.block_lt_of_cell? _ _ f17
    have f18 := cell_below hb6 (b := w5.heap.size) (o := 1) (v := .int .u64 hl) (by repeat (first | (with_reducible assumption) | (with_reducible refine cell_drew ?_) | (with_reducible refine cell_drewN ?_ _) | (with_reducible refine cell_below (by assumption) ?_) | ((with_reducible refine cell_new ?_ ?_); (· (simp; done)); (· rfl)) | (with_reducible refine cell_alloc ?_ _) | ((with_reducible refine cell_set ?_ ?_ _); (· first | (simp; done) | (simp; omega) | omega))))
    clear f9 zf9 f10 f11 zf11 f12
    go_wp2_with fail
    refine (C2 _).mono ?_
    rintro e w7 ⟨rfl, hb7⟩
    have f19 := cell_below hb7 (b := w1.heap.size) (o := 0) (v := .int .i64 qh) (by repeat (first | (with_reducible assumption) | (with_reducible refine cell_drew ?_) | (with_reducible refine cell_drewN ?_ _) | (with_reducible refine cell_below (by assumption) ?_) | ((with_reducible refine cell_new ?_ ?_); (· (simp; done)); (· rfl)) | (with_reducible refine cell_alloc ?_ _) | ((with_reducible refine cell_set ?_ ?_ _); (· first | (simp; done) | (simp; omega) | omega))))
    have zf19 : w1.heap.size < w7.heap.size := World.block_lt_of_cell? _ _ f19
    have f20 := cell_below hb7 (b := w1.heap.size) (o := 1) (v := .int .u64 ql) (by repeat (first | (with_reducible assumption) | (with_reducible refine cell_drew ?_) | (with_reducible refine cell_drewN ?_ _) | (with_reducible refine cell_below (by assumption) ?_) | ((with_reducible refine cell_new ?_ ?_); (· (simp; done)); (· rfl)) | (with_reducible refine cell_alloc ?_ _) | ((with_reducible refine cell_set ?_ ?_ _); (· first | (simp; done) | (simp; omega) | omega))))
    have f21 := cell_below hb7 (b := w3.heap.size) (o := 0) (v := .int .i64 lh) (by repeat (first | (with_reducible assumption) | (with_reducible refine cell_drew ?_) | (with_reducible refine cell_drewN ?_ _) | (with_reducible refine cell_below (by assumption) ?_) | ((with_reducible refine cell_new ?_ ?_); (· (simp; done)); (· rfl)) | (with_reducible refine cell_alloc ?_ _) | ((with_reducible refine cell_set ?_ ?_ _); (· first | (simp; done) | (simp; omega) | omega))))
    have zf21 : w3.heap.size < w7.heap.size := World.block_lt_of_cell? _ _ f21
    have f22 := cell_below hb7 (b := w3.heap.size) (o := 1) (v := .int .u64 ll) (by repeat (first | (with_reducible assumption) | (with_reducible refine cell_drew ?_) | (with_reducible refine cell_drewN ?_ _) | (with_reducible refine cell_below (by assumption) ?_) | ((with_reducible refine cell_new ?_ ?_); (· (simp; done)); (· rfl)) | (with_reducible refine cell_alloc ?_ _) | ((with_reducible refine cell_set ?_ ?_ _); (· first | (simp; done) | (simp; omega) | omega))))
    have f23 := cell_below hb7 (b := w5.heap.size) (o := 0) (v := .int .i64 hh) (by repeat (first | (with_reducible assumption) | (with_reducible refine cell_drew ?_) | (with_reducible refine cell_drewN ?_ _) | (with_reducible refine cell_below (by assumption) ?_) | ((with_reducible refine cell_new ?_ ?_); (· (simp; done)); (· rfl)) | (with_reducible refine cell_alloc ?_ _) | ((with_reducible refine cell_set ?_ ?_ _); (· first | (simp; done) | (simp; omega) | omega))))
    have zf23 : w5.heap.size < w7.heap.size := World.block_lt_of_cell? _ _ f23
    have f24 := cell_below hb7 (b := w5.heap.size) (o := 1) (v := .int .u64 hl) (by repeat (first | (with_reducible assumption) | (with_reducible refine cell_drew ?_) | (with_reducible refine cell_drewN ?_ _) | (with_reducible refine cell_below (by assumption) ?_) | ((with_reducible refine cell_new ?_ ?_); (· (simp; done)); (· rfl)) | (with_reducible refine cell_alloc ?_ _) | ((with_reducible refine cell_set ?_ ?_ _); (· first | (simp; done) | (simp; omega) | omega))))
    clear f13 zf13 f14 f15 zf15 f16 f17 zf17 f18
    go_wp2_with fail
    go_ret
    exact ⟨ret_bool (by first | rfl | (simp; done) | (simp; omega)), by (repeat (with_reducible (first | assumption | exact Below.refl _ _ | refine Below.drew ?_ | refine below_drewN ?_ _ | refine below_set ?_ (by simp; try omega) _ | refine below_alloc ?_ (Nat.le_refl _) _ | refine below_sub (by assumption) ?_)))⟩
set_option maxRecDepth 100000 in
set_option maxHeartbeats 4000000 in
theorem lineExact_walk (ax ay bx b_y px py : Int) (hax : I64 ax) (hay : I64 ay) (hbx : I64 bx) (hb_y : I64 b_y) (hpx : I64 px) (hpy : I64 py) (w : World) :
    Calls Try.prog 27 #[.agg #[.int .i64 ax, .int .i64 ay], .agg #[.int .i64 bx, .int .i64 b_y], .agg #[.int .i64 px, .int .i64 py]] w fun e w' => e = .returned (.bool true) ∧ Below w.heap.size w w' := by
  rcases hv : (vldB ax ay && vldB bx b_y && vldB px py) with _ | _
  · have OF := fun W => off_any ax ay bx b_y px py W (0, 0, 1) (by unfold offF; rw [hv]; rfl)
    clear hv
    go_enter Try.func27, Try.ntmps27
    go_wp2_with fail
    refine (awake11_any _).mono ?_
    rintro e w1 ⟨rfl, hb1⟩
    have f1 := cell_below hb1 (b := w.heap.size) (o := 0) (v := .int .i64 ax) (by repeat (first | (with_reducible assumption) | (with_reducible refine cell_drew ?_) | (with_reducible refine cell_drewN ?_ _) | (with_reducible refine cell_below (by assumption) ?_) | ((with_reducible refine cell_new ?_ ?_); (· (simp; done)); (· rfl)) | (with_reducible refine cell_alloc ?_ _) | ((with_reducible refine cell_set ?_ ?_ _); (· first | (simp; done) | (simp; omega) | omega))))
    have zf1 : w.heap.size < w1.heap.size := World.block_lt_of_cell? _ _ f1
    have f2 := cell_below hb1 (b := w.heap.size) (o := 1) (v := .int .i64 ay) (by repeat (first | (with_reducible assumption) | (with_reducible refine cell_drew ?_) | (with_reducible refine cell_drewN ?_ _) | (with_reducible refine cell_below (by assumption) ?_) | ((with_reducible refine cell_new ?_ ?_); (· (simp; done)); (· rfl)) | (with_reducible refine cell_alloc ?_ _) | ((with_reducible refine cell_set ?_ ?_ _); (· first | (simp; done) | (simp; omega) | omega))))
    have f3 := cell_below hb1 (b := w.heap.size + 1) (o := 0) (v := .int .i64 bx) (by repeat (first | (with_reducible assumption) | (with_reducible refine cell_drew ?_) | (with_reducible refine cell_drewN ?_ _) | (with_reducible refine cell_below (by assumption) ?_) | ((with_reducible refine cell_new ?_ ?_); (· (simp; done)); (· rfl)) | (with_reducible refine cell_alloc ?_ _) | ((with_reducible refine cell_set ?_ ?_ _); (· first | (simp; done) | (simp; omega) | omega))))
    have zf3 : w.heap.size + 1 < w1.heap.size := World.block_lt_of_cell? _ _ f3
    have f4 := cell_below hb1 (b := w.heap.size + 1) (o := 1) (v := .int .i64 b_y) (by repeat (first | (with_reducible assumption) | (with_reducible refine cell_drew ?_) | (with_reducible refine cell_drewN ?_ _) | (with_reducible refine cell_below (by assumption) ?_) | ((with_reducible refine cell_new ?_ ?_); (· (simp; done)); (· rfl)) | (with_reducible refine cell_alloc ?_ _) | ((with_reducible refine cell_set ?_ ?_ _); (· first | (simp; done) | (simp; omega) | omega))))
    have f5 := cell_below hb1 (b := w.heap.size + 1 + 1) (o := 0) (v := .int .i64 px) (by repeat (first | (with_reducible assumption) | (with_reducible refine cell_drew ?_) | (with_reducible refine cell_drewN ?_ _) | (with_reducible refine cell_below (by assumption) ?_) | ((with_reducible refine cell_new ?_ ?_); (· (simp; done)); (· rfl)) | (with_reducible refine cell_alloc ?_ _) | ((with_reducible refine cell_set ?_ ?_ _); (· first | (simp; done) | (simp; omega) | omega))))
    have zf5 : w.heap.size + 1 + 1 < w1.heap.size := World.block_lt_of_cell? _ _ f5
    have f6 := cell_below hb1 (b := w.heap.size + 1 + 1) (o := 1) (v := .int .i64 py) (by repeat (first | (with_reducible assumption) | (with_reducible refine cell_drew ?_) | (with_reducible refine cell_drewN ?_ _) | (with_reducible refine cell_below (by assumption) ?_) | ((with_reducible refine cell_new ?_ ?_); (· (simp; done)); (· rfl)) | (with_reducible refine cell_alloc ?_ _) | ((with_reducible refine cell_set ?_ ?_ _); (· first | (simp; done) | (simp; omega) | omega))))
    go_wp2_with fail
    refine (OF _).mono ?_
    rintro e w2 ⟨rfl, hb2⟩
    have f7 := cell_below hb2 (b := w.heap.size) (o := 0) (v := .int .i64 ax) (by repeat (first | (with_reducible assumption) | (with_reducible refine cell_drew ?_) | (with_reducible refine cell_drewN ?_ _) | (with_reducible refine cell_below (by assumption) ?_) | ((with_reducible refine cell_new ?_ ?_); (· (simp; done)); (· rfl)) | (with_reducible refine cell_alloc ?_ _) | ((with_reducible refine cell_set ?_ ?_ _); (· first | (simp; done) | (simp; omega) | omega))))
    have zf7 : w.heap.size < w2.heap.size := World.block_lt_of_cell? _ _ f7
    have f8 := cell_below hb2 (b := w.heap.size) (o := 1) (v := .int .i64 ay) (by repeat (first | (with_reducible assumption) | (with_reducible refine cell_drew ?_) | (with_reducible refine cell_drewN ?_ _) | (with_reducible refine cell_below (by assumption) ?_) | ((with_reducible refine cell_new ?_ ?_); (· (simp; done)); (· rfl)) | (with_reducible refine cell_alloc ?_ _) | ((with_reducible refine cell_set ?_ ?_ _); (· first | (simp; done) | (simp; omega) | omega))))
    have f9 := cell_below hb2 (b := w.heap.size + 1) (o := 0) (v := .int .i64 bx) (by repeat (first | (with_reducible assumption) | (with_reducible refine cell_drew ?_) | (with_reducible refine cell_drewN ?_ _) | (with_reducible refine cell_below (by assumption) ?_) | ((with_reducible refine cell_new ?_ ?_); (· (simp; done)); (· rfl)) | (with_reducible refine cell_alloc ?_ _) | ((with_reducible refine cell_set ?_ ?_ _); (· first | (simp; done) | (simp; omega) | omega))))
    have zf9 : w.heap.size + 1 < w2.heap.size := World.block_lt_of_cell? _ _ f9
    have f10 := cell_below hb2 (b := w.heap.size + 1) (o := 1) (v := .int .i64 b_y) (by repeat (first | (with_reducible assumption) | (with_reducible refine cell_drew ?_) | (with_reducible refine cell_drewN ?_ _) | (with_reducible refine cell_below (by assumption) ?_) | ((with_reducible refine cell_new ?_ ?_); (· (simp; done)); (· rfl)) | (with_reducible refine cell_alloc ?_ _) | ((with_reducible refine cell_set ?_ ?_ _); (· first | (simp; done) | (simp; omega) | omega))))
    have f11 := cell_below hb2 (b := w.heap.size + 1 + 1) (o := 0) (v := .int .i64 px) (by repeat (first | (with_reducible assumption) | (with_reducible refine cell_drew ?_) | (with_reducible refine cell_drewN ?_ _) | (with_reducible refine cell_below (by assumption) ?_) | ((with_reducible refine cell_new ?_ ?_); (· (simp; done)); (· rfl)) | (with_reducible refine cell_alloc ?_ _) | ((with_reducible refine cell_set ?_ ?_ _); (· first | (simp; done) | (simp; omega) | omega))))
    have zf11 : w.heap.size + 1 + 1 < w2.heap.size := World.block_lt_of_cell? _ _ f11
    have f12 := cell_below hb2 (b := w.heap.size + 1 + 1) (o := 1) (v := .int .i64 py) (by repeat (first | (with_reducible assumption) | (with_reducible refine cell_drew ?_) | (with_reducible refine cell_drewN ?_ _) | (with_reducible refine cell_below (by assumption) ?_) | ((with_reducible refine cell_new ?_ ?_); (· (simp; done)); (· rfl)) | (with_reducible refine cell_alloc ?_ _) | ((with_reducible refine cell_set ?_ ?_ _); (· first | (simp; done) | (simp; omega) | omega))))
    clear f1 zf1 f2 f3 zf3 f4 f5 zf5 f6
    go_wp2_with fail
    go_ret
    exact ⟨ret_bool (by first | rfl | (simp; done)), by (repeat (with_reducible (first | assumption | exact Below.refl _ _ | refine Below.drew ?_ | refine below_drewN ?_ _ | refine below_set ?_ (by simp; try omega) _ | refine below_alloc ?_ (Nat.le_refl _) _ | refine below_sub (by assumption) ?_)))⟩
  by_cases he : ax = bx ∧ ay = b_y
  · have OF := fun W => off_any ax ay bx b_y px py W (0, 0, 10) (by unfold offF; rw [hv, if_neg (by simp), if_pos he])
    obtain ⟨rfl, rfl⟩ := he
    clear hv
    go_enter Try.func27, Try.ntmps27
    go_wp2_with fail
    refine (awake11_any _).mono ?_
    rintro e w1 ⟨rfl, hb1⟩
    have f1 := cell_below hb1 (b := w.heap.size) (o := 0) (v := .int .i64 ax) (by repeat (first | (with_reducible assumption) | (with_reducible refine cell_drew ?_) | (with_reducible refine cell_drewN ?_ _) | (with_reducible refine cell_below (by assumption) ?_) | ((with_reducible refine cell_new ?_ ?_); (· (simp; done)); (· rfl)) | (with_reducible refine cell_alloc ?_ _) | ((with_reducible refine cell_set ?_ ?_ _); (· first | (simp; done) | (simp; omega) | omega))))
    have zf1 : w.heap.size < w1.heap.size := World.block_lt_of_cell? _ _ f1
    have f2 := cell_below hb1 (b := w.heap.size) (o := 1) (v := .int .i64 ay) (by repeat (first | (with_reducible assumption) | (with_reducible refine cell_drew ?_) | (with_reducible refine cell_drewN ?_ _) | (with_reducible refine cell_below (by assumption) ?_) | ((with_reducible refine cell_new ?_ ?_); (· (simp; done)); (· rfl)) | (with_reducible refine cell_alloc ?_ _) | ((with_reducible refine cell_set ?_ ?_ _); (· first | (simp; done) | (simp; omega) | omega))))
    have f3 := cell_below hb1 (b := w.heap.size + 1) (o := 0) (v := .int .i64 ax) (by repeat (first | (with_reducible assumption) | (with_reducible refine cell_drew ?_) | (with_reducible refine cell_drewN ?_ _) | (with_reducible refine cell_below (by assumption) ?_) | ((with_reducible refine cell_new ?_ ?_); (· (simp; done)); (· rfl)) | (with_reducible refine cell_alloc ?_ _) | ((with_reducible refine cell_set ?_ ?_ _); (· first | (simp; done) | (simp; omega) | omega))))
    have zf3 : w.heap.size + 1 < w1.heap.size := World.block_lt_of_cell? _ _ f3
    have f4 := cell_below hb1 (b := w.heap.size + 1) (o := 1) (v := .int .i64 ay) (by repeat (first | (with_reducible assumption) | (with_reducible refine cell_drew ?_) | (with_reducible refine cell_drewN ?_ _) | (with_reducible refine cell_below (by assumption) ?_) | ((with_reducible refine cell_new ?_ ?_); (· (simp; done)); (· rfl)) | (with_reducible refine cell_alloc ?_ _) | ((with_reducible refine cell_set ?_ ?_ _); (· first | (simp; done) | (simp; omega) | omega))))
    have f5 := cell_below hb1 (b := w.heap.size + 1 + 1) (o := 0) (v := .int .i64 px) (by repeat (first | (with_reducible assumption) | (with_reducible refine cell_drew ?_) | (with_reducible refine cell_drewN ?_ _) | (with_reducible refine cell_below (by assumption) ?_) | ((with_reducible refine cell_new ?_ ?_); (· (simp; done)); (· rfl)) | (with_reducible refine cell_alloc ?_ _) | ((with_reducible refine cell_set ?_ ?_ _); (· first | (simp; done) | (simp; omega) | omega))))
    have zf5 : w.heap.size + 1 + 1 < w1.heap.size := World.block_lt_of_cell? _ _ f5
    have f6 := cell_below hb1 (b := w.heap.size + 1 + 1) (o := 1) (v := .int .i64 py) (by repeat (first | (with_reducible assumption) | (with_reducible refine cell_drew ?_) | (with_reducible refine cell_drewN ?_ _) | (with_reducible refine cell_below (by assumption) ?_) | ((with_reducible refine cell_new ?_ ?_); (· (simp; done)); (· rfl)) | (with_reducible refine cell_alloc ?_ _) | ((with_reducible refine cell_set ?_ ?_ _); (· first | (simp; done) | (simp; omega) | omega))))
    go_wp2_with fail
    refine (OF _).mono ?_
    rintro e w2 ⟨rfl, hb2⟩
    have f7 := cell_below hb2 (b := w.heap.size) (o := 0) (v := .int .i64 ax) (by repeat (first | (with_reducible assumption) | (with_reducible refine cell_drew ?_) | (with_reducible refine cell_drewN ?_ _) | (with_reducible refine cell_below (by assumption) ?_) | ((with_reducible refine cell_new ?_ ?_); (· (simp; done)); (· rfl)) | (with_reducible refine cell_alloc ?_ _) | ((with_reducible refine cell_set ?_ ?_ _); (· first | (simp; done) | (simp; omega) | omega))))
    have zf7 : w.heap.size < w2.heap.size := World.block_lt_of_cell? _ _ f7
    have f8 := cell_below hb2 (b := w.heap.size) (o := 1) (v := .int .i64 ay) (by repeat (first | (with_reducible assumption) | (with_reducible refine cell_drew ?_) | (with_reducible refine cell_drewN ?_ _) | (with_reducible refine cell_below (by assumption) ?_) | ((with_reducible refine cell_new ?_ ?_); (· (simp; done)); (· rfl)) | (with_reducible refine cell_alloc ?_ _) | ((with_reducible refine cell_set ?_ ?_ _); (· first | (simp; done) | (simp; omega) | omega))))
    have f9 := cell_below hb2 (b := w.heap.size + 1) (o := 0) (v := .int .i64 ax) (by repeat (first | (with_reducible assumption) | (with_reducible refine cell_drew ?_) | (with_reducible refine cell_drewN ?_ _) | (with_reducible refine cell_below (by assumption) ?_) | ((with_reducible refine cell_new ?_ ?_); (· (simp; done)); (· rfl)) | (with_reducible refine cell_alloc ?_ _) | ((with_reducible refine cell_set ?_ ?_ _); (· first | (simp; done) | (simp; omega) | omega))))
    have zf9 : w.heap.size + 1 < w2.heap.size := World.block_lt_of_cell? _ _ f9
    have f10 := cell_below hb2 (b := w.heap.size + 1) (o := 1) (v := .int .i64 ay) (by repeat (first | (with_reducible assumption) | (with_reducible refine cell_drew ?_) | (with_reducible refine cell_drewN ?_ _) | (with_reducible refine cell_below (by assumption) ?_) | ((with_reducible refine cell_new ?_ ?_); (· (simp; done)); (· rfl)) | (with_reducible refine cell_alloc ?_ _) | ((with_reducible refine cell_set ?_ ?_ _); (· first | (simp; done) | (simp; omega) | omega))))
    have f11 := cell_below hb2 (b := w.heap.size + 1 + 1) (o := 0) (v := .int .i64 px) (by repeat (first | (with_reducible assumption) | (with_reducible refine cell_drew ?_) | (with_reducible refine cell_drewN ?_ _) | (with_reducible refine cell_below (by assumption) ?_) | ((with_reducible refine cell_new ?_ ?_); (· (simp; done)); (· rfl)) | (with_reducible refine cell_alloc ?_ _) | ((with_reducible refine cell_set ?_ ?_ _); (· first | (simp; done) | (simp; omega) | omega))))
    have zf11 : w.heap.size + 1 + 1 < w2.heap.size := World.block_lt_of_cell? _ _ f11
    have f12 := cell_below hb2 (b := w.heap.size + 1 + 1) (o := 1) (v := .int .i64 py) (by repeat (first | (with_reducible assumption) | (with_reducible refine cell_drew ?_) | (with_reducible refine cell_drewN ?_ _) | (with_reducible refine cell_below (by assumption) ?_) | ((with_reducible refine cell_new ?_ ?_); (· (simp; done)); (· rfl)) | (with_reducible refine cell_alloc ?_ _) | ((with_reducible refine cell_set ?_ ?_ _); (· first | (simp; done) | (simp; omega) | omega))))
    clear f1 zf1 f2 f3 zf3 f4 f5 zf5 f6
    go_wp2_with fail
    go_ret
    exact ⟨ret_bool (by first | rfl | (simp; done)), by (repeat (with_reducible (first | assumption | exact Below.refl _ _ | refine Below.drew ?_ | refine below_drewN ?_ _ | refine below_set ?_ (by simp; try omega) _ | refine below_alloc ?_ (Nat.le_refl _) _ | refine below_sub (by assumption) ?_)))⟩
  have hv' : (vldB ax ay = true ∧ vldB bx b_y = true) ∧ vldB px py = true := by simpa using hv
  have OF := fun W => off_any ax ay bx b_y px py W _ (off_val hv'.1.1 hv'.1.2 hv'.2 he).symm
  have b1 := vldB_bd hv'.1.1
  have b2 := vldB_bd hv'.1.2
  have b3 := vldB_bd hv'.2
  have SD := fun W => side_any ax ay bx b_y px py W
  have s1 := dist2_pos he
  have s2 := dist2_bd hv'.1.1 hv'.1.2
  have s3 := dist2_bd hv'.1.1 hv'.2
  have l1 := crs_le (px - ax) (py - ay) (bx - ax) (b_y - ay)
  have l2 := dot_le (px - ax) (py - ay) (bx - ax) (b_y - ay)
  have e1 : sideF ax ay bx b_y px py = cmp3 0 ((bx - ax) * (py - ay) - (b_y - ay) * (px - ax)) := by unfold sideF; rw [hv, if_pos rfl]
  have e2 : -((bx - ax) * (py - ay) - (b_y - ay) * (px - ax)) * -((bx - ax) * (py - ay) - (b_y - ay) * (px - ax)) = ((px - ax) * (b_y - ay) - (py - ay) * (bx - ax)) * ((px - ax) * (b_y - ay) - (py - ay) * (bx - ax)) := by grind
  have e3 : (bx - ax) * (px - ax) + (b_y - ay) * (py - ay) = (px - ax) * (bx - ax) + (py - ay) * (b_y - ay) := by grind
  have p1 := prod_bd (a := bx - ax) (b := py - ay) (by omega) (by omega) (by omega) (by omega)
  have p2 := prod_bd (a := b_y - ay) (b := px - ax) (by omega) (by omega) (by omega) (by omega)
  have p3 := prod_bd (a := bx - ax) (b := px - ax) (by omega) (by omega) (by omega) (by omega)
  have p4 := prod_bd (a := b_y - ay) (b := py - ay) (by omega) (by omega) (by omega) (by omega)
  have k1 := exact_len (n := -((bx - ax) * (py - ay) - (b_y - ay) * (px - ax))) s1 (by
      rw [e2]
      refine Int.le_trans l1 ?_
      rw [Int.mul_comm]
      exact Int.mul_le_mul_of_nonneg_right (by unfold dist2 at s3; omega) (by unfold dist2 at s1; omega))
  have k2 := exact_len (n := (bx - ax) * (px - ax) + (b_y - ay) * (py - ay)) s1 (by
      rw [e3]
      refine Int.le_trans l2 ?_
      rw [Int.mul_comm]
      exact Int.mul_le_mul_of_nonneg_right (by unfold dist2 at s3; omega) (by unfold dist2 at s1; omega))
  rw [neg_sq] at k1
  rw [e1] at SD
  clear l1 l2 e1 e2 e3 s3 hv hv'
  generalize lenF (-((bx - ax) * (py - ay) - (b_y - ay) * (px - ax))) (dist2 ax ay bx b_y) = o at *
  generalize lenF ((bx - ax) * (px - ax) + (b_y - ay) * (py - ay)) (dist2 ax ay bx b_y) = al at *
  have Q1 := fun W => square_any ((bx - ax) * (py - ay) - (b_y - ay) * (px - ax)) (dist2 ax ay bx b_y) o (o.natAbs : Int) (by omega) (by omega) s1 s2 rfl (by omega) k1.2.1 k1.2.2.1 W
  have Q2 := fun W => square_any ((bx - ax) * (px - ax) + (b_y - ay) * (py - ay)) (dist2 ax ay bx b_y) al (al.natAbs : Int) (by omega) (by omega) s1 s2 rfl (by omega) k2.2.1 k2.2.2.1 W
  have g1 := k1.1
  have g2 := k2.1
  have g3 := k1.2.2.2
  clear k1 k2
  have v1 := sq_bd (a := bx - ax) (m := 4000000) (by omega) (by omega)
  have v2 := sq_bd (a := b_y - ay) (m := 4000000) (by omega) (by omega)
  have v3 := sq_nonneg (bx - ax)
  have v4 := sq_nonneg (b_y - ay)
  unfold dist2 at *
  obtain ⟨S, hS⟩ : ∃ S, S = cmp3 0 ((bx - ax) * (py - ay) - (b_y - ay) * (px - ax)) := ⟨_, rfl⟩
  rw [← hS] at SD
  have T : (S = 0 ∧ o = 0) ∨ (S = 1 ∧ 0 ≤ o) ∨ (S = -1 ∧ o ≤ 0) := by
    unfold cmp3 at hS
    omega
  clear hS g3
  have U : ¬ wrap64 (o * S) < 0 := by
    rcases T with ⟨rfl, rfl⟩ | ⟨rfl, t⟩ | ⟨rfl, t⟩
    · rw [Int.zero_mul, show wrap64 0 = 0 from IntWalk.wrap64_in _ (by omega)]; omega
    · rw [Int.mul_one, show wrap64 o = o from IntWalk.wrap64_in _ (by omega)]; omega
    · rw [Int.mul_neg_one, show wrap64 (-o) = -o from IntWalk.wrap64_in _ (by omega)]; omega
  have t1 : decide (o < -8388608) = false := decide_eq_false (by omega)
  have t2 : decide (8388608 < o) = false := decide_eq_false (by omega)
  have t3 : decide (al < -8388608) = false := decide_eq_false (by omega)
  have t4 : decide (8388608 < al) = false := decide_eq_false (by omega)
  go_enter Try.func27, Try.ntmps27
  go_wp2_with fail
  refine (awake11_any _).mono ?_
  rintro e w1 ⟨rfl, hb1⟩
  have f1 := cell_below hb1 (b := w.heap.size) (o := 0) (v := .int .i64 ax) (by repeat (first | (with_reducible assumption) | (with_reducible refine cell_drew ?_) | (with_reducible refine cell_drewN ?_ _) | (with_reducible refine cell_below (by assumption) ?_) | ((with_reducible refine cell_new ?_ ?_); (· (simp; done)); (· rfl)) | (with_reducible refine cell_alloc ?_ _) | ((with_reducible refine cell_set ?_ ?_ _); (· first | (simp; done) | (simp; omega) | omega))))
  have zf1 : w.heap.size < w1.heap.size := World.block_lt_of_cell? _ _ f1
  have f2 := cell_below hb1 (b := w.heap.size) (o := 1) (v := .int .i64 ay) (by repeat (first | (with_reducible assumption) | (with_reducible refine cell_drew ?_) | (with_reducible refine cell_drewN ?_ _) | (with_reducible refine cell_below (by assumption) ?_) | ((with_reducible refine cell_new ?_ ?_); (· (simp; done)); (· rfl)) | (with_reducible refine cell_alloc ?_ _) | ((with_reducible refine cell_set ?_ ?_ _); (· first | (simp; done) | (simp; omega) | omega))))
  have f3 := cell_below hb1 (b := w.heap.size + 1) (o := 0) (v := .int .i64 bx) (by repeat (first | (with_reducible assumption) | (with_reducible refine cell_drew ?_) | (with_reducible refine cell_drewN ?_ _) | (with_reducible refine cell_below (by assumption) ?_) | ((with_reducible refine cell_new ?_ ?_); (· (simp; done)); (· rfl)) | (with_reducible refine cell_alloc ?_ _) | ((with_reducible refine cell_set ?_ ?_ _); (· first | (simp; done) | (simp; omega) | omega))))
  have zf3 : w.heap.size + 1 < w1.heap.size := World.block_lt_of_cell? _ _ f3
  have f4 := cell_below hb1 (b := w.heap.size + 1) (o := 1) (v := .int .i64 b_y) (by repeat (first | (with_reducible assumption) | (with_reducible refine cell_drew ?_) | (with_reducible refine cell_drewN ?_ _) | (with_reducible refine cell_below (by assumption) ?_) | ((with_reducible refine cell_new ?_ ?_); (· (simp; done)); (· rfl)) | (with_reducible refine cell_alloc ?_ _) | ((with_reducible refine cell_set ?_ ?_ _); (· first | (simp; done) | (simp; omega) | omega))))
  have f5 := cell_below hb1 (b := w.heap.size + 1 + 1) (o := 0) (v := .int .i64 px) (by repeat (first | (with_reducible assumption) | (with_reducible refine cell_drew ?_) | (with_reducible refine cell_drewN ?_ _) | (with_reducible refine cell_below (by assumption) ?_) | ((with_reducible refine cell_new ?_ ?_); (· (simp; done)); (· rfl)) | (with_reducible refine cell_alloc ?_ _) | ((with_reducible refine cell_set ?_ ?_ _); (· first | (simp; done) | (simp; omega) | omega))))
  have zf5 : w.heap.size + 1 + 1 < w1.heap.size := World.block_lt_of_cell? _ _ f5
  have f6 := cell_below hb1 (b := w.heap.size + 1 + 1) (o := 1) (v := .int .i64 py) (by repeat (first | (with_reducible assumption) | (with_reducible refine cell_drew ?_) | (with_reducible refine cell_drewN ?_ _) | (with_reducible refine cell_below (by assumption) ?_) | ((with_reducible refine cell_new ?_ ?_); (· (simp; done)); (· rfl)) | (with_reducible refine cell_alloc ?_ _) | ((with_reducible refine cell_set ?_ ?_ _); (· first | (simp; done) | (simp; omega) | omega))))
  go_wp2_with fail
  refine (OF _).mono ?_
  rintro e w2 ⟨rfl, hb2⟩
  have f7 := cell_below hb2 (b := w.heap.size) (o := 0) (v := .int .i64 ax) (by repeat (first | (with_reducible assumption) | (with_reducible refine cell_drew ?_) | (with_reducible refine cell_drewN ?_ _) | (with_reducible refine cell_below (by assumption) ?_) | ((with_reducible refine cell_new ?_ ?_); (· (simp; done)); (· rfl)) | (with_reducible refine cell_alloc ?_ _) | ((with_reducible refine cell_set ?_ ?_ _); (· first | (simp; done) | (simp; omega) | omega))))
  have zf7 : w.heap.size < w2.heap.size := World.block_lt_of_cell? _ _ f7
  have f8 := cell_below hb2 (b := w.heap.size) (o := 1) (v := .int .i64 ay) (by repeat (first | (with_reducible assumption) | (with_reducible refine cell_drew ?_) | (with_reducible refine cell_drewN ?_ _) | (with_reducible refine cell_below (by assumption) ?_) | ((with_reducible refine cell_new ?_ ?_); (· (simp; done)); (· rfl)) | (with_reducible refine cell_alloc ?_ _) | ((with_reducible refine cell_set ?_ ?_ _); (· first | (simp; done) | (simp; omega) | omega))))
  have f9 := cell_below hb2 (b := w.heap.size + 1) (o := 0) (v := .int .i64 bx) (by repeat (first | (with_reducible assumption) | (with_reducible refine cell_drew ?_) | (with_reducible refine cell_drewN ?_ _) | (with_reducible refine cell_below (by assumption) ?_) | ((with_reducible refine cell_new ?_ ?_); (· (simp; done)); (· rfl)) | (with_reducible refine cell_alloc ?_ _) | ((with_reducible refine cell_set ?_ ?_ _); (· first | (simp; done) | (simp; omega) | omega))))
  have zf9 : w.heap.size + 1 < w2.heap.size := World.block_lt_of_cell? _ _ f9
  have f10 := cell_below hb2 (b := w.heap.size + 1) (o := 1) (v := .int .i64 b_y) (by repeat (first | (with_reducible assumption) | (with_reducible refine cell_drew ?_) | (with_reducible refine cell_drewN ?_ _) | (with_reducible refine cell_below (by assumption) ?_) | ((with_reducible refine cell_new ?_ ?_); (· (simp; done)); (· rfl)) | (with_reducible refine cell_alloc ?_ _) | ((with_reducible refine cell_set ?_ ?_ _); (· first | (simp; done) | (simp; omega) | omega))))
  have f11 := cell_below hb2 (b := w.heap.size + 1 + 1) (o := 0) (v := .int .i64 px) (by repeat (first | (with_reducible assumption) | (with_reducible refine cell_drew ?_) | (with_reducible refine cell_drewN ?_ _) | (with_reducible refine cell_below (by assumption) ?_) | ((with_reducible refine cell_new ?_ ?_); (· (simp; done)); (· rfl)) | (with_reducible refine cell_alloc ?_ _) | ((with_reducible refine cell_set ?_ ?_ _); (· first | (simp; done) | (simp; omega) | omega))))
  have zf11 : w.heap.size + 1 + 1 < w2.heap.size := World.block_lt_of_cell? _ _ f11
  have f12 := cell_below hb2 (b := w.heap.size + 1 + 1) (o := 1) (v := .int .i64 py) (by repeat (first | (with_reducible assumption) | (with_reducible refine cell_drew ?_) | (with_reducible refine cell_drewN ?_ _) | (with_reducible refine cell_below (by assumption) ?_) | ((with_reducible refine cell_new ?_ ?_); (· (simp; done)); (· rfl)) | (with_reducible refine cell_alloc ?_ _) | ((with_reducible refine cell_set ?_ ?_ _); (· first | (simp; done) | (simp; omega) | omega))))
  clear f1 zf1 f2 f3 zf3 f4 f5 zf5 f6
  go_wp2_with fail
  go_quiet (fail)
  go_wp2_with fail
  refine (SD _).mono ?_
  rintro e w3 ⟨rfl, hb3⟩
  have f13 := cell_below hb3 (b := w.heap.size) (o := 0) (v := .int .i64 ax) (by repeat (first | (with_reducible assumption) | (with_reducible refine cell_drew ?_) | (with_reducible refine cell_drewN ?_ _) | (with_reducible refine cell_below (by assumption) ?_) | ((with_reducible refine cell_new ?_ ?_); (· (simp; done)); (· rfl)) | (with_reducible refine cell_alloc ?_ _) | ((with_reducible refine cell_set ?_ ?_ _); (· first | (simp; done) | (simp; omega) | omega))))
  have zf13 : w.heap.size < w3.heap.size := World.block_lt_of_cell? _ _ f13
  have f14 := cell_below hb3 (b := w.heap.size) (o := 1) (v := .int .i64 ay) (by repeat (first | (with_reducible assumption) | (with_reducible refine cell_drew ?_) | (with_reducible refine cell_drewN ?_ _) | (with_reducible refine cell_below (by assumption) ?_) | ((with_reducible refine cell_new ?_ ?_); (· (simp; done)); (· rfl)) | (with_reducible refine cell_alloc ?_ _) | ((with_reducible refine cell_set ?_ ?_ _); (· first | (simp; done) | (simp; omega) | omega))))
  have f15 := cell_below hb3 (b := w.heap.size + 1) (o := 0) (v := .int .i64 bx) (by repeat (first | (with_reducible assumption) | (with_reducible refine cell_drew ?_) | (with_reducible refine cell_drewN ?_ _) | (with_reducible refine cell_below (by assumption) ?_) | ((with_reducible refine cell_new ?_ ?_); (· (simp; done)); (· rfl)) | (with_reducible refine cell_alloc ?_ _) | ((with_reducible refine cell_set ?_ ?_ _); (· first | (simp; done) | (simp; omega) | omega))))
  have zf15 : w.heap.size + 1 < w3.heap.size := World.block_lt_of_cell? _ _ f15
  have f16 := cell_below hb3 (b := w.heap.size + 1) (o := 1) (v := .int .i64 b_y) (by repeat (first | (with_reducible assumption) | (with_reducible refine cell_drew ?_) | (with_reducible refine cell_drewN ?_ _) | (with_reducible refine cell_below (by assumption) ?_) | ((with_reducible refine cell_new ?_ ?_); (· (simp; done)); (· rfl)) | (with_reducible refine cell_alloc ?_ _) | ((with_reducible refine cell_set ?_ ?_ _); (· first | (simp; done) | (simp; omega) | omega))))
  have f17 := cell_below hb3 (b := w.heap.size + 1 + 1) (o := 0) (v := .int .i64 px) (by repeat (first | (with_reducible assumption) | (with_reducible refine cell_drew ?_) | (with_reducible refine cell_drewN ?_ _) | (with_reducible refine cell_below (by assumption) ?_) | ((with_reducible refine cell_new ?_ ?_); (· (simp; done)); (· rfl)) | (with_reducible refine cell_alloc ?_ _) | ((with_reducible refine cell_set ?_ ?_ _); (· first | (simp; done) | (simp; omega) | omega))))
  have zf17 : w.heap.size + 1 + 1 < w3.heap.size := World.block_lt_of_cell? _ _ f17
  have f18 := cell_below hb3 (b := w.heap.size + 1 + 1) (o := 1) (v := .int .i64 py) (by repeat (first | (with_reducible assumption) | (with_reducible refine cell_drew ?_) | (with_reducible refine cell_drewN ?_ _) | (with_reducible refine cell_below (by assumption) ?_) | ((with_reducible refine cell_new ?_ ?_); (· (simp; done)); (· rfl)) | (with_reducible refine cell_alloc ?_ _) | ((with_reducible refine cell_set ?_ ?_ _); (· first | (simp; done) | (simp; omega) | omega))))
  clear f7 zf7 f8 f9 zf9 f10 f11 zf11 f12
  go_wp2_with fail
  refine (Q1 _).mono ?_
  rintro e w4 ⟨rfl, hb4⟩
  have f19 := cell_below hb4 (b := w.heap.size) (o := 0) (v := .int .i64 ax) (by repeat (first | (with_reducible assumption) | (with_reducible refine cell_drew ?_) | (with_reducible refine cell_drewN ?_ _) | (with_reducible refine cell_below (by assumption) ?_) | ((with_reducible refine cell_new ?_ ?_); (· (simp; done)); (· rfl)) | (with_reducible refine cell_alloc ?_ _) | ((with_reducible refine cell_set ?_ ?_ _); (· first | (simp; done) | (simp; omega) | omega))))
  have zf19 : w.heap.size < w4.heap.size := World.block_lt_of_cell? _ _ f19
  have f20 := cell_below hb4 (b := w.heap.size) (o := 1) (v := .int .i64 ay) (by repeat (first | (with_reducible assumption) | (with_reducible refine cell_drew ?_) | (with_reducible refine cell_drewN ?_ _) | (with_reducible refine cell_below (by assumption) ?_) | ((with_reducible refine cell_new ?_ ?_); (· (simp; done)); (· rfl)) | (with_reducible refine cell_alloc ?_ _) | ((with_reducible refine cell_set ?_ ?_ _); (· first | (simp; done) | (simp; omega) | omega))))
  have f21 := cell_below hb4 (b := w.heap.size + 1) (o := 0) (v := .int .i64 bx) (by repeat (first | (with_reducible assumption) | (with_reducible refine cell_drew ?_) | (with_reducible refine cell_drewN ?_ _) | (with_reducible refine cell_below (by assumption) ?_) | ((with_reducible refine cell_new ?_ ?_); (· (simp; done)); (· rfl)) | (with_reducible refine cell_alloc ?_ _) | ((with_reducible refine cell_set ?_ ?_ _); (· first | (simp; done) | (simp; omega) | omega))))
  have zf21 : w.heap.size + 1 < w4.heap.size := World.block_lt_of_cell? _ _ f21
  have f22 := cell_below hb4 (b := w.heap.size + 1) (o := 1) (v := .int .i64 b_y) (by repeat (first | (with_reducible assumption) | (with_reducible refine cell_drew ?_) | (with_reducible refine cell_drewN ?_ _) | (with_reducible refine cell_below (by assumption) ?_) | ((with_reducible refine cell_new ?_ ?_); (· (simp; done)); (· rfl)) | (with_reducible refine cell_alloc ?_ _) | ((with_reducible refine cell_set ?_ ?_ _); (· first | (simp; done) | (simp; omega) | omega))))
  have f23 := cell_below hb4 (b := w.heap.size + 1 + 1) (o := 0) (v := .int .i64 px) (by repeat (first | (with_reducible assumption) | (with_reducible refine cell_drew ?_) | (with_reducible refine cell_drewN ?_ _) | (with_reducible refine cell_below (by assumption) ?_) | ((with_reducible refine cell_new ?_ ?_); (· (simp; done)); (· rfl)) | (with_reducible refine cell_alloc ?_ _) | ((with_reducible refine cell_set ?_ ?_ _); (· first | (simp; done) | (simp; omega) | omega))))
  have zf23 : w.heap.size + 1 + 1 < w4.heap.size := World.block_lt_of_cell? _ _ f23
  have f24 := cell_below hb4 (b := w.heap.size + 1 + 1) (o := 1) (v := .int .i64 py) (by repeat (first | (with_reducible assumption) | (with_reducible refine cell_drew ?_) | (with_reducible refine cell_drewN ?_ _) | (with_reducible refine cell_below (by assumption) ?_) | ((with_reducible refine cell_new ?_ ?_); (· (simp; done)); (· rfl)) | (with_reducible refine cell_alloc ?_ _) | ((with_reducible refine cell_set ?_ ?_ _); (· first | (simp; done) | (simp; omega) | omega))))
  clear f13 zf13 f14 f15 zf15 f16 f17 zf17 f18
  go_wp2_with fail
  refine (Q2 _).mono ?_
  rintro e w5 ⟨rfl, hb5⟩
  have f25 := cell_below hb5 (b := w.heap.size) (o := 0) (v := .int .i64 ax) (by repeat (first | (with_reducible assumption) | (with_reducible refine cell_drew ?_) | (with_reducible refine cell_drewN ?_ _) | (with_reducible refine cell_below (by assumption) ?_) | ((with_reducible refine cell_new ?_ ?_); (· (simp; done)); (· rfl)) | (with_reducible refine cell_alloc ?_ _) | ((with_reducible refine cell_set ?_ ?_ _); (· first | (simp; done) | (simp; omega) | omega))))
  have zf25 : w.heap.size < w5.heap.size := World.block_lt_of_cell? _ _ f25
  have f26 := cell_below hb5 (b := w.heap.size) (o := 1) (v := .int .i64 ay) (by repeat (first | (with_reducible assumption) | (with_reducible refine cell_drew ?_) | (with_reducible refine cell_drewN ?_ _) | (with_reducible refine cell_below (by assumption) ?_) | ((with_reducible refine cell_new ?_ ?_); (· (simp; done)); (· rfl)) | (with_reducible refine cell_alloc ?_ _) | ((with_reducible refine cell_set ?_ ?_ _); (· first | (simp; done) | (simp; omega) | omega))))
  have f27 := cell_below hb5 (b := w.heap.size + 1) (o := 0) (v := .int .i64 bx) (by repeat (first | (with_reducible assumption) | (with_reducible refine cell_drew ?_) | (with_reducible refine cell_drewN ?_ _) | (with_reducible refine cell_below (by assumption) ?_) | ((with_reducible refine cell_new ?_ ?_); (· (simp; done)); (· rfl)) | (with_reducible refine cell_alloc ?_ _) | ((with_reducible refine cell_set ?_ ?_ _); (· first | (simp; done) | (simp; omega) | omega))))
  have zf27 : w.heap.size + 1 < w5.heap.size := World.block_lt_of_cell? _ _ f27
  have f28 := cell_below hb5 (b := w.heap.size + 1) (o := 1) (v := .int .i64 b_y) (by repeat (first | (with_reducible assumption) | (with_reducible refine cell_drew ?_) | (with_reducible refine cell_drewN ?_ _) | (with_reducible refine cell_below (by assumption) ?_) | ((with_reducible refine cell_new ?_ ?_); (· (simp; done)); (· rfl)) | (with_reducible refine cell_alloc ?_ _) | ((with_reducible refine cell_set ?_ ?_ _); (· first | (simp; done) | (simp; omega) | omega))))
  have f29 := cell_below hb5 (b := w.heap.size + 1 + 1) (o := 0) (v := .int .i64 px) (by repeat (first | (with_reducible assumption) | (with_reducible refine cell_drew ?_) | (with_reducible refine cell_drewN ?_ _) | (with_reducible refine cell_below (by assumption) ?_) | ((with_reducible refine cell_new ?_ ?_); (· (simp; done)); (· rfl)) | (with_reducible refine cell_alloc ?_ _) | ((with_reducible refine cell_set ?_ ?_ _); (· first | (simp; done) | (simp; omega) | omega))))
  have zf29 : w.heap.size + 1 + 1 < w5.heap.size := World.block_lt_of_cell? _ _ f29
  have f30 := cell_below hb5 (b := w.heap.size + 1 + 1) (o := 1) (v := .int .i64 py) (by repeat (first | (with_reducible assumption) | (with_reducible refine cell_drew ?_) | (with_reducible refine cell_drewN ?_ _) | (with_reducible refine cell_below (by assumption) ?_) | ((with_reducible refine cell_new ?_ ?_); (· (simp; done)); (· rfl)) | (with_reducible refine cell_alloc ?_ _) | ((with_reducible refine cell_set ?_ ?_ _); (· first | (simp; done) | (simp; omega) | omega))))
  clear f19 zf19 f20 f21 zf21 f22 f23 zf23 f24
  go_wp2_with fail
  all_goals go_ret
  all_goals refine ⟨ret_bool ?_, by (repeat (with_reducible (first | assumption | exact Below.refl _ _ | refine Below.drew ?_ | refine below_drewN ?_ _ | refine below_set ?_ (by simp; try omega) _ | refine below_alloc ?_ (Nat.le_refl _) _ | refine below_sub (by assumption) ?_)))⟩
  all_goals first | exact absurd (by assumption) U | rfl | (rw [beq_iff_eq]; omega)
end Go.Proofs.Ytijdehdghgmccaa

/-
  LineExact: the row's step: the given statement 'LineExactSaid' out of the walk.
-/
namespace Go.Proofs.Ytijdehdghgmccaa.lineExact
open Go.ChangeShapes Go.WideShapes Go.ChangeAt Go.RowKit
set_option linter.unusedVariables false

theorem own : ownKnob Try.prog.godebug = none := by kernel_rfl
theorem laidOut : laidOutB Try.prog = true := pf_laid
theorem typed : (Try.f27.params.toList.all fun t => Try.prog.readableRec t && decide (t < Try.prog.types.size)) = true := by kernel_rfl
theorem typed' : ∀ t ∈ Try.f27.params.toList, Try.prog.readableRec t = true ∧ t < Try.prog.types.size := by
  intro t ht
  have h := List.all_eq_true.1 typed t ht
  simpa using h
theorem ct30 : Try.prog.cellTypes Try.prog.depth 30 = some (List.replicate 2 2) := by kernel_rfl
theorem cn30 : Try.prog.cellsOf 30 = (List.replicate 2 2).length := by kernel_rfl
set_option maxRecDepth 100000 in
theorem lifted (os : Os) (started : os.Started) (H : Type) (enc : TypeId × Value → H) :
    ReturnsInHanded {} Try.checked os 27 .any (Rows.lineExactSpec.pre6 enc Try.prog Try.f27 Rows.lineExactRow.domain false) (Rows.lineExactSpec.post enc Try.prog Try.f27 false true false false) := by
  refine returnsInHanded_of_change (C := Try.checked) own started (by kernel_rfl) Try.func27
    (ChangeSpec.witness6 (enc := enc) (C := Try.checked) false ⟨#[], #[.agg #[.int .i64 0, .int .i64 0], .agg #[.int .i64 0, .int .i64 0], .agg #[.int .i64 0, .int .i64 0]], []⟩ 8 (by kernel_rfl) (by kernel_rfl) (by kernel_rfl) (by kernel_rfl)) ?_
  intro W base args ds gs before hval0 hW hcnd _
  have hval : ∀ (j : Nat) t v, Try.f27.params[j]? = some t → args[j]? = some v → Value.okWide Try.prog W .any base t v := hval0
  have hW' := hW
  obtain ⟨p, q, hA0, hV, rfl, hfz, hnd⟩ := hW
  have hlen := trodAll_length _ _ _ _ hA0
  rw [Try.params27] at hval hlen
  obtain ⟨v0, v1, v2, rfl⟩ := arr3 hlen.1
  obtain ⟨d0, d1, d2, rfl⟩ := list3 hlen.2
  obtain ⟨la, rfl, ea, hla⟩ := ok_ints (Or.inl ⟨_, Try.underlying30⟩) ct30 cn30 (fun u hu => by rw [List.eq_of_mem_replicate hu]; exact Try.underlying2) (hval 0 30 v0 rfl rfl)
  obtain ⟨a0, a1, rfl⟩ := list2 (ea.trans (by simp))
  have ha0 : I64 a0 := hla _ (by simp)
  have ha1 : I64 a1 := hla _ (by simp)
  obtain ⟨lb, rfl, eb, hlb⟩ := ok_ints (Or.inl ⟨_, Try.underlying30⟩) ct30 cn30 (fun u hu => by rw [List.eq_of_mem_replicate hu]; exact Try.underlying2) (hval 1 30 v1 rfl rfl)
  obtain ⟨b0, b1, rfl⟩ := list2 (eb.trans (by simp))
  have hb0 : I64 b0 := hlb _ (by simp)
  have hb1 : I64 b1 := hlb _ (by simp)
  obtain ⟨lp, rfl, ep, hlp⟩ := ok_ints (Or.inl ⟨_, Try.underlying30⟩) ct30 cn30 (fun u hu => by rw [List.eq_of_mem_replicate hu]; exact Try.underlying2) (hval 2 30 v2 rfl rfl)
  obtain ⟨p0, p1, rfl⟩ := list2 (ep.trans (by simp))
  have hp0 : I64 p0 := hlp _ (by simp)
  have hp1 : I64 p1 := hlp _ (by simp)
  refine (lineExact_walk a0 a1 b0 b1 p0 p1 ha0 ha1 hb0 hb1 hp0 hp1 W).mono fun e W' ⟨he, hb⟩ => ?_
  subst he
  exact ⟨_, rfl, law_post (f := Try.f27) (s := Rows.lineExactSpec) (tb := 4) laidOut typed' rfl (by kernel_rfl) Try.underlying4 hW' ⟨rfl, rfl, rfl⟩ hb⟩

theorem k0 : (Rows.lineExactRow.wf (OpenSpec.ofChange Rows.lineExactSpec)) = true := by kernel_rfl
theorem k3 : (Try.f27.params.all (Try.prog.readableRec ·)) = true := by kernel_rfl
theorem k4 : (namedTie Try.prog Rows.lineExactRow.named Rows.lineExactSpec.vars) = true := by kernel_rfl
theorem k5 : (Rows.lineExactRow.stops == []) = true := by kernel_rfl
theorem k7 : (Rows.lineExactRow.knobs == []) = true := by kernel_rfl
theorem k9 : (Rows.lineExactRow.inPlace == Try.prog.inPlace 27) = true := by kernel_rfl
theorem k10 : (Rows.lineExactRow.unfollowed == Try.prog.unfollowed 27) = true := by kernel_rfl
theorem k11 : (Rows.lineExactRow.recurses == Try.prog.recurses 27) = true := by kernel_rfl
theorem k12 : (Rows.lineExactRow.named == Try.prog.varsNamed 27) = true := by kernel_rfl
theorem k13 : (Rows.lineExactRow.maps == (Try.f27.params.toList ++ Rows.lineExactSpec.plain.varTypes Try.prog).any (Try.prog.mapsRec ·)) = true := by kernel_rfl
theorem k14 : (Rows.lineExactRow.ifaces == (Try.f27.params.toList ++ Rows.lineExactSpec.plain.varTypes Try.prog).any (Try.prog.ifacesRec ·)) = true := by kernel_rfl
theorem k15 : (Rows.lineExactRow.mapsOut == Try.prog.mapsAmong Try.f27.resultTypes.toList) = true := by kernel_rfl
theorem k16 : (Rows.lineExactRow.loops == (Try.f27.params.toList ++ Rows.lineExactSpec.plain.varTypes Try.prog).any (Try.prog.loopsFrom ·)) = true := by kernel_rfl
theorem k17 : (Rows.lineExactRow.wideKeys == (Try.f27.params.toList ++ Rows.lineExactSpec.plain.varTypes Try.prog ++ Try.f27.resultTypes.toList).any (Try.prog.wideKeysFrom ·)) = true := by kernel_rfl
theorem k18 : (Rows.lineExactSpec.vars.all (Try.prog.varReadable ·)) = true := by kernel_rfl
theorem k19 : (Try.f27.resultTypes.all (fun t => Try.prog.readableRec t && decide (t < Try.prog.types.size))) = true := by kernel_rfl
theorem k20 : (Rows.lineExactRow.ifacesOut == Try.f27.resultTypes.toList.any (Try.prog.ifacesRec ·)) = true := by kernel_rfl
theorem k21 : (Rows.lineExactRow.loopsOut == Try.f27.resultTypes.toList.any (Try.prog.loopsFrom ·)) = true := by kernel_rfl
theorem k22 : (Rows.lineExactRow.plainKeys == Try.prog.plainKeys) = true := by kernel_rfl
theorem k23 : (Rows.lineExactRow.shortTexts.isNone) = true := by kernel_rfl
theorem k26 : (Rows.lineExactRow.lifted == Try.prog.liftsFinal) = true := by rw [pf_lifts]; rfl
theorem k27 : (Try.prog.make == some Rows.lineExactRow.make) = true := by rw [pf_make]; rfl
theorem k28 : (Rows.lineExactRow.kinds == (if Rows.lineExactRow.domain.isEmpty then [] else Try.f27.params.toList.map fun t => match Try.prog.underlying t with | some (.int k) => some k | _ => none)) = true := by kernel_rfl
theorem k29 : (Rows.lineExactRow.pinned == Rows.lineExactRow.pinnedBy) = true := by kernel_rfl
theorem k30 : (Rows.lineExactRow.veiled == (Try.f27.params.toList ++ Rows.lineExactSpec.plain.varTypes Try.prog ++ Try.f27.resultTypes.toList).any (Try.prog.veiledRec ·)) = true := by kernel_rfl
theorem k31 : (Rows.lineExactRow.veiledFits Try.prog Try.f27.params.toList (Try.f27.params.toList ++ Rows.lineExactSpec.plain.varTypes Try.prog ++ Try.f27.resultTypes.toList)) = true := by kernel_rfl
set_option maxRecDepth 100000 in
theorem closed : joinedFacts Try.prog 27 Try.f27 Rows.lineExactSpec Rows.lineExactRow = true := (band (band (band (band (band (band (band (band (band (band (band (band (band (band (band (band (band (band (band (band (band (band (band (band (band (band (band (band (band (band (band k0 pf_laid) pf_maps) k3) k4) k5) pf_stops) k7) pf_knobs) k9) k10) k11) k12) k13) k14) k15) k16) k17) k18) k19) k20) k21) k22) k23) pf_heard) pf_enter) k26) k27) k28) k29) k30) k31)
theorem byName : Try.prog.funcNamed Rows.lineExactRow.func = some 27 := by kernel_rfl
theorem inst : Try.f27.isInstance Try.prog Rows.lineExactRow.origin Rows.lineExactRow.targs := of_decide_eq_true (by kernel_rfl)
theorem over : Rows.lineExactRow.holds Try.pinned (OpenSpec.ofChange Rows.lineExactSpec) :=
  OpenClaim.holds_of_wide 27 Try.f27 rfl rfl rfl rfl rfl rfl rfl ⟨rfl, rfl, rfl, rfl, rfl⟩ rfl rfl rfl rfl rfl byName Try.func27 closed
    inst (by unfold Func.isWrapper; rw [if_neg (of_decide_eq_false (by kernel_rfl))]; exact ⟨rfl, rfl⟩)
    (fun os started H enc _ => lifted os started H enc)

/-- The given statement. -/
theorem proved : Rows.LineExactSaid := over
end Go.Proofs.Ytijdehdghgmccaa.lineExact

