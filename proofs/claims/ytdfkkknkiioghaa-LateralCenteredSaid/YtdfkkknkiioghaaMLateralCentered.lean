/-
  The walk of the law LateralCentered.
-/
import Derived.Test.YtdfkkknkiioghaaMPatA
import Derived.Test.YtdfkkknkiioghaaMErr
import Derived.Test.YtdfkkknkiioghaaMBankR
import Derived.Test.YtdfkkknkiioghaaMCmd
import Derived.Test.YtdfkkknkiioghaaMCenter
import Derived.Test.YtdfkkknkiioghaaRows
import Derived.Test.YtdfkkknkiioghaaMFrame
import Derived.Test.YtdfkkknkiioghaaMPathIn
namespace Go.Proofs.Ytdfkkknkiioghaa
open Go.RowKit
set_option linter.unusedVariables false
set_option linter.unusedSimpArgs false
theorem bankV_one {v r : Int} {R : Int × Int} (h : BankP v r R) : 1 ≤ bankV R ∧ bankV R ≤ 3000 := by
  unfold bankV
  rcases h with ⟨h, n⟩ | ⟨i, f, h⟩ | ⟨i, e, b, f, g⟩
  · rw [h]; decide
  · rw [h]; decide
  · rw [if_pos e]; exact b
theorem command_zero (m : Int) : command 0 0 0 m = 0 := by
  unfold command
  rw [show clamp 0 (-3000) 3000 = 0 from rfl, show clamp 0 (-12000) 12000 = 0 from rfl, show clamp 0 (-64800000) 64800000 = 0 from rfl]
  have := clamp_bd m 0 3000 (by omega)
  simp
  unfold clamp at *
  omega
theorem command_bd (o a n m : Int) : -3000 ≤ command o a n m ∧ command o a n m ≤ 3000 := by
  have h := clamp_bd m 0 3000 (by omega)
  have h2 := clamp_bd (clamp n (-3000) 3000 + Int.tdiv (-(clamp o (-12000) 12000) * 1350 - clamp a (-64800000) 64800000) 7200) (-(clamp m 0 3000)) (clamp m 0 3000) (by omega)
  unfold command
  omega
set_option maxRecDepth 100000 in
set_option maxHeartbeats 8000000 in
theorem cent_bad (w : World) (S : Option Addr) (l : List El) (cap : Nat) (len t n0 n1 : Int) (h2 : l.length ≤ 9223372036854775807) (hp : Hid (pathAt w S l)) (hn0 : I64 n0) (hn1 : I64 n1) (X Y C E : Int) (hR : (X, Y, C, E) = patF l len t) (h : ¬ E = 0) :
    Calls Try.prog 8 #[.agg #[.slice S l.length cap, .int .i64 len], .int .i64 t, .agg #[.int .i64 n0, .int .i64 n1]] w fun e w' => e = .returned (.bool true) ∧ Below w.heap.size w w' := by
  have T : (E != 0) = true := bne_iff_ne.2 h
  have HR := hide hR
  clear hR
  go_enter Try.func8, Try.ntmps8
  go_wp2_with fail
  refine (awake50_any _).mono ?_
  rintro e w0 ⟨rfl, rfl⟩
  go_wp2_with fail
  refine (pat_any S l cap len t _ h2 (hide (pathAt_below (show Below w.heap.size w _ by (repeat (with_reducible (first | assumption | exact Below.refl _ _ | refine Below.drew ?_ | refine below_drewN ?_ _ | refine below_set ?_ (by simp; try omega) _ | refine below_alloc ?_ (Nat.le_refl _) _ | refine below_sub (by assumption) ?_)))) hp.out)) (X, Y, C, E) HR.out).mono ?_
  rintro e w1 ⟨rfl, hb1⟩
  obtain ⟨f1, f2, f3, f4⟩ : w1.cell? ⟨w.heap.size, 0, none⟩ = some (.slice S l.length cap) ∧ w1.cell? ⟨w.heap.size, 1, none⟩ = some (.int .i64 len) ∧ w1.cell? ⟨w.heap.size + 1, 0, none⟩ = some (.int .i64 n0) ∧ w1.cell? ⟨w.heap.size + 1, 1, none⟩ = some (.int .i64 n1) := by
    refine ⟨?_, ?_, ?_, ?_⟩ <;> (refine cell_below hb1 ?_; repeat (first | (with_reducible assumption) | ((with_reducible refine cell_set ?_ ?_ _); (· first | (simp; done) | (simp; omega) | omega)) | ((with_reducible refine cell_new ?_ ?_); (· (simp; done)); (· rfl)) | (with_reducible refine cell_alloc ?_ _) | (with_reducible refine cell_drew ?_) | (with_reducible refine cell_drewN ?_ _) | (with_reducible refine cell_below (by assumption) ?_)))
  have zf1 : w.heap.size < w1.heap.size := World.block_lt_of_cell? _ _ f1
  have zf3 : w.heap.size + 1 < w1.heap.size := World.block_lt_of_cell? _ _ f3
  go_wp2_with fail
  all_goals
    go_ret
    exact ⟨rfl, by (repeat (with_reducible (first | assumption | exact Below.refl _ _ | refine Below.drew ?_ | refine below_drewN ?_ _ | refine below_set ?_ (by simp; try omega) _ | refine below_alloc ?_ (Nat.le_refl _) _ | refine below_sub (by assumption) ?_)))⟩
set_option maxRecDepth 100000 in
set_option maxHeartbeats 8000000 in
theorem cent_good (w : World) (b o : Nat) (l : List El) (cap : Nat) (len t n0 n1 : Int) (h2 : l.length ≤ 9223372036854775807) (hp : Hid (pathAt w (some ⟨b, o, none⟩) l)) (hn0 : I64 n0) (hn1 : I64 n1) (X Y C : Int) (hR : (X, Y, C, (0 : Int)) = patF l len t) :
    Calls Try.prog 8 #[.agg #[.slice (some ⟨b, o, none⟩) l.length cap, .int .i64 len], .int .i64 t, .agg #[.int .i64 n0, .int .i64 n1]] w fun e w' => e = .returned (.bool true) ∧ Below w.heap.size w w' := by
  obtain ⟨hc, t0, t1, T, hT, hpt⟩ := pat_ok hR.symm
  have ok := okPath hc
  have eL := hide (fun j y (hy : l[j]? = some y) => chkF_L hc hy)
  have eV := hide (fun j y (hy : l[j]? = some y) => ok.err j y hy)
  have hlen := chk_len hc
  have HR := hide hR
  have HP := hide hpt
  have H0 : Hid (pickG (l.drop 0) (t - 0) = some T) := hide (by rw [Int.sub_zero]; exact hT)
  have l5 := ok.short
  clear hR hT hpt hc ok
  go_enter Try.func8, Try.ntmps8
  go_wp2_with fail
  refine (awake50_any _).mono ?_
  rintro e w0 ⟨rfl, rfl⟩
  go_wp2_with fail
  refine (pat_any (some ⟨b, o, none⟩) l cap len t _ h2 (hide (pathAt_below (show Below w.heap.size w _ by (repeat (with_reducible (first | assumption | exact Below.refl _ _ | refine Below.drew ?_ | refine below_drewN ?_ _ | refine below_set ?_ (by simp; try omega) _ | refine below_alloc ?_ (Nat.le_refl _) _ | refine below_sub (by assumption) ?_)))) hp.out)) (X, Y, C, 0) HR.out).mono ?_
  rintro e w1 ⟨rfl, hb1⟩
  obtain ⟨f1, f2, f3, f4⟩ : w1.cell? ⟨w.heap.size, 0, none⟩ = some (.slice (some ⟨b, o, none⟩) l.length cap) ∧ w1.cell? ⟨w.heap.size, 1, none⟩ = some (.int .i64 len) ∧ w1.cell? ⟨w.heap.size + 1, 0, none⟩ = some (.int .i64 n0) ∧ w1.cell? ⟨w.heap.size + 1, 1, none⟩ = some (.int .i64 n1) := by
    refine ⟨?_, ?_, ?_, ?_⟩ <;> (refine cell_below hb1 ?_; repeat (first | (with_reducible assumption) | ((with_reducible refine cell_set ?_ ?_ _); (· first | (simp; done) | (simp; omega) | omega)) | ((with_reducible refine cell_new ?_ ?_); (· (simp; done)); (· rfl)) | (with_reducible refine cell_alloc ?_ _) | (with_reducible refine cell_drew ?_) | (with_reducible refine cell_drewN ?_ _) | (with_reducible refine cell_below (by assumption) ?_)))
  have zf1 : w.heap.size < w1.heap.size := World.block_lt_of_cell? _ _ f1
  have zf3 : w.heap.size + 1 < w1.heap.size := World.block_lt_of_cell? _ _ f3
  go_wp2_with fail
  have zq : w1.heap.size < w1.heap.size + 1 := Nat.lt_succ_self _
  go_loopw [10, 34] (fun a i W => ∃ (k : Nat) (sm : Int), k ≤ l.length ∧ a = .int .i64 sm ∧ i = .int .i64 (k : Int) ∧ Hid (pickG (l.drop k) (t - sm) = some T) ∧ 0 ≤ t - sm ∧ 0 ≤ sm ∧ W.cell? ⟨w.heap.size, 0, none⟩ = some (.slice (some ⟨b, o, none⟩) l.length cap) ∧ W.cell? ⟨w.heap.size, 1, none⟩ = some (.int .i64 len) ∧ W.cell? ⟨w.heap.size + 1, 0, none⟩ = some (.int .i64 n0) ∧ W.cell? ⟨w.heap.size + 1, 1, none⟩ = some (.int .i64 n1) ∧ W.cell? ⟨w1.heap.size, 0, none⟩ = some (.int .i64 X) ∧ W.cell? ⟨w1.heap.size, 1, none⟩ = some (.int .i64 Y) ∧ Below w.heap.size w W) (fun a i _ => l.length - (intOf i).toNat)
  case atStart => exact ⟨0, 0, by omega, rfl, rfl, H0, by omega, by omega, by (repeat (first | (with_reducible assumption) | ((with_reducible refine cell_set ?_ ?_ _); (· first | (simp; done) | (simp; omega) | omega)) | ((with_reducible refine cell_new ?_ ?_); (· (simp; done)); (· rfl)) | (with_reducible refine cell_alloc ?_ _) | (with_reducible refine cell_drew ?_) | (with_reducible refine cell_drewN ?_ _) | (with_reducible refine cell_below (by assumption) ?_))), by (repeat (first | (with_reducible assumption) | ((with_reducible refine cell_set ?_ ?_ _); (· first | (simp; done) | (simp; omega) | omega)) | ((with_reducible refine cell_new ?_ ?_); (· (simp; done)); (· rfl)) | (with_reducible refine cell_alloc ?_ _) | (with_reducible refine cell_drew ?_) | (with_reducible refine cell_drewN ?_ _) | (with_reducible refine cell_below (by assumption) ?_))), by (repeat (first | (with_reducible assumption) | ((with_reducible refine cell_set ?_ ?_ _); (· first | (simp; done) | (simp; omega) | omega)) | ((with_reducible refine cell_new ?_ ?_); (· (simp; done)); (· rfl)) | (with_reducible refine cell_alloc ?_ _) | (with_reducible refine cell_drew ?_) | (with_reducible refine cell_drewN ?_ _) | (with_reducible refine cell_below (by assumption) ?_))), by (repeat (first | (with_reducible assumption) | ((with_reducible refine cell_set ?_ ?_ _); (· first | (simp; done) | (simp; omega) | omega)) | ((with_reducible refine cell_new ?_ ?_); (· (simp; done)); (· rfl)) | (with_reducible refine cell_alloc ?_ _) | (with_reducible refine cell_drew ?_) | (with_reducible refine cell_drewN ?_ _) | (with_reducible refine cell_below (by assumption) ?_))), by (repeat (first | (with_reducible assumption) | ((with_reducible refine cell_set ?_ ?_ _); (· first | (simp; done) | (simp; omega) | omega)) | ((with_reducible refine cell_new ?_ ?_); (· (simp; done)); (· rfl)) | (with_reducible refine cell_alloc ?_ _) | (with_reducible refine cell_drew ?_) | (with_reducible refine cell_drewN ?_ _) | (with_reducible refine cell_below (by assumption) ?_))), by (repeat (first | (with_reducible assumption) | ((with_reducible refine cell_set ?_ ?_ _); (· first | (simp; done) | (simp; omega) | omega)) | ((with_reducible refine cell_new ?_ ?_); (· (simp; done)); (· rfl)) | (with_reducible refine cell_alloc ?_ _) | (with_reducible refine cell_drew ?_) | (with_reducible refine cell_drewN ?_ _) | (with_reducible refine cell_below (by assumption) ?_))), by (repeat (with_reducible (first | assumption | exact Below.refl _ _ | refine Below.drew ?_ | refine below_drewN ?_ _ | refine below_set ?_ (by simp; try omega) _ | refine below_alloc ?_ (Nat.le_refl _) _ | refine below_sub (by assumption) ?_)))⟩
  case round =>
    obtain ⟨k, sm, hk0, rfl, rfl, G, q0, s0, p0, p1, e0, e1, x0, x1, K⟩ := hrel
    have hk : k < l.length := by
      rcases Nat.lt_or_ge k l.length with h | h
      · exact h
      · have := G.out
        rw [pickG_none h] at this
        cases this
    obtain ⟨x, hx⟩ : ∃ x, l[k]? = some x := ⟨_, List.getElem?_eq_getElem hk⟩
    have hG := G.out
    rw [pickG_at hx] at hG
    have xL := eL.out k x hx
    have xE := eV.out k x hx
    have hat := pathAt_get (pathAt_below K hp.out) hx
    clear hx G
    obtain ⟨c, ax, ay, bx, b_y, cx, cy, r, f, s, L, n, g⟩ := x
    dsimp only at hG xL
    have c0 : wr.cell? ⟨b, o + k * 13, none⟩ = some (.bool c) := hat.1
    have c1 : wr.cell? ⟨b, o + k * 13 + 1, none⟩ = some (.int .i64 ax) := hat.2.1
    have c2 : wr.cell? ⟨b, o + k * 13 + 2, none⟩ = some (.int .i64 ay) := hat.2.2.1
    have c3 : wr.cell? ⟨b, o + k * 13 + 3, none⟩ = some (.int .i64 bx) := hat.2.2.2.1
    have c4 : wr.cell? ⟨b, o + k * 13 + 4, none⟩ = some (.int .i64 b_y) := hat.2.2.2.2.1
    have c5 : wr.cell? ⟨b, o + k * 13 + 5, none⟩ = some (.int .i64 cx) := hat.2.2.2.2.2.1
    have c6 : wr.cell? ⟨b, o + k * 13 + 6, none⟩ = some (.int .i64 cy) := hat.2.2.2.2.2.2.1
    have c7 : wr.cell? ⟨b, o + k * 13 + 7, none⟩ = some (.int .i64 r) := hat.2.2.2.2.2.2.2.1
    have c8 : wr.cell? ⟨b, o + k * 13 + 8, none⟩ = some (.int .i64 f) := hat.2.2.2.2.2.2.2.2.1
    have c9 : wr.cell? ⟨b, o + k * 13 + 9, none⟩ = some (.int .i64 s) := hat.2.2.2.2.2.2.2.2.2.1
    have c10 : wr.cell? ⟨b, o + k * 13 + 10, none⟩ = some (.int .i64 L) := hat.2.2.2.2.2.2.2.2.2.2.1
    have c11 : wr.cell? ⟨b, o + k * 13 + 11, none⟩ = some (.int .i64 n) := hat.2.2.2.2.2.2.2.2.2.2.2.1
    have c12 : wr.cell? ⟨b, o + k * 13 + 12, none⟩ = some (.bool g) := hat.2.2.2.2.2.2.2.2.2.2.2.2
    clear hat
    have zc : b < wr.heap.size := World.block_lt_of_cell? _ _ c0
    have zp : w.heap.size < wr.heap.size := World.block_lt_of_cell? _ _ p0
    have ze : w.heap.size + 1 < wr.heap.size := World.block_lt_of_cell? _ _ e0
    have zx : w1.heap.size < wr.heap.size := World.block_lt_of_cell? _ _ x0
    by_cases hs : sm + L < t
    · rw [if_pos (by omega)] at hG
      have G2 := hide hG
      clear hG xE
      go_wp2_with fail
      go_roundw
      case rel => exact ⟨k + 1, sm + L, by omega, by go_num, by go_num, hide (by rw [show t - (sm + L) = t - sm - L from by omega]; exact G2.out), by omega, by omega, by (repeat (first | (with_reducible assumption) | ((with_reducible refine cell_set ?_ ?_ _); (· first | (simp; done) | (simp; omega) | omega)) | ((with_reducible refine cell_new ?_ ?_); (· (simp; done)); (· rfl)) | (with_reducible refine cell_alloc ?_ _) | (with_reducible refine cell_drew ?_) | (with_reducible refine cell_drewN ?_ _) | (with_reducible refine cell_below (by assumption) ?_))), by (repeat (first | (with_reducible assumption) | ((with_reducible refine cell_set ?_ ?_ _); (· first | (simp; done) | (simp; omega) | omega)) | ((with_reducible refine cell_new ?_ ?_); (· (simp; done)); (· rfl)) | (with_reducible refine cell_alloc ?_ _) | (with_reducible refine cell_drew ?_) | (with_reducible refine cell_drewN ?_ _) | (with_reducible refine cell_below (by assumption) ?_))), by (repeat (first | (with_reducible assumption) | ((with_reducible refine cell_set ?_ ?_ _); (· first | (simp; done) | (simp; omega) | omega)) | ((with_reducible refine cell_new ?_ ?_); (· (simp; done)); (· rfl)) | (with_reducible refine cell_alloc ?_ _) | (with_reducible refine cell_drew ?_) | (with_reducible refine cell_drewN ?_ _) | (with_reducible refine cell_below (by assumption) ?_))), by (repeat (first | (with_reducible assumption) | ((with_reducible refine cell_set ?_ ?_ _); (· first | (simp; done) | (simp; omega) | omega)) | ((with_reducible refine cell_new ?_ ?_); (· (simp; done)); (· rfl)) | (with_reducible refine cell_alloc ?_ _) | (with_reducible refine cell_drew ?_) | (with_reducible refine cell_drewN ?_ _) | (with_reducible refine cell_below (by assumption) ?_))), by (repeat (first | (with_reducible assumption) | ((with_reducible refine cell_set ?_ ?_ _); (· first | (simp; done) | (simp; omega) | omega)) | ((with_reducible refine cell_new ?_ ?_); (· (simp; done)); (· rfl)) | (with_reducible refine cell_alloc ?_ _) | (with_reducible refine cell_drew ?_) | (with_reducible refine cell_drewN ?_ _) | (with_reducible refine cell_below (by assumption) ?_))), by (repeat (first | (with_reducible assumption) | ((with_reducible refine cell_set ?_ ?_ _); (· first | (simp; done) | (simp; omega) | omega)) | ((with_reducible refine cell_new ?_ ?_); (· (simp; done)); (· rfl)) | (with_reducible refine cell_alloc ?_ _) | (with_reducible refine cell_drew ?_) | (with_reducible refine cell_drewN ?_ _) | (with_reducible refine cell_below (by assumption) ?_))), by (repeat (with_reducible (first | assumption | exact Below.refl _ _ | refine Below.drew ?_ | refine below_drewN ?_ _ | refine below_set ?_ (by simp; try omega) _ | refine below_alloc ?_ (Nat.le_refl _) _ | refine below_sub (by assumption) ?_)))⟩
      case measure => simp [intOf]; omega
    · rw [if_neg (by omega)] at hG
      obtain rfl : ((⟨c, ax, ay, bx, b_y, cx, cy, r, f, s, L, n, g⟩ : El), t - sm) = T := by injection hG
      have hv := xE
      unfold El.err at hv
      dsimp only at hv
      have hpt := HP.out
      dsimp only at hpt
      clear hG xE HP H0
      have hsp : I64 (max (min n0 500) 60) := by unfold I64 at *; omega
      have hCb : I64 C := by
        rcases c with _ | _
        · have h5 := (pt_line hpt).2.2
          have h6 := courseF_bd ax ay bx b_y
          rw [h5] at h6
          unfold I64; dsimp only at h6; omega
        · have h5 := arcAt_cbd (pt_arc hpt)
          unfold I64; omega
      rcases c with _ | _
      · skip
        obtain ⟨R, hBR⟩ := bank_ex (max (min n0 500) 60) r
        obtain ⟨T, hT⟩ : ∃ T, T = errF false ax ay bx b_y cx cy r f s L X Y C (max (min n0 500) 60) R := ⟨_, rfl⟩
        have hr64 : I64 r := by rw [(elem_zero hv).1]; unfold I64; omega
        have EW := fun W => errw_any false g ax ay bx b_y cx cy r f s L n X Y C (max (min n0 500) 60) hCb hsp hr64 W R hBR T hT
        have hd := center_line hv q0 (by omega) hpt hT
        clear hT hpt hBR hv
        obtain ⟨t1', t2', t3', t4'⟩ := T
        by_cases hE : t4' = 0
        · obtain ⟨rfl, rfl, rfl, rfl⟩ : t1' = 0 ∧ t2' = 0 ∧ t3' = 0 ∧ t4' = 0 := by
            rcases hd with h | h
            · exact absurd hE h
            · simpa using h
          clear hd hE
          go_wp2_with fail
          refine (EW _).mono ?_
          rintro e w7 ⟨rfl, hb7⟩
          obtain ⟨f61, f62, f63, f64, f65, f66, f67, f68, f69, f70, f71, f72, f73, f74, f75⟩ : w7.cell? ⟨w.heap.size + 1, 0, none⟩ = some (.int .i64 n0) ∧ w7.cell? ⟨w.heap.size + 1, 1, none⟩ = some (.int .i64 n1) ∧ w7.cell? ⟨wr.heap.size, 0, none⟩ = some (.bool false) ∧ w7.cell? ⟨wr.heap.size, 1, none⟩ = some (.int .i64 ax) ∧ w7.cell? ⟨wr.heap.size, 2, none⟩ = some (.int .i64 ay) ∧ w7.cell? ⟨wr.heap.size, 3, none⟩ = some (.int .i64 bx) ∧ w7.cell? ⟨wr.heap.size, 4, none⟩ = some (.int .i64 b_y) ∧ w7.cell? ⟨wr.heap.size, 5, none⟩ = some (.int .i64 cx) ∧ w7.cell? ⟨wr.heap.size, 6, none⟩ = some (.int .i64 cy) ∧ w7.cell? ⟨wr.heap.size, 7, none⟩ = some (.int .i64 r) ∧ w7.cell? ⟨wr.heap.size, 8, none⟩ = some (.int .i64 f) ∧ w7.cell? ⟨wr.heap.size, 9, none⟩ = some (.int .i64 s) ∧ w7.cell? ⟨wr.heap.size, 10, none⟩ = some (.int .i64 L) ∧ w7.cell? ⟨wr.heap.size, 11, none⟩ = some (.int .i64 n) ∧ w7.cell? ⟨wr.heap.size, 12, none⟩ = some (.bool g) := by
            refine ⟨?_, ?_, ?_, ?_, ?_, ?_, ?_, ?_, ?_, ?_, ?_, ?_, ?_, ?_, ?_⟩ <;> (refine cell_below hb7 ?_; repeat (first | (with_reducible assumption) | ((with_reducible refine cell_set ?_ ?_ _); (· first | (simp; done) | (simp; omega) | omega)) | ((with_reducible refine cell_new ?_ ?_); (· (simp; done)); (· rfl)) | (with_reducible refine cell_alloc ?_ _) | (with_reducible refine cell_drew ?_) | (with_reducible refine cell_drewN ?_ _) | (with_reducible refine cell_below (by assumption) ?_)))
          have zf61 : w.heap.size + 1 < w7.heap.size := World.block_lt_of_cell? _ _ f61
          have zf63 : wr.heap.size < w7.heap.size := World.block_lt_of_cell? _ _ f63
          clear e0 e1
          have hw : max (min 0 n1) (-(max n1 0)) = 0 := by omega
          have hI : -9223372036854775808 ≤ -(max n1 0) ∧ -(max n1 0) ≤ 9223372036854775807 := by unfold I64 at hn1; omega
          by_cases hn : n1 ≤ 0
          · skip
            go_wp2_with fail
            refine (command_any 0 0 0 n1 _).mono ?_
            rintro e wz ⟨rfl, rfl⟩
            rw [command_zero]
            go_wp2_with fail
            all_goals
              go_ret
              exact ⟨rfl, by (repeat (with_reducible (first | assumption | exact Below.refl _ _ | refine Below.drew ?_ | refine below_drewN ?_ _ | refine below_set ?_ (by simp; try omega) _ | refine below_alloc ?_ (Nat.le_refl _) _ | refine below_sub (by assumption) ?_)))⟩
          · skip
            go_wp2_with fail
            refine (command_any 0 0 0 n1 _).mono ?_
            rintro e wz ⟨rfl, rfl⟩
            rw [command_zero]
            go_wp2_with fail
            all_goals
              go_ret
              exact ⟨rfl, by (repeat (with_reducible (first | assumption | exact Below.refl _ _ | refine Below.drew ?_ | refine below_drewN ?_ _ | refine below_set ?_ (by simp; try omega) _ | refine below_alloc ?_ (Nat.le_refl _) _ | refine below_sub (by assumption) ?_)))⟩
        · have TE : (t4' != 0) = true := bne_iff_ne.2 hE
          go_wp2_with fail
          refine (EW _).mono ?_
          rintro e w7 ⟨rfl, hb7⟩
          obtain ⟨f91, f92, f93, f94, f95, f96, f97, f98, f99, f100, f101, f102, f103, f104, f105⟩ : w7.cell? ⟨w.heap.size + 1, 0, none⟩ = some (.int .i64 n0) ∧ w7.cell? ⟨w.heap.size + 1, 1, none⟩ = some (.int .i64 n1) ∧ w7.cell? ⟨wr.heap.size, 0, none⟩ = some (.bool false) ∧ w7.cell? ⟨wr.heap.size, 1, none⟩ = some (.int .i64 ax) ∧ w7.cell? ⟨wr.heap.size, 2, none⟩ = some (.int .i64 ay) ∧ w7.cell? ⟨wr.heap.size, 3, none⟩ = some (.int .i64 bx) ∧ w7.cell? ⟨wr.heap.size, 4, none⟩ = some (.int .i64 b_y) ∧ w7.cell? ⟨wr.heap.size, 5, none⟩ = some (.int .i64 cx) ∧ w7.cell? ⟨wr.heap.size, 6, none⟩ = some (.int .i64 cy) ∧ w7.cell? ⟨wr.heap.size, 7, none⟩ = some (.int .i64 r) ∧ w7.cell? ⟨wr.heap.size, 8, none⟩ = some (.int .i64 f) ∧ w7.cell? ⟨wr.heap.size, 9, none⟩ = some (.int .i64 s) ∧ w7.cell? ⟨wr.heap.size, 10, none⟩ = some (.int .i64 L) ∧ w7.cell? ⟨wr.heap.size, 11, none⟩ = some (.int .i64 n) ∧ w7.cell? ⟨wr.heap.size, 12, none⟩ = some (.bool g) := by
            refine ⟨?_, ?_, ?_, ?_, ?_, ?_, ?_, ?_, ?_, ?_, ?_, ?_, ?_, ?_, ?_⟩ <;> (refine cell_below hb7 ?_; repeat (first | (with_reducible assumption) | ((with_reducible refine cell_set ?_ ?_ _); (· first | (simp; done) | (simp; omega) | omega)) | ((with_reducible refine cell_new ?_ ?_); (· (simp; done)); (· rfl)) | (with_reducible refine cell_alloc ?_ _) | (with_reducible refine cell_drew ?_) | (with_reducible refine cell_drewN ?_ _) | (with_reducible refine cell_below (by assumption) ?_)))
          have zf91 : w.heap.size + 1 < w7.heap.size := World.block_lt_of_cell? _ _ f91
          have zf93 : wr.heap.size < w7.heap.size := World.block_lt_of_cell? _ _ f93
          clear e0 e1
          go_wp2_with fail
          all_goals
            go_ret
            exact ⟨rfl, by (repeat (with_reducible (first | assumption | exact Below.refl _ _ | refine Below.drew ?_ | refine below_drewN ?_ _ | refine below_set ?_ (by simp; try omega) _ | refine below_alloc ?_ (Nat.le_refl _) _ | refine below_sub (by assumption) ?_)))⟩
      · skip
        obtain ⟨R, hBR⟩ := bank_ex (max (min n0 500) 60) r
        obtain ⟨T, hT⟩ : ∃ T, T = errF true ax ay bx b_y cx cy r f s L X Y C (max (min n0 500) 60) R := ⟨_, rfl⟩
        have hr64 : I64 r := by have := ((arcB_iff cx cy r f s).1 (elem_arcB hv)).2; unfold I64; omega
        have EW := fun W => errw_any true g ax ay bx b_y cx cy r f s L n X Y C (max (min n0 500) 60) hCb hsp hr64 W R hBR T hT
        have hd := center_arc (bankV_one hBR) hpt hT
        clear hT hpt hBR hv
        obtain ⟨t1', t2', t3', t4'⟩ := T
        dsimp only at hd
        by_cases hr : r < 1000
        · skip
          go_wp2_with fail
          all_goals
            go_ret
            exact ⟨rfl, by (repeat (with_reducible (first | assumption | exact Below.refl _ _ | refine Below.drew ?_ | refine below_drewN ?_ _ | refine below_set ?_ (by simp; try omega) _ | refine below_alloc ?_ (Nat.le_refl _) _ | refine below_sub (by assumption) ?_)))⟩
        · skip
          by_cases hE : t4' = 0
          · skip
            subst hE
            have hd2 := hd.resolve_left (by simp)
            obtain ⟨_, ⟨d1, d2⟩, ⟨d3, d4⟩, hB, hs1, hs2⟩ := hd2
            have TV := fun W => tvalid_any cx cy r f s W
            rw [hB] at TV
            clear hd hB
            go_wp2_with fail
            refine (EW _).mono ?_
            rintro e w7 ⟨rfl, hb7⟩
            obtain ⟨f61, f62, f63, f64, f65, f66, f67, f68, f69, f70, f71, f72, f73, f74, f75⟩ : w7.cell? ⟨w.heap.size + 1, 0, none⟩ = some (.int .i64 n0) ∧ w7.cell? ⟨w.heap.size + 1, 1, none⟩ = some (.int .i64 n1) ∧ w7.cell? ⟨wr.heap.size, 0, none⟩ = some (.bool true) ∧ w7.cell? ⟨wr.heap.size, 1, none⟩ = some (.int .i64 ax) ∧ w7.cell? ⟨wr.heap.size, 2, none⟩ = some (.int .i64 ay) ∧ w7.cell? ⟨wr.heap.size, 3, none⟩ = some (.int .i64 bx) ∧ w7.cell? ⟨wr.heap.size, 4, none⟩ = some (.int .i64 b_y) ∧ w7.cell? ⟨wr.heap.size, 5, none⟩ = some (.int .i64 cx) ∧ w7.cell? ⟨wr.heap.size, 6, none⟩ = some (.int .i64 cy) ∧ w7.cell? ⟨wr.heap.size, 7, none⟩ = some (.int .i64 r) ∧ w7.cell? ⟨wr.heap.size, 8, none⟩ = some (.int .i64 f) ∧ w7.cell? ⟨wr.heap.size, 9, none⟩ = some (.int .i64 s) ∧ w7.cell? ⟨wr.heap.size, 10, none⟩ = some (.int .i64 L) ∧ w7.cell? ⟨wr.heap.size, 11, none⟩ = some (.int .i64 n) ∧ w7.cell? ⟨wr.heap.size, 12, none⟩ = some (.bool g) := by
              refine ⟨?_, ?_, ?_, ?_, ?_, ?_, ?_, ?_, ?_, ?_, ?_, ?_, ?_, ?_, ?_⟩ <;> (refine cell_below hb7 ?_; repeat (first | (with_reducible assumption) | ((with_reducible refine cell_set ?_ ?_ _); (· first | (simp; done) | (simp; omega) | omega)) | ((with_reducible refine cell_new ?_ ?_); (· (simp; done)); (· rfl)) | (with_reducible refine cell_alloc ?_ _) | (with_reducible refine cell_drew ?_) | (with_reducible refine cell_drewN ?_ _) | (with_reducible refine cell_below (by assumption) ?_)))
            have zf61 : w.heap.size + 1 < w7.heap.size := World.block_lt_of_cell? _ _ f61
            have zf63 : wr.heap.size < w7.heap.size := World.block_lt_of_cell? _ _ f63
            clear e0 e1
            have hI : -9223372036854775808 ≤ -(max n1 0) ∧ -(max n1 0) ≤ 9223372036854775807 := by unfold I64 at hn1; omega
            have hcb := command_bd t1' t2' t3' n1
            by_cases hn : n1 ≤ 0
            · skip
              go_wp2_with fail
              refine (command_any t1' t2' t3' n1 _).mono ?_
              rintro e wz ⟨rfl, rfl⟩
              generalize command t1' t2' t3' n1 = cm at *
              by_cases hs0 : s < 0
              · skip
                obtain ⟨d5, d6⟩ := hs1 hs0
                clear hs1 hs2
                go_wp2_with fail
                refine (TV _).mono ?_
                rintro e w10 ⟨rfl, hb10⟩
                obtain ⟨f76, f77, f78, f79, f80, f81, f82, f83, f84, f85, f86, f87, f88, f89, f90⟩ : w10.cell? ⟨w.heap.size + 1, 0, none⟩ = some (.int .i64 n0) ∧ w10.cell? ⟨w.heap.size + 1, 1, none⟩ = some (.int .i64 n1) ∧ w10.cell? ⟨wr.heap.size, 0, none⟩ = some (.bool true) ∧ w10.cell? ⟨wr.heap.size, 1, none⟩ = some (.int .i64 ax) ∧ w10.cell? ⟨wr.heap.size, 2, none⟩ = some (.int .i64 ay) ∧ w10.cell? ⟨wr.heap.size, 3, none⟩ = some (.int .i64 bx) ∧ w10.cell? ⟨wr.heap.size, 4, none⟩ = some (.int .i64 b_y) ∧ w10.cell? ⟨wr.heap.size, 5, none⟩ = some (.int .i64 cx) ∧ w10.cell? ⟨wr.heap.size, 6, none⟩ = some (.int .i64 cy) ∧ w10.cell? ⟨wr.heap.size, 7, none⟩ = some (.int .i64 r) ∧ w10.cell? ⟨wr.heap.size, 8, none⟩ = some (.int .i64 f) ∧ w10.cell? ⟨wr.heap.size, 9, none⟩ = some (.int .i64 s) ∧ w10.cell? ⟨wr.heap.size, 10, none⟩ = some (.int .i64 L) ∧ w10.cell? ⟨wr.heap.size, 11, none⟩ = some (.int .i64 n) ∧ w10.cell? ⟨wr.heap.size, 12, none⟩ = some (.bool g) := by
                  refine ⟨?_, ?_, ?_, ?_, ?_, ?_, ?_, ?_, ?_, ?_, ?_, ?_, ?_, ?_, ?_⟩ <;> (refine cell_below hb10 ?_; repeat (first | (with_reducible assumption) | ((with_reducible refine cell_set ?_ ?_ _); (· first | (simp; done) | (simp; omega) | omega)) | ((with_reducible refine cell_new ?_ ?_); (· (simp; done)); (· rfl)) | (with_reducible refine cell_alloc ?_ _) | (with_reducible refine cell_drew ?_) | (with_reducible refine cell_drewN ?_ _) | (with_reducible refine cell_below (by assumption) ?_)))
                have zf76 : w.heap.size + 1 < w10.heap.size := World.block_lt_of_cell? _ _ f76
                have zf78 : wr.heap.size < w10.heap.size := World.block_lt_of_cell? _ _ f78
                clear f61 zf61 f62 f63 zf63 f64 f65 f66 f67 f68 f69 f70 f71 f72 f73 f74 f75
                go_wp2_with fail
                all_goals
                  go_ret
                  exact ⟨rfl, by (repeat (with_reducible (first | assumption | exact Below.refl _ _ | refine Below.drew ?_ | refine below_drewN ?_ _ | refine below_set ?_ (by simp; try omega) _ | refine below_alloc ?_ (Nat.le_refl _) _ | refine below_sub (by assumption) ?_)))⟩
              · skip
                obtain ⟨d5, d6⟩ := hs2 (by omega)
                have d7 : -3000 ≤ t3' := by omega
                clear hs1 hs2
                go_wp2_with fail
                refine (TV _).mono ?_
                rintro e w10 ⟨rfl, hb10⟩
                obtain ⟨f76, f77, f78, f79, f80, f81, f82, f83, f84, f85, f86, f87, f88, f89, f90⟩ : w10.cell? ⟨w.heap.size + 1, 0, none⟩ = some (.int .i64 n0) ∧ w10.cell? ⟨w.heap.size + 1, 1, none⟩ = some (.int .i64 n1) ∧ w10.cell? ⟨wr.heap.size, 0, none⟩ = some (.bool true) ∧ w10.cell? ⟨wr.heap.size, 1, none⟩ = some (.int .i64 ax) ∧ w10.cell? ⟨wr.heap.size, 2, none⟩ = some (.int .i64 ay) ∧ w10.cell? ⟨wr.heap.size, 3, none⟩ = some (.int .i64 bx) ∧ w10.cell? ⟨wr.heap.size, 4, none⟩ = some (.int .i64 b_y) ∧ w10.cell? ⟨wr.heap.size, 5, none⟩ = some (.int .i64 cx) ∧ w10.cell? ⟨wr.heap.size, 6, none⟩ = some (.int .i64 cy) ∧ w10.cell? ⟨wr.heap.size, 7, none⟩ = some (.int .i64 r) ∧ w10.cell? ⟨wr.heap.size, 8, none⟩ = some (.int .i64 f) ∧ w10.cell? ⟨wr.heap.size, 9, none⟩ = some (.int .i64 s) ∧ w10.cell? ⟨wr.heap.size, 10, none⟩ = some (.int .i64 L) ∧ w10.cell? ⟨wr.heap.size, 11, none⟩ = some (.int .i64 n) ∧ w10.cell? ⟨wr.heap.size, 12, none⟩ = some (.bool g) := by
                  refine ⟨?_, ?_, ?_, ?_, ?_, ?_, ?_, ?_, ?_, ?_, ?_, ?_, ?_, ?_, ?_⟩ <;> (refine cell_below hb10 ?_; repeat (first | (with_reducible assumption) | ((with_reducible refine cell_set ?_ ?_ _); (· first | (simp; done) | (simp; omega) | omega)) | ((with_reducible refine cell_new ?_ ?_); (· (simp; done)); (· rfl)) | (with_reducible refine cell_alloc ?_ _) | (with_reducible refine cell_drew ?_) | (with_reducible refine cell_drewN ?_ _) | (with_reducible refine cell_below (by assumption) ?_)))
                have zf76 : w.heap.size + 1 < w10.heap.size := World.block_lt_of_cell? _ _ f76
                have zf78 : wr.heap.size < w10.heap.size := World.block_lt_of_cell? _ _ f78
                clear f61 zf61 f62 f63 zf63 f64 f65 f66 f67 f68 f69 f70 f71 f72 f73 f74 f75
                go_wp2_with fail
                all_goals
                  go_ret
                  exact ⟨rfl, by (repeat (with_reducible (first | assumption | exact Below.refl _ _ | refine Below.drew ?_ | refine below_drewN ?_ _ | refine below_set ?_ (by simp; try omega) _ | refine below_alloc ?_ (Nat.le_refl _) _ | refine below_sub (by assumption) ?_)))⟩
            · skip
              go_wp2_with fail
              refine (command_any t1' t2' t3' n1 _).mono ?_
              rintro e wz ⟨rfl, rfl⟩
              generalize command t1' t2' t3' n1 = cm at *
              by_cases hs0 : s < 0
              · skip
                obtain ⟨d5, d6⟩ := hs1 hs0
                clear hs1 hs2
                go_wp2_with fail
                refine (TV _).mono ?_
                rintro e w10 ⟨rfl, hb10⟩
                obtain ⟨f76, f77, f78, f79, f80, f81, f82, f83, f84, f85, f86, f87, f88, f89, f90⟩ : w10.cell? ⟨w.heap.size + 1, 0, none⟩ = some (.int .i64 n0) ∧ w10.cell? ⟨w.heap.size + 1, 1, none⟩ = some (.int .i64 n1) ∧ w10.cell? ⟨wr.heap.size, 0, none⟩ = some (.bool true) ∧ w10.cell? ⟨wr.heap.size, 1, none⟩ = some (.int .i64 ax) ∧ w10.cell? ⟨wr.heap.size, 2, none⟩ = some (.int .i64 ay) ∧ w10.cell? ⟨wr.heap.size, 3, none⟩ = some (.int .i64 bx) ∧ w10.cell? ⟨wr.heap.size, 4, none⟩ = some (.int .i64 b_y) ∧ w10.cell? ⟨wr.heap.size, 5, none⟩ = some (.int .i64 cx) ∧ w10.cell? ⟨wr.heap.size, 6, none⟩ = some (.int .i64 cy) ∧ w10.cell? ⟨wr.heap.size, 7, none⟩ = some (.int .i64 r) ∧ w10.cell? ⟨wr.heap.size, 8, none⟩ = some (.int .i64 f) ∧ w10.cell? ⟨wr.heap.size, 9, none⟩ = some (.int .i64 s) ∧ w10.cell? ⟨wr.heap.size, 10, none⟩ = some (.int .i64 L) ∧ w10.cell? ⟨wr.heap.size, 11, none⟩ = some (.int .i64 n) ∧ w10.cell? ⟨wr.heap.size, 12, none⟩ = some (.bool g) := by
                  refine ⟨?_, ?_, ?_, ?_, ?_, ?_, ?_, ?_, ?_, ?_, ?_, ?_, ?_, ?_, ?_⟩ <;> (refine cell_below hb10 ?_; repeat (first | (with_reducible assumption) | ((with_reducible refine cell_set ?_ ?_ _); (· first | (simp; done) | (simp; omega) | omega)) | ((with_reducible refine cell_new ?_ ?_); (· (simp; done)); (· rfl)) | (with_reducible refine cell_alloc ?_ _) | (with_reducible refine cell_drew ?_) | (with_reducible refine cell_drewN ?_ _) | (with_reducible refine cell_below (by assumption) ?_)))
                have zf76 : w.heap.size + 1 < w10.heap.size := World.block_lt_of_cell? _ _ f76
                have zf78 : wr.heap.size < w10.heap.size := World.block_lt_of_cell? _ _ f78
                clear f61 zf61 f62 f63 zf63 f64 f65 f66 f67 f68 f69 f70 f71 f72 f73 f74 f75
                go_wp2_with fail
                all_goals
                  go_ret
                  exact ⟨rfl, by (repeat (with_reducible (first | assumption | exact Below.refl _ _ | refine Below.drew ?_ | refine below_drewN ?_ _ | refine below_set ?_ (by simp; try omega) _ | refine below_alloc ?_ (Nat.le_refl _) _ | refine below_sub (by assumption) ?_)))⟩
              · skip
                obtain ⟨d5, d6⟩ := hs2 (by omega)
                have d7 : -3000 ≤ t3' := by omega
                clear hs1 hs2
                go_wp2_with fail
                refine (TV _).mono ?_
                rintro e w10 ⟨rfl, hb10⟩
                obtain ⟨f76, f77, f78, f79, f80, f81, f82, f83, f84, f85, f86, f87, f88, f89, f90⟩ : w10.cell? ⟨w.heap.size + 1, 0, none⟩ = some (.int .i64 n0) ∧ w10.cell? ⟨w.heap.size + 1, 1, none⟩ = some (.int .i64 n1) ∧ w10.cell? ⟨wr.heap.size, 0, none⟩ = some (.bool true) ∧ w10.cell? ⟨wr.heap.size, 1, none⟩ = some (.int .i64 ax) ∧ w10.cell? ⟨wr.heap.size, 2, none⟩ = some (.int .i64 ay) ∧ w10.cell? ⟨wr.heap.size, 3, none⟩ = some (.int .i64 bx) ∧ w10.cell? ⟨wr.heap.size, 4, none⟩ = some (.int .i64 b_y) ∧ w10.cell? ⟨wr.heap.size, 5, none⟩ = some (.int .i64 cx) ∧ w10.cell? ⟨wr.heap.size, 6, none⟩ = some (.int .i64 cy) ∧ w10.cell? ⟨wr.heap.size, 7, none⟩ = some (.int .i64 r) ∧ w10.cell? ⟨wr.heap.size, 8, none⟩ = some (.int .i64 f) ∧ w10.cell? ⟨wr.heap.size, 9, none⟩ = some (.int .i64 s) ∧ w10.cell? ⟨wr.heap.size, 10, none⟩ = some (.int .i64 L) ∧ w10.cell? ⟨wr.heap.size, 11, none⟩ = some (.int .i64 n) ∧ w10.cell? ⟨wr.heap.size, 12, none⟩ = some (.bool g) := by
                  refine ⟨?_, ?_, ?_, ?_, ?_, ?_, ?_, ?_, ?_, ?_, ?_, ?_, ?_, ?_, ?_⟩ <;> (refine cell_below hb10 ?_; repeat (first | (with_reducible assumption) | ((with_reducible refine cell_set ?_ ?_ _); (· first | (simp; done) | (simp; omega) | omega)) | ((with_reducible refine cell_new ?_ ?_); (· (simp; done)); (· rfl)) | (with_reducible refine cell_alloc ?_ _) | (with_reducible refine cell_drew ?_) | (with_reducible refine cell_drewN ?_ _) | (with_reducible refine cell_below (by assumption) ?_)))
                have zf76 : w.heap.size + 1 < w10.heap.size := World.block_lt_of_cell? _ _ f76
                have zf78 : wr.heap.size < w10.heap.size := World.block_lt_of_cell? _ _ f78
                clear f61 zf61 f62 f63 zf63 f64 f65 f66 f67 f68 f69 f70 f71 f72 f73 f74 f75
                go_wp2_with fail
                all_goals
                  go_ret
                  exact ⟨rfl, by (repeat (with_reducible (first | assumption | exact Below.refl _ _ | refine Below.drew ?_ | refine below_drewN ?_ _ | refine below_set ?_ (by simp; try omega) _ | refine below_alloc ?_ (Nat.le_refl _) _ | refine below_sub (by assumption) ?_)))⟩
          · skip
            have TE : (t4' != 0) = true := bne_iff_ne.2 hE
            go_wp2_with fail
            refine (EW _).mono ?_
            rintro e w7 ⟨rfl, hb7⟩
            obtain ⟨f61, f62, f63, f64, f65, f66, f67, f68, f69, f70, f71, f72, f73, f74, f75⟩ : w7.cell? ⟨w.heap.size + 1, 0, none⟩ = some (.int .i64 n0) ∧ w7.cell? ⟨w.heap.size + 1, 1, none⟩ = some (.int .i64 n1) ∧ w7.cell? ⟨wr.heap.size, 0, none⟩ = some (.bool true) ∧ w7.cell? ⟨wr.heap.size, 1, none⟩ = some (.int .i64 ax) ∧ w7.cell? ⟨wr.heap.size, 2, none⟩ = some (.int .i64 ay) ∧ w7.cell? ⟨wr.heap.size, 3, none⟩ = some (.int .i64 bx) ∧ w7.cell? ⟨wr.heap.size, 4, none⟩ = some (.int .i64 b_y) ∧ w7.cell? ⟨wr.heap.size, 5, none⟩ = some (.int .i64 cx) ∧ w7.cell? ⟨wr.heap.size, 6, none⟩ = some (.int .i64 cy) ∧ w7.cell? ⟨wr.heap.size, 7, none⟩ = some (.int .i64 r) ∧ w7.cell? ⟨wr.heap.size, 8, none⟩ = some (.int .i64 f) ∧ w7.cell? ⟨wr.heap.size, 9, none⟩ = some (.int .i64 s) ∧ w7.cell? ⟨wr.heap.size, 10, none⟩ = some (.int .i64 L) ∧ w7.cell? ⟨wr.heap.size, 11, none⟩ = some (.int .i64 n) ∧ w7.cell? ⟨wr.heap.size, 12, none⟩ = some (.bool g) := by
              refine ⟨?_, ?_, ?_, ?_, ?_, ?_, ?_, ?_, ?_, ?_, ?_, ?_, ?_, ?_, ?_⟩ <;> (refine cell_below hb7 ?_; repeat (first | (with_reducible assumption) | ((with_reducible refine cell_set ?_ ?_ _); (· first | (simp; done) | (simp; omega) | omega)) | ((with_reducible refine cell_new ?_ ?_); (· (simp; done)); (· rfl)) | (with_reducible refine cell_alloc ?_ _) | (with_reducible refine cell_drew ?_) | (with_reducible refine cell_drewN ?_ _) | (with_reducible refine cell_below (by assumption) ?_)))
            have zf61 : w.heap.size + 1 < w7.heap.size := World.block_lt_of_cell? _ _ f61
            have zf63 : wr.heap.size < w7.heap.size := World.block_lt_of_cell? _ _ f63
            clear e0 e1
            go_wp2_with fail
            all_goals
              go_ret
              exact ⟨rfl, by (repeat (with_reducible (first | assumption | exact Below.refl _ _ | refine Below.drew ?_ | refine below_drewN ?_ _ | refine below_set ?_ (by simp; try omega) _ | refine below_alloc ?_ (Nat.le_refl _) _ | refine below_sub (by assumption) ?_)))⟩
theorem lateralCentered_walk {W : World} (S : Option Addr) (l : List El) (cap : Nat) (len t n0 n1 : Int) (h2 : l.length ≤ 9223372036854775807) (hp : Hid (pathAt W S l)) (ht : I64 t) (hn0 : I64 n0) (hn1 : I64 n1) (w : World) (hw : w = W := by rfl) :
    Calls Try.prog 8 #[.agg #[.slice S l.length cap, .int .i64 len], .int .i64 t, .agg #[.int .i64 n0, .int .i64 n1]] w fun e w' => e = .returned (.bool true) ∧ Below w.heap.size w w' := by
  subst hw
  obtain ⟨⟨X, Y, C, E⟩, hR⟩ : ∃ R, R = patF l len t := ⟨_, rfl⟩
  by_cases hE : E = 0
  · subst hE
    obtain ⟨_, _, _, T, hT, _⟩ := pat_ok hR.symm
    have hl : 0 < l.length := by
      cases l with
      | nil => cases hT
      | cons x l => simp
    obtain ⟨b, o, rfl⟩ := pathAt_some hp.out hl
    exact cent_good w b o l cap len t n0 n1 h2 hp hn0 hn1 X Y C hR
  · exact cent_bad w S l cap len t n0 n1 h2 hp hn0 hn1 X Y C E hR hE
end Go.Proofs.Ytdfkkknkiioghaa

/-
  LateralCentered: the row's step: the given statement 'LateralCenteredSaid' out of the walk.
-/
namespace Go.Proofs.Ytdfkkknkiioghaa.lateralCentered
open Go.ChangeShapes Go.WideShapes Go.ChangeAt Go.RowKit
set_option linter.unusedVariables false

theorem own : ownKnob Try.prog.godebug = none := by kernel_rfl
theorem laidOut : laidOutB Try.prog = true := pf_laid
theorem typed : (Try.f8.params.toList.all fun t => Try.prog.readableRec t && decide (t < Try.prog.types.size)) = true := by kernel_rfl
theorem typed' : ∀ t ∈ Try.f8.params.toList, Try.prog.readableRec t = true ∧ t < Try.prog.types.size := by
  intro t ht
  have h := List.all_eq_true.1 typed t ht
  simpa using h
theorem ct24 : Try.prog.cellTypes Try.prog.depth 24 = some [22, 2] := by kernel_rfl
theorem cn24 : Try.prog.cellsOf 24 = ([22, 2] : List TypeId).length := by kernel_rfl
theorem ct56 : Try.prog.cellTypes Try.prog.depth 56 = some (List.replicate 2 2) := by kernel_rfl
theorem cn56 : Try.prog.cellsOf 56 = (List.replicate 2 2).length := by kernel_rfl
set_option maxRecDepth 100000 in
theorem lifted (os : Os) (started : os.Started) (H : Type) (enc : TypeId × Value → H) :
    ReturnsInHanded {} Try.checked os 8 .any (Rows.lateralCenteredSpec.pre6 enc Try.prog Try.f8 Rows.lateralCenteredRow.domain false) (Rows.lateralCenteredSpec.post enc Try.prog Try.f8 false true false false) := by
  refine returnsInHanded_of_change (C := Try.checked) own started (by kernel_rfl) Try.func8
    (ChangeSpec.witness6 (enc := enc) (C := Try.checked) false ⟨#[], #[.agg #[.slice none 0 0, .int .i64 0], .int .i64 0, .agg #[.int .i64 0, .int .i64 0]], []⟩ 8 (by kernel_rfl) (by kernel_rfl) (by kernel_rfl) (by kernel_rfl)) ?_
  intro W base args ds gs before hval0 hW hcnd _
  have hval : ∀ (j : Nat) t v, Try.f8.params[j]? = some t → args[j]? = some v → Value.okWide Try.prog W .any base t v := hval0
  have hW' := hW
  obtain ⟨p, q, hA0, hV, rfl, hfz, hnd⟩ := hW
  have hlen := trodAll_length _ _ _ _ hA0
  rw [Try.params8] at hval hlen
  obtain ⟨v0, v1, v2, rfl⟩ := arr3 hlen.1
  obtain ⟨d0, d1, d2, rfl⟩ := list3 hlen.2
  obtain ⟨lp, rfl, ep, hlp⟩ := ok_agg (Or.inl ⟨_, Try.underlying24⟩) ct24 cn24 (hval 0 24 v0 rfl rfl)
  obtain ⟨pc0, pc1, rfl⟩ := list2 (ep.trans (by rfl))
  have hA' := hA0
  rw [Try.params8] at hA'
  obtain ⟨_, _, hTp, _⟩ := hA'
  obtain ⟨pS, pl, pcap, plen, hpv, hpl, hpp⟩ := path_in hTp ⟨pc0, pc1, rfl⟩
  obtain ⟨rfl, rfl⟩ : pc0 = .slice pS pl.length pcap ∧ pc1 = .int .i64 plen := by simpa using hpv
  obtain ⟨s, rfl, hs⟩ := ok_i64 Try.underlying2 (hval 1 2 v1 rfl rfl)
  obtain ⟨ln, rfl, en, hln⟩ := ok_ints (Or.inr ⟨_, _, Try.underlying56⟩) ct56 cn56 (fun u hu => by rw [List.eq_of_mem_replicate hu]; exact Try.underlying2) (hval 2 56 v2 rfl rfl)
  obtain ⟨n0, n1, rfl⟩ := list2 (en.trans (by simp))
  have hn0 : I64 n0 := hln _ (by simp)
  have hn1 : I64 n1 := hln _ (by simp)
  refine (lateralCentered_walk pS pl pcap plen s n0 n1 hpl (hide hpp) hs hn0 hn1 W).mono fun e W' ⟨he, hb⟩ => ?_
  subst he
  exact ⟨_, rfl, law_post (f := Try.f8) (s := Rows.lateralCenteredSpec) (tb := 4) laidOut typed' rfl (by kernel_rfl) Try.underlying4 hW' ⟨rfl, rfl, rfl⟩ hb⟩

theorem k0 : (Rows.lateralCenteredRow.wf (OpenSpec.ofChange Rows.lateralCenteredSpec)) = true := by kernel_rfl
theorem k3 : (Try.f8.params.all (Try.prog.readableRec ·)) = true := by kernel_rfl
theorem k4 : (namedTie Try.prog Rows.lateralCenteredRow.named Rows.lateralCenteredSpec.vars) = true := by kernel_rfl
theorem k5 : (Rows.lateralCenteredRow.stops == []) = true := by kernel_rfl
theorem k7 : (Rows.lateralCenteredRow.knobs == []) = true := by kernel_rfl
theorem k9 : (Rows.lateralCenteredRow.inPlace == Try.prog.inPlace 8) = true := by kernel_rfl
theorem k10 : (Rows.lateralCenteredRow.unfollowed == Try.prog.unfollowed 8) = true := by kernel_rfl
theorem k11 : (Rows.lateralCenteredRow.recurses == Try.prog.recurses 8) = true := by kernel_rfl
theorem k12 : (Rows.lateralCenteredRow.named == Try.prog.varsNamed 8) = true := by kernel_rfl
theorem k13 : (Rows.lateralCenteredRow.maps == (Try.f8.params.toList ++ Rows.lateralCenteredSpec.plain.varTypes Try.prog).any (Try.prog.mapsRec ·)) = true := by kernel_rfl
theorem k14 : (Rows.lateralCenteredRow.ifaces == (Try.f8.params.toList ++ Rows.lateralCenteredSpec.plain.varTypes Try.prog).any (Try.prog.ifacesRec ·)) = true := by kernel_rfl
theorem k15 : (Rows.lateralCenteredRow.mapsOut == Try.prog.mapsAmong Try.f8.resultTypes.toList) = true := by kernel_rfl
theorem k16 : (Rows.lateralCenteredRow.loops == (Try.f8.params.toList ++ Rows.lateralCenteredSpec.plain.varTypes Try.prog).any (Try.prog.loopsFrom ·)) = true := by kernel_rfl
theorem k17 : (Rows.lateralCenteredRow.wideKeys == (Try.f8.params.toList ++ Rows.lateralCenteredSpec.plain.varTypes Try.prog ++ Try.f8.resultTypes.toList).any (Try.prog.wideKeysFrom ·)) = true := by kernel_rfl
theorem k18 : (Rows.lateralCenteredSpec.vars.all (Try.prog.varReadable ·)) = true := by kernel_rfl
theorem k19 : (Try.f8.resultTypes.all (fun t => Try.prog.readableRec t && decide (t < Try.prog.types.size))) = true := by kernel_rfl
theorem k20 : (Rows.lateralCenteredRow.ifacesOut == Try.f8.resultTypes.toList.any (Try.prog.ifacesRec ·)) = true := by kernel_rfl
theorem k21 : (Rows.lateralCenteredRow.loopsOut == Try.f8.resultTypes.toList.any (Try.prog.loopsFrom ·)) = true := by kernel_rfl
theorem k22 : (Rows.lateralCenteredRow.plainKeys == Try.prog.plainKeys) = true := by kernel_rfl
theorem k23 : (Rows.lateralCenteredRow.shortTexts.isNone) = true := by kernel_rfl
theorem k26 : (Rows.lateralCenteredRow.lifted == Try.prog.liftsFinal) = true := by rw [pf_lifts]; rfl
theorem k27 : (Try.prog.make == some Rows.lateralCenteredRow.make) = true := by rw [pf_make]; rfl
theorem k28 : (Rows.lateralCenteredRow.kinds == (if Rows.lateralCenteredRow.domain.isEmpty then [] else Try.f8.params.toList.map fun t => match Try.prog.underlying t with | some (.int k) => some k | _ => none)) = true := by kernel_rfl
theorem k29 : (Rows.lateralCenteredRow.pinned == Rows.lateralCenteredRow.pinnedBy) = true := by kernel_rfl
theorem k30 : (Rows.lateralCenteredRow.veiled == (Try.f8.params.toList ++ Rows.lateralCenteredSpec.plain.varTypes Try.prog ++ Try.f8.resultTypes.toList).any (Try.prog.veiledRec ·)) = true := by kernel_rfl
theorem k31 : (Rows.lateralCenteredRow.veiledFits Try.prog Try.f8.params.toList (Try.f8.params.toList ++ Rows.lateralCenteredSpec.plain.varTypes Try.prog ++ Try.f8.resultTypes.toList)) = true := by kernel_rfl
set_option maxRecDepth 100000 in
theorem closed : joinedFacts Try.prog 8 Try.f8 Rows.lateralCenteredSpec Rows.lateralCenteredRow = true := (band (band (band (band (band (band (band (band (band (band (band (band (band (band (band (band (band (band (band (band (band (band (band (band (band (band (band (band (band (band (band k0 pf_laid) pf_maps) k3) k4) k5) pf_stops) k7) pf_knobs) k9) k10) k11) k12) k13) k14) k15) k16) k17) k18) k19) k20) k21) k22) k23) pf_heard) pf_enter) k26) k27) k28) k29) k30) k31)
theorem byName : Try.prog.funcNamed Rows.lateralCenteredRow.func = some 8 := by kernel_rfl
theorem inst : Try.f8.isInstance Try.prog Rows.lateralCenteredRow.origin Rows.lateralCenteredRow.targs := of_decide_eq_true (by kernel_rfl)
theorem over : Rows.lateralCenteredRow.holds Try.pinned (OpenSpec.ofChange Rows.lateralCenteredSpec) :=
  OpenClaim.holds_of_wide 8 Try.f8 rfl rfl rfl rfl rfl rfl rfl ⟨rfl, rfl, rfl, rfl, rfl⟩ rfl rfl rfl rfl rfl byName Try.func8 closed
    inst (by unfold Func.isWrapper; rw [if_neg (of_decide_eq_false (by kernel_rfl))]; exact ⟨rfl, rfl⟩)
    (fun os started H enc _ => lifted os started H enc)

/-- The given statement. -/
theorem proved : Rows.LateralCenteredSaid := over
end Go.Proofs.Ytdfkkknkiioghaa.lateralCentered

