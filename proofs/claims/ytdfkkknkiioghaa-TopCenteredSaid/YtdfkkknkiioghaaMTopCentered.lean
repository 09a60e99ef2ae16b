/-
  The walk of the law TopCentered.
-/
import Derived.Test.YtdfkkknkiioghaaMPatA
import Derived.Test.YtdfkkknkiioghaaMErr
import Derived.Test.YtdfkkknkiioghaaMBankR
import Derived.Test.YtdfkkknkiioghaaMCmd
import Derived.Test.YtdfkkknkiioghaaMCenter
import Derived.Test.YtdfkkknkiioghaaMLineD
import Derived.Test.YtdfkkknkiioghaaRows
import Derived.Test.YtdfkkknkiioghaaMFrame
import Derived.Test.YtdfkkknkiioghaaMPathIn
namespace Go.Proofs.Ytdfkkknkiioghaa
open Go.RowKit
set_option linter.unusedVariables false
set_option linter.unusedSimpArgs false
theorem command_right {o m : Int} (h : 6 ≤ o) (hm : 1 ≤ m) : command o 0 0 m < 0 := by
  unfold command
  rw [show clamp 0 (-3000) 3000 = 0 from rfl, show clamp 0 (-64800000) 64800000 = 0 from rfl, Int.sub_zero, Int.zero_add]
  have h1 : 6 ≤ clamp o (-12000) 12000 ∧ clamp o (-12000) 12000 ≤ 12000 := by unfold clamp; omega
  generalize clamp o (-12000) 12000 = x at *
  have h2 : 1 ≤ clamp m 0 3000 := by unfold clamp; omega
  generalize clamp m 0 3000 = y at *
  have h3 : Int.tdiv (-x * 1350) 7200 ≤ -1 := by
    rw [show -x * 1350 = -(x * 1350) from by omega, Int.neg_tdiv]
    have : 1 ≤ (x * 1350).tdiv 7200 := by
      rw [Int.tdiv_eq_ediv_of_nonneg (by omega)]
      omega
    omega
  generalize Int.tdiv (-x * 1350) 7200 = z at *
  unfold clamp
  omega
theorem command_left {o m : Int} (h : o ≤ -6) (hm : 1 ≤ m) : 0 < command o 0 0 m := by
  unfold command
  rw [show clamp 0 (-3000) 3000 = 0 from rfl, show clamp 0 (-64800000) 64800000 = 0 from rfl, Int.sub_zero, Int.zero_add]
  have h1 : -12000 ≤ clamp o (-12000) 12000 ∧ clamp o (-12000) 12000 ≤ -6 := by unfold clamp; omega
  generalize clamp o (-12000) 12000 = x at *
  have h2 : 1 ≤ clamp m 0 3000 := by unfold clamp; omega
  generalize clamp m 0 3000 = y at *
  have h3 : 1 ≤ Int.tdiv (-x * 1350) 7200 := by
    rw [Int.tdiv_eq_ediv_of_nonneg (by omega)]
    omega
  generalize Int.tdiv (-x * 1350) 7200 = z at *
  unfold clamp
  omega
/-- the deviation of a point that has one and on whose course one flies -/
theorem err_beside {ax ay bx b_y cx cy r f s L P Q C o al : Int} {R : Int × Int} (hC : 0 ≤ C ∧ C < 129600000) (ho : offF ax ay bx b_y P Q = (o, al, 0)) (hc : courseF ax ay bx b_y = (C, 0)) : errF false ax ay bx b_y cx cy r f s L P Q C 250 R = (o, 0, 0, 0) := by
  rw [err_line (o := o) (al := al) (by omega) (by unfold locF; rw [if_neg (by decide), ho]) hc.symm, if_pos rfl, diff_self]
set_option maxRecDepth 100000 in
set_option maxHeartbeats 8000000 in
theorem topc_lo (w : World) (S : Option Addr) (l : List El) (cap : Nat) (len t side : Int) (h2 : l.length ≤ 9223372036854775807) (hp : Hid (pathAt w S l)) (h : side < 200) :
    Calls Try.prog 3 #[.agg #[.slice S l.length cap, .int .i64 len], .int .i64 t, .int .i64 side] w fun e w' => e = .returned (.bool true) ∧ Below w.heap.size w w' := by
  go_enter Try.func3, Try.ntmps3
  go_wp2_with fail
  all_goals
    go_ret
    exact ⟨rfl, by (repeat (with_reducible (first | assumption | exact Below.refl _ _ | refine Below.drew ?_ | refine below_drewN ?_ _ | refine below_set ?_ (by simp; try omega) _ | refine below_alloc ?_ (Nat.le_refl _) _ | refine below_sub (by assumption) ?_)))⟩
set_option maxRecDepth 100000 in
set_option maxHeartbeats 8000000 in
theorem topc_hi (w : World) (S : Option Addr) (l : List El) (cap : Nat) (len t side : Int) (h2 : l.length ≤ 9223372036854775807) (hp : Hid (pathAt w S l)) (h0 : 200 ≤ side) (h : 200000 < side) :
    Calls Try.prog 3 #[.agg #[.slice S l.length cap, .int .i64 len], .int .i64 t, .int .i64 side] w fun e w' => e = .returned (.bool true) ∧ Below w.heap.size w w' := by
  go_enter Try.func3, Try.ntmps3
  go_wp2_with fail
  all_goals
    go_ret
    exact ⟨rfl, by (repeat (with_reducible (first | assumption | exact Below.refl _ _ | refine Below.drew ?_ | refine below_drewN ?_ _ | refine below_set ?_ (by simp; try omega) _ | refine below_alloc ?_ (Nat.le_refl _) _ | refine below_sub (by assumption) ?_)))⟩
set_option maxRecDepth 100000 in
set_option maxHeartbeats 8000000 in
theorem topc_neg (w : World) (S : Option Addr) (l : List El) (cap : Nat) (len t side : Int) (h2 : l.length ≤ 9223372036854775807) (hp : Hid (pathAt w S l)) (h0 : 200 ≤ side) (h1 : side ≤ 200000) (h : t < 0) :
    Calls Try.prog 3 #[.agg #[.slice S l.length cap, .int .i64 len], .int .i64 t, .int .i64 side] w fun e w' => e = .returned (.bool true) ∧ Below w.heap.size w w' := by
  go_enter Try.func3, Try.ntmps3
  go_wp2_with fail
  all_goals
    go_ret
    exact ⟨rfl, by (repeat (with_reducible (first | assumption | exact Below.refl _ _ | refine Below.drew ?_ | refine below_drewN ?_ _ | refine below_set ?_ (by simp; try omega) _ | refine below_alloc ?_ (Nat.le_refl _) _ | refine below_sub (by assumption) ?_)))⟩
set_option maxRecDepth 100000 in
set_option maxHeartbeats 8000000 in
theorem topc_bad (w : World) (S : Option Addr) (l : List El) (cap : Nat) (len t side : Int) (h2 : l.length ≤ 9223372036854775807) (hp : Hid (pathAt w S l)) (h0 : 200 ≤ side) (h1 : side ≤ 200000) (h3 : 0 ≤ t) (E : Int) (hc : chkF l len = E) (h : ¬ E = 0) :
    Calls Try.prog 3 #[.agg #[.slice S l.length cap, .int .i64 len], .int .i64 t, .int .i64 side] w fun e w' => e = .returned (.bool true) ∧ Below w.heap.size w w' := by
  have CK := fun W hb => chk_any S l cap len W h2 (hide (pathAt_below hb hp.out))
  rw [hc] at CK
  clear hc
  have T : (E != 0) = true := bne_iff_ne.2 h
  go_enter Try.func3, Try.ntmps3
  go_wp2_with fail
  refine (CK _ (by (repeat (with_reducible (first | assumption | exact Below.refl _ _ | refine Below.drew ?_ | refine below_drewN ?_ _ | refine below_set ?_ (by simp; try omega) _ | refine below_alloc ?_ (Nat.le_refl _) _ | refine below_sub (by assumption) ?_))))).mono ?_
  rintro e w1 ⟨rfl, hb1⟩
  obtain ⟨f1, f2⟩ : w1.cell? ⟨w.heap.size, 0, none⟩ = some (.slice S l.length cap) ∧ w1.cell? ⟨w.heap.size, 1, none⟩ = some (.int .i64 len) := by
    refine ⟨?_, ?_⟩ <;> (refine cell_below hb1 ?_; repeat (first | (with_reducible assumption) | ((with_reducible refine cell_set ?_ ?_ _); (· first | (simp; done) | (simp; omega) | omega)) | ((with_reducible refine cell_new ?_ ?_); (· (simp; done)); (· rfl)) | (with_reducible refine cell_alloc ?_ _) | (with_reducible refine cell_drew ?_) | (with_reducible refine cell_drewN ?_ _) | (with_reducible refine cell_below (by assumption) ?_)))
  have zf1 : w.heap.size < w1.heap.size := World.block_lt_of_cell? _ _ f1
  go_wp2_with fail
  all_goals
    go_ret
    exact ⟨rfl, by (repeat (with_reducible (first | assumption | exact Below.refl _ _ | refine Below.drew ?_ | refine below_drewN ?_ _ | refine below_set ?_ (by simp; try omega) _ | refine below_alloc ?_ (Nat.le_refl _) _ | refine below_sub (by assumption) ?_)))⟩
set_option maxRecDepth 100000 in
set_option maxHeartbeats 8000000 in
theorem topc_err (w : World) (S : Option Addr) (l : List El) (cap : Nat) (len t side : Int) (h2 : l.length ≤ 9223372036854775807) (hp : Hid (pathAt w S l)) (h0 : 200 ≤ side) (h1 : side ≤ 200000) (h3 : 0 ≤ t) (hc : chkF l len = 0) (X Y C E : Int) (hR : (X, Y, C, E) = patF l len t) (h : ¬ E = 0) :
    Calls Try.prog 3 #[.agg #[.slice S l.length cap, .int .i64 len], .int .i64 t, .int .i64 side] w fun e w' => e = .returned (.bool true) ∧ Below w.heap.size w w' := by
  have CK := fun W hb => chk_any S l cap len W h2 (hide (pathAt_below hb hp.out))
  rw [hc] at CK
  clear hc
  have T : (E != 0) = true := bne_iff_ne.2 h
  have HR := hide hR
  clear hR
  go_enter Try.func3, Try.ntmps3
  go_wp2_with fail
  refine (CK _ (by (repeat (with_reducible (first | assumption | exact Below.refl _ _ | refine Below.drew ?_ | refine below_drewN ?_ _ | refine below_set ?_ (by simp; try omega) _ | refine below_alloc ?_ (Nat.le_refl _) _ | refine below_sub (by assumption) ?_))))).mono ?_
  rintro e w1 ⟨rfl, hb1⟩
  obtain ⟨f1, f2⟩ : w1.cell? ⟨w.heap.size, 0, none⟩ = some (.slice S l.length cap) ∧ w1.cell? ⟨w.heap.size, 1, none⟩ = some (.int .i64 len) := by
    refine ⟨?_, ?_⟩ <;> (refine cell_below hb1 ?_; repeat (first | (with_reducible assumption) | ((with_reducible refine cell_set ?_ ?_ _); (· first | (simp; done) | (simp; omega) | omega)) | ((with_reducible refine cell_new ?_ ?_); (· (simp; done)); (· rfl)) | (with_reducible refine cell_alloc ?_ _) | (with_reducible refine cell_drew ?_) | (with_reducible refine cell_drewN ?_ _) | (with_reducible refine cell_below (by assumption) ?_)))
  have zf1 : w.heap.size < w1.heap.size := World.block_lt_of_cell? _ _ f1
  go_wp2_with fail
  refine (pat_any S l cap len t _ h2 (hide (pathAt_below (show Below w.heap.size w _ by (repeat (with_reducible (first | assumption | exact Below.refl _ _ | refine Below.drew ?_ | refine below_drewN ?_ _ | refine below_set ?_ (by simp; try omega) _ | refine below_alloc ?_ (Nat.le_refl _) _ | refine below_sub (by assumption) ?_)))) hp.out)) (X, Y, C, E) HR.out).mono ?_
  rintro e w2 ⟨rfl, hb2⟩
  obtain ⟨f3, f4⟩ : w2.cell? ⟨w.heap.size, 0, none⟩ = some (.slice S l.length cap) ∧ w2.cell? ⟨w.heap.size, 1, none⟩ = some (.int .i64 len) := by
    refine ⟨?_, ?_⟩ <;> (refine cell_below hb2 ?_; repeat (first | (with_reducible assumption) | ((with_reducible refine cell_set ?_ ?_ _); (· first | (simp; done) | (simp; omega) | omega)) | ((with_reducible refine cell_new ?_ ?_); (· (simp; done)); (· rfl)) | (with_reducible refine cell_alloc ?_ _) | (with_reducible refine cell_drew ?_) | (with_reducible refine cell_drewN ?_ _) | (with_reducible refine cell_below (by assumption) ?_)))
  have zf3 : w.heap.size < w2.heap.size := World.block_lt_of_cell? _ _ f3
  clear f1 zf1 f2
  go_wp2_with fail
  all_goals
    go_ret
    exact ⟨rfl, by (repeat (with_reducible (first | assumption | exact Below.refl _ _ | refine Below.drew ?_ | refine below_drewN ?_ _ | refine below_set ?_ (by simp; try omega) _ | refine below_alloc ?_ (Nat.le_refl _) _ | refine below_sub (by assumption) ?_)))⟩
set_option maxRecDepth 100000 in
set_option maxHeartbeats 8000000 in
theorem topc_good (w : World) (b o : Nat) (l : List El) (cap : Nat) (len t side : Int) (h2 : l.length ≤ 9223372036854775807) (hp : Hid (pathAt w (some ⟨b, o, none⟩) l)) (h0 : 200 ≤ side) (h1 : side ≤ 200000) (h3 : 0 ≤ t) (hc : chkF l len = 0) (X Y C : Int) (hR : (X, Y, C, (0 : Int)) = patF l len t) :
    Calls Try.prog 3 #[.agg #[.slice (some ⟨b, o, none⟩) l.length cap, .int .i64 len], .int .i64 t, .int .i64 side] w fun e w' => e = .returned (.bool true) ∧ Below w.heap.size w w' := by
  have CK := fun W hb => chk_any (some ⟨b, o, none⟩) l cap len W h2 (hide (pathAt_below hb hp.out))
  rw [hc] at CK
  obtain ⟨_, t0, t1, T, hT, hpt⟩ := pat_ok hR.symm
  have ok := okPath hc
  have eL := hide (fun j y (hy : l[j]? = some y) => chkF_L hc hy)
  have eV := hide (fun j y (hy : l[j]? = some y) => ok.err j y hy)
  have hlen := chk_len hc
  have HR := hide hR
  have HP := hide hpt
  have H0 : Hid (pickG (l.drop 0) t = some T) := hide hT
  have l5 := ok.short
  clear hR hT hpt hc ok
  go_enter Try.func3, Try.ntmps3
  go_wp2_with fail
  refine (CK _ (by (repeat (with_reducible (first | assumption | exact Below.refl _ _ | refine Below.drew ?_ | refine below_drewN ?_ _ | refine below_set ?_ (by simp; try omega) _ | refine below_alloc ?_ (Nat.le_refl _) _ | refine below_sub (by assumption) ?_))))).mono ?_
  rintro e w1 ⟨rfl, hb1⟩
  obtain ⟨f1, f2⟩ : w1.cell? ⟨w.heap.size, 0, none⟩ = some (.slice (some ⟨b, o, none⟩) l.length cap) ∧ w1.cell? ⟨w.heap.size, 1, none⟩ = some (.int .i64 len) := by
    refine ⟨?_, ?_⟩ <;> (refine cell_below hb1 ?_; repeat (first | (with_reducible assumption) | ((with_reducible refine cell_set ?_ ?_ _); (· first | (simp; done) | (simp; omega) | omega)) | ((with_reducible refine cell_new ?_ ?_); (· (simp; done)); (· rfl)) | (with_reducible refine cell_alloc ?_ _) | (with_reducible refine cell_drew ?_) | (with_reducible refine cell_drewN ?_ _) | (with_reducible refine cell_below (by assumption) ?_)))
  have zf1 : w.heap.size < w1.heap.size := World.block_lt_of_cell? _ _ f1
  go_wp2_with fail
  refine (pat_any (some ⟨b, o, none⟩) l cap len t _ h2 (hide (pathAt_below (show Below w.heap.size w _ by (repeat (with_reducible (first | assumption | exact Below.refl _ _ | refine Below.drew ?_ | refine below_drewN ?_ _ | refine below_set ?_ (by simp; try omega) _ | refine below_alloc ?_ (Nat.le_refl _) _ | refine below_sub (by assumption) ?_)))) hp.out)) (X, Y, C, 0) HR.out).mono ?_
  rintro e w2 ⟨rfl, hb2⟩
  obtain ⟨f3, f4⟩ : w2.cell? ⟨w.heap.size, 0, none⟩ = some (.slice (some ⟨b, o, none⟩) l.length cap) ∧ w2.cell? ⟨w.heap.size, 1, none⟩ = some (.int .i64 len) := by
    refine ⟨?_, ?_⟩ <;> (refine cell_below hb2 ?_; repeat (first | (with_reducible assumption) | ((with_reducible refine cell_set ?_ ?_ _); (· first | (simp; done) | (simp; omega) | omega)) | ((with_reducible refine cell_new ?_ ?_); (· (simp; done)); (· rfl)) | (with_reducible refine cell_alloc ?_ _) | (with_reducible refine cell_drew ?_) | (with_reducible refine cell_drewN ?_ _) | (with_reducible refine cell_below (by assumption) ?_)))
  have zf3 : w.heap.size < w2.heap.size := World.block_lt_of_cell? _ _ f3
  clear f1 zf1 f2
  go_wp2_with fail
  have zq : w2.heap.size < w2.heap.size + 1 := Nat.lt_succ_self _
  go_loopw [1, 49] (fun a i W => ∃ (k : Nat) (q : Int), k ≤ l.length ∧ a = .int .i64 q ∧ i = .int .i64 (k : Int) ∧ Hid (pickG (l.drop k) q = some T) ∧ 0 ≤ q ∧ q ≤ t ∧ W.cell? ⟨w.heap.size, 0, none⟩ = some (.slice (some ⟨b, o, none⟩) l.length cap) ∧ W.cell? ⟨w.heap.size, 1, none⟩ = some (.int .i64 len) ∧ W.cell? ⟨w2.heap.size, 0, none⟩ = some (.int .i64 X) ∧ W.cell? ⟨w2.heap.size, 1, none⟩ = some (.int .i64 Y) ∧ Below w.heap.size w W) (fun a i _ => l.length - (intOf i).toNat)
  case atStart => exact ⟨0, t, by omega, rfl, rfl, H0, by omega, by omega, by (repeat (first | (with_reducible assumption) | ((with_reducible refine cell_set ?_ ?_ _); (· first | (simp; done) | (simp; omega) | omega)) | ((with_reducible refine cell_new ?_ ?_); (· (simp; done)); (· rfl)) | (with_reducible refine cell_alloc ?_ _) | (with_reducible refine cell_drew ?_) | (with_reducible refine cell_drewN ?_ _) | (with_reducible refine cell_below (by assumption) ?_))), by (repeat (first | (with_reducible assumption) | ((with_reducible refine cell_set ?_ ?_ _); (· first | (simp; done) | (simp; omega) | omega)) | ((with_reducible refine cell_new ?_ ?_); (· (simp; done)); (· rfl)) | (with_reducible refine cell_alloc ?_ _) | (with_reducible refine cell_drew ?_) | (with_reducible refine cell_drewN ?_ _) | (with_reducible refine cell_below (by assumption) ?_))), by (repeat (first | (with_reducible assumption) | ((with_reducible refine cell_set ?_ ?_ _); (· first | (simp; done) | (simp; omega) | omega)) | ((with_reducible refine cell_new ?_ ?_); (· (simp; done)); (· rfl)) | (with_reducible refine cell_alloc ?_ _) | (with_reducible refine cell_drew ?_) | (with_reducible refine cell_drewN ?_ _) | (with_reducible refine cell_below (by assumption) ?_))), by (repeat (first | (with_reducible assumption) | ((with_reducible refine cell_set ?_ ?_ _); (· first | (simp; done) | (simp; omega) | omega)) | ((with_reducible refine cell_new ?_ ?_); (· (simp; done)); (· rfl)) | (with_reducible refine cell_alloc ?_ _) | (with_reducible refine cell_drew ?_) | (with_reducible refine cell_drewN ?_ _) | (with_reducible refine cell_below (by assumption) ?_))), by (repeat (with_reducible (first | assumption | exact Below.refl _ _ | refine Below.drew ?_ | refine below_drewN ?_ _ | refine below_set ?_ (by simp; try omega) _ | refine below_alloc ?_ (Nat.le_refl _) _ | refine below_sub (by assumption) ?_)))⟩
  case round =>
    obtain ⟨k, q, hk0, rfl, rfl, G, q0, q1, p0, p1, x0, x1, K⟩ := hrel
    have hk : k < l.length := by
      rcases Nat.lt_or_ge k l.length with h | h
      · exact h
      · have := G.out
        rw [pickG_none h] at this
        cases this
    obtain ⟨x, hx⟩ : ∃ x, l[k]? = some x := ⟨_, List.getElem?_eq_getElem hk⟩
    have hG := G.out
    rw [pickG_at hx] at hG
    have xL := eL.out k x hx
    have xE := eV.out k x hx
    have hat := pathAt_get (pathAt_below K hp.out) hx
    clear hx G
    obtain ⟨c, ax, ay, bx, b_y, cx, cy, r, f, s, L, n, g⟩ := x
    dsimp only at hG xL
    have c0 : wr.cell? ⟨b, o + k * 13, none⟩ = some (.bool c) := hat.1
    have c1 : wr.cell? ⟨b, o + k * 13 + 1, none⟩ = some (.int .i64 ax) := hat.2.1
    have c2 : wr.cell? ⟨b, o + k * 13 + 2, none⟩ = some (.int .i64 ay) := hat.2.2.1
    have c3 : wr.cell? ⟨b, o + k * 13 + 3, none⟩ = some (.int .i64 bx) := hat.2.2.2.1
    have c4 : wr.cell? ⟨b, o + k * 13 + 4, none⟩ = some (.int .i64 b_y) := hat.2.2.2.2.1
    have c5 : wr.cell? ⟨b, o + k * 13 + 5, none⟩ = some (.int .i64 cx) := hat.2.2.2.2.2.1
    have c6 : wr.cell? ⟨b, o + k * 13 + 6, none⟩ = some (.int .i64 cy) := hat.2.2.2.2.2.2.1
    have c7 : wr.cell? ⟨b, o + k * 13 + 7, none⟩ = some (.int .i64 r) := hat.2.2.2.2.2.2.2.1
    have c8 : wr.cell? ⟨b, o + k * 13 + 8, none⟩ = some (.int .i64 f) := hat.2.2.2.2.2.2.2.2.1
    have c9 : wr.cell? ⟨b, o + k * 13 + 9, none⟩ = some (.int .i64 s) := hat.2.2.2.2.2.2.2.2.2.1
    have c10 : wr.cell? ⟨b, o + k * 13 + 10, none⟩ = some (.int .i64 L) := hat.2.2.2.2.2.2.2.2.2.2.1
    have c11 : wr.cell? ⟨b, o + k * 13 + 11, none⟩ = some (.int .i64 n) := hat.2.2.2.2.2.2.2.2.2.2.2.1
    have c12 : wr.cell? ⟨b, o + k * 13 + 12, none⟩ = some (.bool g) := hat.2.2.2.2.2.2.2.2.2.2.2.2
    clear hat
    have zc : b < wr.heap.size := World.block_lt_of_cell? _ _ c0
    have zp : w.heap.size < wr.heap.size := World.block_lt_of_cell? _ _ p0
    have zx : w2.heap.size < wr.heap.size := World.block_lt_of_cell? _ _ x0
    by_cases hs : L < q
    · rw [if_pos hs] at hG
      have G2 := hide hG
      clear hG xE
      have hs2 : 0 < q - L := by omega
      go_wp2_with fail
      go_roundw
      case rel => exact ⟨k + 1, q - L, by omega, by go_num, by go_num, G2, by omega, by omega, by (repeat (first | (with_reducible assumption) | ((with_reducible refine cell_set ?_ ?_ _); (· first | (simp; done) | (simp; omega) | omega)) | ((with_reducible refine cell_new ?_ ?_); (· (simp; done)); (· rfl)) | (with_reducible refine cell_alloc ?_ _) | (with_reducible refine cell_drew ?_) | (with_reducible refine cell_drewN ?_ _) | (with_reducible refine cell_below (by assumption) ?_))), by (repeat (first | (with_reducible assumption) | ((with_reducible refine cell_set ?_ ?_ _); (· first | (simp; done) | (simp; omega) | omega)) | ((with_reducible refine cell_new ?_ ?_); (· (simp; done)); (· rfl)) | (with_reducible refine cell_alloc ?_ _) | (with_reducible refine cell_drew ?_) | (with_reducible refine cell_drewN ?_ _) | (with_reducible refine cell_below (by assumption) ?_))), by (repeat (first | (with_reducible assumption) | ((with_reducible refine cell_set ?_ ?_ _); (· first | (simp; done) | (simp; omega) | omega)) | ((with_reducible refine cell_new ?_ ?_); (· (simp; done)); (· rfl)) | (with_reducible refine cell_alloc ?_ _) | (with_reducible refine cell_drew ?_) | (with_reducible refine cell_drewN ?_ _) | (with_reducible refine cell_below (by assumption) ?_))), by (repeat (first | (with_reducible assumption) | ((with_reducible refine cell_set ?_ ?_ _); (· first | (simp; done) | (simp; omega) | omega)) | ((with_reducible refine cell_new ?_ ?_); (· (simp; done)); (· rfl)) | (with_reducible refine cell_alloc ?_ _) | (with_reducible refine cell_drew ?_) | (with_reducible refine cell_drewN ?_ _) | (with_reducible refine cell_below (by assumption) ?_))), by (repeat (with_reducible (first | assumption | exact Below.refl _ _ | refine Below.drew ?_ | refine below_drewN ?_ _ | refine below_set ?_ (by simp; try omega) _ | refine below_alloc ?_ (Nat.le_refl _) _ | refine below_sub (by assumption) ?_)))⟩
      case measure => simp [intOf]; omega
    · rw [if_neg hs] at hG
      obtain rfl : ((⟨c, ax, ay, bx, b_y, cx, cy, r, f, s, L, n, g⟩ : El), q) = T := by injection hG
      have hv := xE
      unfold El.err at hv
      dsimp only at hv
      have hpt := HP.out
      dsimp only at hpt
      clear hG xE HP H0
      have hs2 : q - L ≤ 0 := by omega
      rcases c with _ | _
      rotate_left
      · skip
        go_wp2_with fail
        all_goals
          go_ret
          exact ⟨rfl, by (repeat (with_reducible (first | assumption | exact Below.refl _ _ | refine Below.drew ?_ | refine below_drewN ?_ _ | refine below_set ?_ (by simp; try omega) _ | refine below_alloc ?_ (Nat.le_refl _) _ | refine below_sub (by assumption) ?_)))⟩
      · skip
        obtain ⟨v1, v2, v3, v4, v5⟩ := elem_straight hv
        obtain ⟨eX, eY, eC⟩ := pt_line hpt
        have hCb := courseF_bd ax ay bx b_y
        rw [eC] at hCb
        dsimp only at hCb
        have eC2 : C = atan2F (bx - ax) (b_y - ay) := by
          unfold courseF at eC
          rw [v1, v2, if_neg (by simp), if_neg v3] at eC
          exact (congrArg (fun t => t.1) eC).symm
        have hr0 : r = 0 := (elem_zero hv).1
        obtain ⟨⟨P, Q, e1⟩, hA⟩ : ∃ R, R = rayF X Y (C + 32400000) side := ⟨_, rfl⟩
        obtain ⟨⟨P2, Q2, e2⟩, hB⟩ : ∃ R, R = rayF X Y (C - 32400000) side := ⟨_, rfl⟩
        have RA := fun W => ray_any X Y (C + 32400000) side (by unfold I64; omega) (by unfold I64; omega) W _ hA
        have RB := fun W => ray_any X Y (C - 32400000) side (by unfold I64; omega) (by unfold I64; omega) W _ hB
        have hAB : e1 = 0 → e2 = 0 → ∃ o1 o2, 6 ≤ o1 ∧ o2 ≤ -6 ∧ (∀ R, errF false ax ay bx b_y cx cy r f s L P Q C 250 R = (o1, 0, 0, 0)) ∧ (∀ R, errF false ax ay bx b_y cx cy r f s L P2 Q2 C 250 R = (o2, 0, 0, 0)) := by
          intro z1 z2
          subst z1; subst z2
          have k1 := ray_ok (show (rayF X Y (C + 32400000) side).2.2 = 0 by rw [← hA])
          have k2 := ray_ok (show (rayF X Y (C - 32400000) side).2.2 = 0 by rw [← hB])
          have u1 : vldB P Q = true := by
            have a := k1.2.2.2
            rw [← hA] at a
            rw [show P = _ from a.2.1, show Q = _ from a.2.2]; exact a.1
          have u2 : vldB P2 Q2 = true := by
            have a := k2.2.2.2
            rw [← hB] at a
            rw [show P2 = _ from a.2.1, show Q2 = _ from a.2.2]; exact a.1
          obtain ⟨o1, al1, w1', w2'⟩ := (beside v1 v2 v3 q0 (by omega) v5 xL.2 eX eY h0 u1).1 (by rw [← eC2]; exact hA.symm)
          obtain ⟨o2, al2, w3', w4'⟩ := (beside v1 v2 v3 q0 (by omega) v5 xL.2 eX eY h0 u2).2 (by rw [← eC2]; exact hB.symm)
          exact ⟨o1, o2, w2', w4', fun R => err_beside hCb w1' eC, fun R => err_beside hCb w3' eC⟩
        have hC64 : I64 C := by unfold I64; omega
        have h25 : I64 250 := by unfold I64; omega
        obtain ⟨R, hBR⟩ := bank_ex 250 r
        have hr64 : I64 r := by rw [hr0]; unfold I64; omega
        have EA := fun W T hT => errw_any false g ax ay bx b_y cx cy r f s L n P Q C 250 hC64 h25 hr64 W R hBR T hT
        have EB := fun W T hT => errw_any false g ax ay bx b_y cx cy r f s L n P2 Q2 C 250 hC64 h25 hr64 W R hBR T hT
        clear eX eY eC eC2 v1 v2 v3 v4 v5 hr0 hA hB hBR hpt hv hr64
        by_cases hL : L < 1000
        · skip
          go_wp2_with fail
          all_goals
            go_ret
            exact ⟨rfl, by (repeat (with_reducible (first | assumption | exact Below.refl _ _ | refine Below.drew ?_ | refine below_drewN ?_ _ | refine below_set ?_ (by simp; try omega) _ | refine below_alloc ?_ (Nat.le_refl _) _ | refine below_sub (by assumption) ?_)))⟩
        · skip
          go_wp2_with fail
          refine (RA _).mono ?_
          rintro e w7 ⟨rfl, hb7⟩
          obtain ⟨f61, f62, f63, f64, f65, f66, f67, f68, f69, f70, f71, f72, f73, f74, f75⟩ : w7.cell? ⟨w2.heap.size, 0, none⟩ = some (.int .i64 X) ∧ w7.cell? ⟨w2.heap.size, 1, none⟩ = some (.int .i64 Y) ∧ w7.cell? ⟨wr.heap.size, 0, none⟩ = some (.bool false) ∧ w7.cell? ⟨wr.heap.size, 1, none⟩ = some (.int .i64 ax) ∧ w7.cell? ⟨wr.heap.size, 2, none⟩ = some (.int .i64 ay) ∧ w7.cell? ⟨wr.heap.size, 3, none⟩ = some (.int .i64 bx) ∧ w7.cell? ⟨wr.heap.size, 4, none⟩ = some (.int .i64 b_y) ∧ w7.cell? ⟨wr.heap.size, 5, none⟩ = some (.int .i64 cx) ∧ w7.cell? ⟨wr.heap.size, 6, none⟩ = some (.int .i64 cy) ∧ w7.cell? ⟨wr.heap.size, 7, none⟩ = some (.int .i64 r) ∧ w7.cell? ⟨wr.heap.size, 8, none⟩ = some (.int .i64 f) ∧ w7.cell? ⟨wr.heap.size, 9, none⟩ = some (.int .i64 s) ∧ w7.cell? ⟨wr.heap.size, 10, none⟩ = some (.int .i64 L) ∧ w7.cell? ⟨wr.heap.size, 11, none⟩ = some (.int .i64 n) ∧ w7.cell? ⟨wr.heap.size, 12, none⟩ = some (.bool g) := by
            refine ⟨?_, ?_, ?_, ?_, ?_, ?_, ?_, ?_, ?_, ?_, ?_, ?_, ?_, ?_, ?_⟩ <;> (refine cell_below hb7 ?_; repeat (first | (with_reducible assumption) | ((with_reducible refine cell_set ?_ ?_ _); (· first | (simp; done) | (simp; omega) | omega)) | ((with_reducible refine cell_new ?_ ?_); (· (simp; done)); (· rfl)) | (with_reducible refine cell_alloc ?_ _) | (with_reducible refine cell_drew ?_) | (with_reducible refine cell_drewN ?_ _) | (with_reducible refine cell_below (by assumption) ?_)))
          have zf61 : w2.heap.size < w7.heap.size := World.block_lt_of_cell? _ _ f61
          have zf63 : wr.heap.size < w7.heap.size := World.block_lt_of_cell? _ _ f63
          clear x0 x1
          go_wp2_with fail
          refine (RB _).mono ?_
          rintro e w8 ⟨rfl, hb8⟩
          obtain ⟨f76, f77, f78, f79, f80, f81, f82, f83, f84, f85, f86, f87, f88, f89, f90, f91, f92⟩ : w8.cell? ⟨w2.heap.size, 0, none⟩ = some (.int .i64 X) ∧ w8.cell? ⟨w2.heap.size, 1, none⟩ = some (.int .i64 Y) ∧ w8.cell? ⟨wr.heap.size, 0, none⟩ = some (.bool false) ∧ w8.cell? ⟨wr.heap.size, 1, none⟩ = some (.int .i64 ax) ∧ w8.cell? ⟨wr.heap.size, 2, none⟩ = some (.int .i64 ay) ∧ w8.cell? ⟨wr.heap.size, 3, none⟩ = some (.int .i64 bx) ∧ w8.cell? ⟨wr.heap.size, 4, none⟩ = some (.int .i64 b_y) ∧ w8.cell? ⟨wr.heap.size, 5, none⟩ = some (.int .i64 cx) ∧ w8.cell? ⟨wr.heap.size, 6, none⟩ = some (.int .i64 cy) ∧ w8.cell? ⟨wr.heap.size, 7, none⟩ = some (.int .i64 r) ∧ w8.cell? ⟨wr.heap.size, 8, none⟩ = some (.int .i64 f) ∧ w8.cell? ⟨wr.heap.size, 9, none⟩ = some (.int .i64 s) ∧ w8.cell? ⟨wr.heap.size, 10, none⟩ = some (.int .i64 L) ∧ w8.cell? ⟨wr.heap.size, 11, none⟩ = some (.int .i64 n) ∧ w8.cell? ⟨wr.heap.size, 12, none⟩ = some (.bool g) ∧ w8.cell? ⟨w7.heap.size, 0, none⟩ = some (.int .i64 P) ∧ w8.cell? ⟨w7.heap.size, 1, none⟩ = some (.int .i64 Q) := by
            refine ⟨?_, ?_, ?_, ?_, ?_, ?_, ?_, ?_, ?_, ?_, ?_, ?_, ?_, ?_, ?_, ?_, ?_⟩ <;> (refine cell_below hb8 ?_; repeat (first | (with_reducible assumption) | ((with_reducible refine cell_set ?_ ?_ _); (· first | (simp; done) | (simp; omega) | omega)) | ((with_reducible refine cell_new ?_ ?_); (· (simp; done)); (· rfl)) | (with_reducible refine cell_alloc ?_ _) | (with_reducible refine cell_drew ?_) | (with_reducible refine cell_drewN ?_ _) | (with_reducible refine cell_below (by assumption) ?_)))
          have zf76 : w2.heap.size < w8.heap.size := World.block_lt_of_cell? _ _ f76
          have zf78 : wr.heap.size < w8.heap.size := World.block_lt_of_cell? _ _ f78
          have zf91 : w7.heap.size < w8.heap.size := World.block_lt_of_cell? _ _ f91
          clear f61 zf61 f62 f63 zf63 f64 f65 f66 f67 f68 f69 f70 f71 f72 f73 f74 f75
          by_cases z1 : e1 = 0
          · skip
            subst z1
            by_cases z2 : e2 = 0
            · skip
              subst z2
              obtain ⟨o1, o2, g1, g2, g3, g4⟩ := hAB rfl rfl
              have E1 := fun W => EA W (o1, 0, 0, 0) (g3 R).symm
              have E2 := fun W => EB W (o2, 0, 0, 0) (g4 R).symm
              have K1 := command_right (m := 2500) g1 (by decide)
              have K2 := command_left (m := 2500) g2 (by decide)
              have o1p : 0 < o1 := by omega
              have o2p : o2 < 0 := by omega
              clear hAB EA EB g3 g4
              go_wp2_with fail
              refine (E1 _).mono ?_
              rintro e w9 ⟨rfl, hb9⟩
              obtain ⟨f93, f94, f95, f96, f97, f98, f99, f100, f101, f102, f103, f104, f105, f106, f107, f108, f109, f110, f111⟩ : w9.cell? ⟨w2.heap.size, 0, none⟩ = some (.int .i64 X) ∧ w9.cell? ⟨w2.heap.size, 1, none⟩ = some (.int .i64 Y) ∧ w9.cell? ⟨wr.heap.size, 0, none⟩ = some (.bool false) ∧ w9.cell? ⟨wr.heap.size, 1, none⟩ = some (.int .i64 ax) ∧ w9.cell? ⟨wr.heap.size, 2, none⟩ = some (.int .i64 ay) ∧ w9.cell? ⟨wr.heap.size, 3, none⟩ = some (.int .i64 bx) ∧ w9.cell? ⟨wr.heap.size, 4, none⟩ = some (.int .i64 b_y) ∧ w9.cell? ⟨wr.heap.size, 5, none⟩ = some (.int .i64 cx) ∧ w9.cell? ⟨wr.heap.size, 6, none⟩ = some (.int .i64 cy) ∧ w9.cell? ⟨wr.heap.size, 7, none⟩ = some (.int .i64 r) ∧ w9.cell? ⟨wr.heap.size, 8, none⟩ = some (.int .i64 f) ∧ w9.cell? ⟨wr.heap.size, 9, none⟩ = some (.int .i64 s) ∧ w9.cell? ⟨wr.heap.size, 10, none⟩ = some (.int .i64 L) ∧ w9.cell? ⟨wr.heap.size, 11, none⟩ = some (.int .i64 n) ∧ w9.cell? ⟨wr.heap.size, 12, none⟩ = some (.bool g) ∧ w9.cell? ⟨w7.heap.size, 0, none⟩ = some (.int .i64 P) ∧ w9.cell? ⟨w7.heap.size, 1, none⟩ = some (.int .i64 Q) ∧ w9.cell? ⟨w8.heap.size, 0, none⟩ = some (.int .i64 P2) ∧ w9.cell? ⟨w8.heap.size, 1, none⟩ = some (.int .i64 Q2) := by
                refine ⟨?_, ?_, ?_, ?_, ?_, ?_, ?_, ?_, ?_, ?_, ?_, ?_, ?_, ?_, ?_, ?_, ?_, ?_, ?_⟩ <;> (refine cell_below hb9 ?_; repeat (first | (with_reducible assumption) | ((with_reducible refine cell_set ?_ ?_ _); (· first | (simp; done) | (simp; omega) | omega)) | ((with_reducible refine cell_new ?_ ?_); (· (simp; done)); (· rfl)) | (with_reducible refine cell_alloc ?_ _) | (with_reducible refine cell_drew ?_) | (with_reducible refine cell_drewN ?_ _) | (with_reducible refine cell_below (by assumption) ?_)))
              have zf93 : w2.heap.size < w9.heap.size := World.block_lt_of_cell? _ _ f93
              have zf95 : wr.heap.size < w9.heap.size := World.block_lt_of_cell? _ _ f95
              have zf108 : w7.heap.size < w9.heap.size := World.block_lt_of_cell? _ _ f108
              have zf110 : w8.heap.size < w9.heap.size := World.block_lt_of_cell? _ _ f110
              clear f76 zf76 f77 f78 zf78 f79 f80 f81 f82 f83 f84 f85 f86 f87 f88 f89 f90 f91 zf91 f92
              go_wp2_with fail
              refine (E2 _).mono ?_
              rintro e w10 ⟨rfl, hb10⟩
              obtain ⟨f112, f113, f114, f115, f116, f117, f118, f119, f120, f121, f122, f123, f124, f125, f126, f127, f128, f129, f130⟩ : w10.cell? ⟨w2.heap.size, 0, none⟩ = some (.int .i64 X) ∧ w10.cell? ⟨w2.heap.size, 1, none⟩ = some (.int .i64 Y) ∧ w10.cell? ⟨wr.heap.size, 0, none⟩ = some (.bool false) ∧ w10.cell? ⟨wr.heap.size, 1, none⟩ = some (.int .i64 ax) ∧ w10.cell? ⟨wr.heap.size, 2, none⟩ = some (.int .i64 ay) ∧ w10.cell? ⟨wr.heap.size, 3, none⟩ = some (.int .i64 bx) ∧ w10.cell? ⟨wr.heap.size, 4, none⟩ = some (.int .i64 b_y) ∧ w10.cell? ⟨wr.heap.size, 5, none⟩ = some (.int .i64 cx) ∧ w10.cell? ⟨wr.heap.size, 6, none⟩ = some (.int .i64 cy) ∧ w10.cell? ⟨wr.heap.size, 7, none⟩ = some (.int .i64 r) ∧ w10.cell? ⟨wr.heap.size, 8, none⟩ = some (.int .i64 f) ∧ w10.cell? ⟨wr.heap.size, 9, none⟩ = some (.int .i64 s) ∧ w10.cell? ⟨wr.heap.size, 10, none⟩ = some (.int .i64 L) ∧ w10.cell? ⟨wr.heap.size, 11, none⟩ = some (.int .i64 n) ∧ w10.cell? ⟨wr.heap.size, 12, none⟩ = some (.bool g) ∧ w10.cell? ⟨w7.heap.size, 0, none⟩ = some (.int .i64 P) ∧ w10.cell? ⟨w7.heap.size, 1, none⟩ = some (.int .i64 Q) ∧ w10.cell? ⟨w8.heap.size, 0, none⟩ = some (.int .i64 P2) ∧ w10.cell? ⟨w8.heap.size, 1, none⟩ = some (.int .i64 Q2) := by
                refine ⟨?_, ?_, ?_, ?_, ?_, ?_, ?_, ?_, ?_, ?_, ?_, ?_, ?_, ?_, ?_, ?_, ?_, ?_, ?_⟩ <;> (refine cell_below hb10 ?_; repeat (first | (with_reducible assumption) | ((with_reducible refine cell_set ?_ ?_ _); (· first | (simp; done) | (simp; omega) | omega)) | ((with_reducible refine cell_new ?_ ?_); (· (simp; done)); (· rfl)) | (with_reducible refine cell_alloc ?_ _) | (with_reducible refine cell_drew ?_) | (with_reducible refine cell_drewN ?_ _) | (with_reducible refine cell_below (by assumption) ?_)))
              have zf112 : w2.heap.size < w10.heap.size := World.block_lt_of_cell? _ _ f112
              have zf114 : wr.heap.size < w10.heap.size := World.block_lt_of_cell? _ _ f114
              have zf127 : w7.heap.size < w10.heap.size := World.block_lt_of_cell? _ _ f127
              have zf129 : w8.heap.size < w10.heap.size := World.block_lt_of_cell? _ _ f129
              clear f93 zf93 f94 f95 zf95 f96 f97 f98 f99 f100 f101 f102 f103 f104 f105 f106 f107 f108 zf108 f109 f110 zf110 f111
              go_wp2_with fail
              refine (command_any o1 0 0 2500 _).mono ?_
              rintro e wz ⟨rfl, rfl⟩
              generalize command o1 0 0 2500 = y1 at *
              go_wp2_with fail
              refine (command_any o2 0 0 2500 _).mono ?_
              rintro e wz ⟨rfl, rfl⟩
              generalize command o2 0 0 2500 = y2 at *
              go_wp2_with fail
              all_goals
                go_ret
                exact ⟨rfl, by (repeat (with_reducible (first | assumption | exact Below.refl _ _ | refine Below.drew ?_ | refine below_drewN ?_ _ | refine below_set ?_ (by simp; try omega) _ | refine below_alloc ?_ (Nat.le_refl _) _ | refine below_sub (by assumption) ?_)))⟩
            · skip
              have TE : (e2 != 0) = true := bne_iff_ne.2 z2
              clear hAB
              go_wp2_with fail
              all_goals
                go_ret
                exact ⟨rfl, by (repeat (with_reducible (first | assumption | exact Below.refl _ _ | refine Below.drew ?_ | refine below_drewN ?_ _ | refine below_set ?_ (by simp; try omega) _ | refine below_alloc ?_ (Nat.le_refl _) _ | refine below_sub (by assumption) ?_)))⟩
          · skip
            have TE : (e1 != 0) = true := bne_iff_ne.2 z1
            clear hAB
            go_wp2_with fail
            all_goals
              go_ret
              exact ⟨rfl, by (repeat (with_reducible (first | assumption | exact Below.refl _ _ | refine Below.drew ?_ | refine below_drewN ?_ _ | refine below_set ?_ (by simp; try omega) _ | refine below_alloc ?_ (Nat.le_refl _) _ | refine below_sub (by assumption) ?_)))⟩
theorem topCentered_walk {W : World} (S : Option Addr) (l : List El) (cap : Nat) (len t side : Int) (h2 : l.length ≤ 9223372036854775807) (hp : Hid (pathAt W S l)) (ht : I64 t) (hs : I64 side) (w : World) (hw : w = W := by rfl) :
    Calls Try.prog 3 #[.agg #[.slice S l.length cap, .int .i64 len], .int .i64 t, .int .i64 side] w fun e w' => e = .returned (.bool true) ∧ Below w.heap.size w w' := by
  subst hw
  by_cases h0 : side < 200
  · exact topc_lo w S l cap len t side h2 hp h0
  by_cases h1 : 200000 < side
  · exact topc_hi w S l cap len t side h2 hp (by omega) h1
  by_cases h3 : t < 0
  · exact topc_neg w S l cap len t side h2 hp (by omega) (by omega) h3
  by_cases hc : chkF l len = 0
  · obtain ⟨⟨X, Y, C, E⟩, hR⟩ : ∃ R, R = patF l len t := ⟨_, rfl⟩
    by_cases hE : E = 0
    · subst hE
      obtain ⟨_, _, _, T, hT, _⟩ := pat_ok hR.symm
      have hl : 0 < l.length := by
        cases l with
        | nil => cases hT
        | cons x l => simp
      obtain ⟨b, o, rfl⟩ := pathAt_some hp.out hl
      exact topc_good w b o l cap len t side h2 hp (by omega) (by omega) (by omega) hc X Y C hR
    · exact topc_err w S l cap len t side h2 hp (by omega) (by omega) (by omega) hc X Y C E hR hE
  · exact topc_bad w S l cap len t side h2 hp (by omega) (by omega) (by omega) _ rfl hc
end Go.Proofs.Ytdfkkknkiioghaa

/-
  TopCentered: the row's step: the given statement 'TopCenteredSaid' out of the walk.
-/
namespace Go.Proofs.Ytdfkkknkiioghaa.topCentered
open Go.ChangeShapes Go.WideShapes Go.ChangeAt Go.RowKit
set_option linter.unusedVariables false

theorem own : ownKnob Try.prog.godebug = none := by kernel_rfl
theorem laidOut : laidOutB Try.prog = true := pf_laid
theorem typed : (Try.f3.params.toList.all fun t => Try.prog.readableRec t && decide (t < Try.prog.types.size)) = true := by kernel_rfl
theorem typed' : ∀ t ∈ Try.f3.params.toList, Try.prog.readableRec t = true ∧ t < Try.prog.types.size := by
  intro t ht
  have h := List.all_eq_true.1 typed t ht
  simpa using h
theorem ct24 : Try.prog.cellTypes Try.prog.depth 24 = some [22, 2] := by kernel_rfl
theorem cn24 : Try.prog.cellsOf 24 = ([22, 2] : List TypeId).length := by kernel_rfl
set_option maxRecDepth 100000 in
theorem lifted (os : Os) (started : os.Started) (H : Type) (enc : TypeId × Value → H) :
    ReturnsInHanded {} Try.checked os 3 .any (Rows.topCenteredSpec.pre6 enc Try.prog Try.f3 Rows.topCenteredRow.domain false) (Rows.topCenteredSpec.post enc Try.prog Try.f3 false true false false) := by
  refine returnsInHanded_of_change (C := Try.checked) own started (by kernel_rfl) Try.func3
    (ChangeSpec.witness6 (enc := enc) (C := Try.checked) false ⟨#[], #[.agg #[.slice none 0 0, .int .i64 0], .int .i64 0, .int .i64 0], []⟩ 8 (by kernel_rfl) (by kernel_rfl) (by kernel_rfl) (by kernel_rfl)) ?_
  intro W base args ds gs before hval0 hW hcnd _
  have hval : ∀ (j : Nat) t v, Try.f3.params[j]? = some t → args[j]? = some v → Value.okWide Try.prog W .any base t v := hval0
  have hW' := hW
  obtain ⟨p, q, hA0, hV, rfl, hfz, hnd⟩ := hW
  have hlen := trodAll_length _ _ _ _ hA0
  rw [Try.params3] at hval hlen
  obtain ⟨v0, v1, v2, rfl⟩ := arr3 hlen.1
  obtain ⟨d0, d1, d2, rfl⟩ := list3 hlen.2
  obtain ⟨lp, rfl, ep, hlp⟩ := ok_agg (Or.inl ⟨_, Try.underlying24⟩) ct24 cn24 (hval 0 24 v0 rfl rfl)
  obtain ⟨pc0, pc1, rfl⟩ := list2 (ep.trans (by rfl))
  have hA' := hA0
  rw [Try.params3] at hA'
  obtain ⟨_, _, hTp, _⟩ := hA'
  obtain ⟨pS, pl, pcap, plen, hpv, hpl, hpp⟩ := path_in hTp ⟨pc0, pc1, rfl⟩
  obtain ⟨rfl, rfl⟩ : pc0 = .slice pS pl.length pcap ∧ pc1 = .int .i64 plen := by simpa using hpv
  obtain ⟨dist, rfl, hdist⟩ := ok_i64 Try.underlying2 (hval 1 2 v1 rfl rfl)
  obtain ⟨side, rfl, hside⟩ := ok_i64 Try.underlying2 (hval 2 2 v2 rfl rfl)
  refine (topCentered_walk pS pl pcap plen dist side hpl (hide hpp) hdist hside W).mono fun e W' ⟨he, hb⟩ => ?_
  subst he
  exact ⟨_, rfl, law_post (f := Try.f3) (s := Rows.topCenteredSpec) (tb := 4) laidOut typed' rfl (by kernel_rfl) Try.underlying4 hW' ⟨rfl, rfl, rfl⟩ hb⟩

theorem k0 : (Rows.topCenteredRow.wf (OpenSpec.ofChange Rows.topCenteredSpec)) = true := by kernel_rfl
theorem k3 : (Try.f3.params.all (Try.prog.readableRec ·)) = true := by kernel_rfl
theorem k4 : (namedTie Try.prog Rows.topCenteredRow.named Rows.topCenteredSpec.vars) = true := by kernel_rfl
theorem k5 : (Rows.topCenteredRow.stops == []) = true := by kernel_rfl
theorem k7 : (Rows.topCenteredRow.knobs == []) = true := by kernel_rfl
theorem k9 : (Rows.topCenteredRow.inPlace == Try.prog.inPlace 3) = true := by kernel_rfl
theorem k10 : (Rows.topCenteredRow.unfollowed == Try.prog.unfollowed 3) = true := by kernel_rfl
theorem k11 : (Rows.topCenteredRow.recurses == Try.prog.recurses 3) = true := by kernel_rfl
theorem k12 : (Rows.topCenteredRow.named == Try.prog.varsNamed 3) = true := by kernel_rfl
theorem k13 : (Rows.topCenteredRow.maps == (Try.f3.params.toList ++ Rows.topCenteredSpec.plain.varTypes Try.prog).any (Try.prog.mapsRec ·)) = true := by kernel_rfl
theorem k14 : (Rows.topCenteredRow.ifaces == (Try.f3.params.toList ++ Rows.topCenteredSpec.plain.varTypes Try.prog).any (Try.prog.ifacesRec ·)) = true := by kernel_rfl
theorem k15 : (Rows.topCenteredRow.mapsOut == Try.prog.mapsAmong Try.f3.resultTypes.toList) = true := by kernel_rfl
theorem k16 : (Rows.topCenteredRow.loops == (Try.f3.params.toList ++ Rows.topCenteredSpec.plain.varTypes Try.prog).any (Try.prog.loopsFrom ·)) = true := by kernel_rfl
theorem k17 : (Rows.topCenteredRow.wideKeys == (Try.f3.params.toList ++ Rows.topCenteredSpec.plain.varTypes Try.prog ++ Try.f3.resultTypes.toList).any (Try.prog.wideKeysFrom ·)) = true := by kernel_rfl
theorem k18 : (Rows.topCenteredSpec.vars.all (Try.prog.varReadable ·)) = true := by kernel_rfl
theorem k19 : (Try.f3.resultTypes.all (fun t => Try.prog.readableRec t && decide (t < Try.prog.types.size))) = true := by kernel_rfl
theorem k20 : (Rows.topCenteredRow.ifacesOut == Try.f3.resultTypes.toList.any (Try.prog.ifacesRec ·)) = true := by kernel_rfl
theorem k21 : (Rows.topCenteredRow.loopsOut == Try.f3.resultTypes.toList.any (Try.prog.loopsFrom ·)) = true := by kernel_rfl
theorem k22 : (Rows.topCenteredRow.plainKeys == Try.prog.plainKeys) = true := by kernel_rfl
theorem k23 : (Rows.topCenteredRow.shortTexts.isNone) = true := by kernel_rfl
theorem k26 : (Rows.topCenteredRow.lifted == Try.prog.liftsFinal) = true := by rw [pf_lifts]; rfl
theorem k27 : (Try.prog.make == some Rows.topCenteredRow.make) = true := by rw [pf_make]; rfl
theorem k28 : (Rows.topCenteredRow.kinds == (if Rows.topCenteredRow.domain.isEmpty then [] else Try.f3.params.toList.map fun t => match Try.prog.underlying t with | some (.int k) => some k | _ => none)) = true := by kernel_rfl
theorem k29 : (Rows.topCenteredRow.pinned == Rows.topCenteredRow.pinnedBy) = true := by kernel_rfl
theorem k30 : (Rows.topCenteredRow.veiled == (Try.f3.params.toList ++ Rows.topCenteredSpec.plain.varTypes Try.prog ++ Try.f3.resultTypes.toList).any (Try.prog.veiledRec ·)) = true := by kernel_rfl
theorem k31 : (Rows.topCenteredRow.veiledFits Try.prog Try.f3.params.toList (Try.f3.params.toList ++ Rows.topCenteredSpec.plain.varTypes Try.prog ++ Try.f3.resultTypes.toList)) = true := by kernel_rfl
set_option maxRecDepth 100000 in
theorem closed : joinedFacts Try.prog 3 Try.f3 Rows.topCenteredSpec Rows.topCenteredRow = true := (band (band (band (band (band (band (band (band (band (band (band (band (band (band (band (band (band (band (band (band (band (band (band (band (band (band (band (band (band (band (band k0 pf_laid) pf_maps) k3) k4) k5) pf_stops) k7) pf_knobs) k9) k10) k11) k12) k13) k14) k15) k16) k17) k18) k19) k20) k21) k22) k23) pf_heard) pf_enter) k26) k27) k28) k29) k30) k31)
theorem byName : Try.prog.funcNamed Rows.topCenteredRow.func = some 3 := by kernel_rfl
theorem inst : Try.f3.isInstance Try.prog Rows.topCenteredRow.origin Rows.topCenteredRow.targs := of_decide_eq_true (by kernel_rfl)
theorem over : Rows.topCenteredRow.holds Try.pinned (OpenSpec.ofChange Rows.topCenteredSpec) :=
  OpenClaim.holds_of_wide 3 Try.f3 rfl rfl rfl rfl rfl rfl rfl ⟨rfl, rfl, rfl, rfl, rfl⟩ rfl rfl rfl rfl rfl byName Try.func3 closed
    inst (by unfold Func.isWrapper; rw [if_neg (of_decide_eq_false (by kernel_rfl))]; exact ⟨rfl, rfl⟩)
    (fun os started H enc _ => lifted os started H enc)

/-- The given statement. -/
theorem proved : Rows.TopCenteredSaid := over
end Go.Proofs.Ytdfkkknkiioghaa.topCentered

