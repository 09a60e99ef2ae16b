/-
  The walk of the law SequenceWhole.
-/
import Derived.Test.YtdfkkknkiioghaaMAwake28
import Derived.Test.YtdfkkknkiioghaaMSeqA
import Derived.Test.YtdfkkknkiioghaaMToGo
import Derived.Test.YtdfkkknkiioghaaRows
import Derived.Test.YtdfkkknkiioghaaMFrame
import Derived.Test.YtdfkkknkiioghaaMPathIn
namespace Go.Proofs.Ytdfkkknkiioghaa
open Go.RowKit
set_option linter.unusedVariables false
set_option linter.unusedSimpArgs false
set_option maxRecDepth 100000 in
set_option maxHeartbeats 4000000 in
theorem whole_bad (w : World) (S : Option Addr) (l : List El) (cap : Nat) (len : Int) (h2 : l.length ≤ 9223372036854775807) (hp : Hid (pathAt w S l)) (E : Int) (hc : chkF l len = E) (h : ¬ E = 0) :
    Calls Try.prog 7 #[.agg #[.slice S l.length cap, .int .i64 len]] w fun e w' => e = .returned (.bool true) ∧ Below w.heap.size w w' := by
  have CK := fun W hb => chk_any S l cap len W h2 (hide (pathAt_below hb hp.out))
  rw [hc] at CK
  clear hc
  have T : (E != 0) = true := bne_iff_ne.2 h
  go_enter Try.func7, Try.ntmps7
  go_wp2_with fail
  refine (awake28_any _).mono ?_
  rintro e w1 ⟨rfl, hb1⟩
  obtain ⟨f1, f2⟩ : w1.cell? ⟨w.heap.size, 0, none⟩ = some (.slice S l.length cap) ∧ w1.cell? ⟨w.heap.size, 1, none⟩ = some (.int .i64 len) := by
    refine ⟨?_, ?_⟩ <;> (refine cell_below hb1 ?_; repeat (first | (with_reducible assumption) | ((with_reducible refine cell_set ?_ ?_ _); (· first | (simp; done) | (simp; omega) | omega)) | ((with_reducible refine cell_new ?_ ?_); (· (simp; done)); (· rfl)) | (with_reducible refine cell_alloc ?_ _) | (with_reducible refine cell_drew ?_) | (with_reducible refine cell_drewN ?_ _) | (with_reducible refine cell_below (by assumption) ?_)))
  have zf1 : w.heap.size < w1.heap.size := World.block_lt_of_cell? _ _ f1
  go_wp2_with fail
  refine (CK _ (by (repeat (with_reducible (first | assumption | exact Below.refl _ _ | refine Below.drew ?_ | refine below_drewN ?_ _ | refine below_set ?_ (by simp; try omega) _ | refine below_alloc ?_ (Nat.le_refl _) _ | refine below_sub (by assumption) ?_))))).mono ?_
  rintro e w2 ⟨rfl, hb2⟩
  obtain ⟨f3, f4⟩ : w2.cell? ⟨w.heap.size, 0, none⟩ = some (.slice S l.length cap) ∧ w2.cell? ⟨w.heap.size, 1, none⟩ = some (.int .i64 len) := by
    refine ⟨?_, ?_⟩ <;> (refine cell_below hb2 ?_; repeat (first | (with_reducible assumption) | ((with_reducible refine cell_set ?_ ?_ _); (· first | (simp; done) | (simp; omega) | omega)) | ((with_reducible refine cell_new ?_ ?_); (· (simp; done)); (· rfl)) | (with_reducible refine cell_alloc ?_ _) | (with_reducible refine cell_drew ?_) | (with_reducible refine cell_drewN ?_ _) | (with_reducible refine cell_below (by assumption) ?_)))
  have zf3 : w.heap.size < w2.heap.size := World.block_lt_of_cell? _ _ f3
  clear f1 zf1 f2
  go_wp2_with fail
  all_goals
    go_ret
    exact ⟨rfl, by (repeat (with_reducible (first | assumption | exact Below.refl _ _ | refine Below.drew ?_ | refine below_drewN ?_ _ | refine below_set ?_ (by simp; try omega) _ | refine below_alloc ?_ (Nat.le_refl _) _ | refine below_sub (by assumption) ?_)))⟩
set_option maxRecDepth 100000 in
set_option maxHeartbeats 4000000 in
theorem whole_nil (w : World) (S : Option Addr) (l : List El) (cap : Nat) (len : Int) (h2 : l.length ≤ 9223372036854775807) (hp : Hid (pathAt w S l)) (hc : chkF l len = 0) (hl : l.length = 0) :
    Calls Try.prog 7 #[.agg #[.slice S l.length cap, .int .i64 len]] w fun e w' => e = .returned (.bool true) ∧ Below w.heap.size w w' := by
  have CK := fun W hb => chk_any S l cap len W h2 (hide (pathAt_below hb hp.out))
  rw [hc] at CK
  clear hc
  have T0 : ((l.length : Int) == 0) = true := by rw [hl]; rfl
  clear hl
  go_enter Try.func7, Try.ntmps7
  go_wp2_with fail
  refine (awake28_any _).mono ?_
  rintro e w1 ⟨rfl, hb1⟩
  obtain ⟨f1, f2⟩ : w1.cell? ⟨w.heap.size, 0, none⟩ = some (.slice S l.length cap) ∧ w1.cell? ⟨w.heap.size, 1, none⟩ = some (.int .i64 len) := by
    refine ⟨?_, ?_⟩ <;> (refine cell_below hb1 ?_; repeat (first | (with_reducible assumption) | ((with_reducible refine cell_set ?_ ?_ _); (· first | (simp; done) | (simp; omega) | omega)) | ((with_reducible refine cell_new ?_ ?_); (· (simp; done)); (· rfl)) | (with_reducible refine cell_alloc ?_ _) | (with_reducible refine cell_drew ?_) | (with_reducible refine cell_drewN ?_ _) | (with_reducible refine cell_below (by assumption) ?_)))
  have zf1 : w.heap.size < w1.heap.size := World.block_lt_of_cell? _ _ f1
  go_wp2_with fail
  refine (CK _ (by (repeat (with_reducible (first | assumption | exact Below.refl _ _ | refine Below.drew ?_ | refine below_drewN ?_ _ | refine below_set ?_ (by simp; try omega) _ | refine below_alloc ?_ (Nat.le_refl _) _ | refine below_sub (by assumption) ?_))))).mono ?_
  rintro e w2 ⟨rfl, hb2⟩
  obtain ⟨f3, f4⟩ : w2.cell? ⟨w.heap.size, 0, none⟩ = some (.slice S l.length cap) ∧ w2.cell? ⟨w.heap.size, 1, none⟩ = some (.int .i64 len) := by
    refine ⟨?_, ?_⟩ <;> (refine cell_below hb2 ?_; repeat (first | (with_reducible assumption) | ((with_reducible refine cell_set ?_ ?_ _); (· first | (simp; done) | (simp; omega) | omega)) | ((with_reducible refine cell_new ?_ ?_); (· (simp; done)); (· rfl)) | (with_reducible refine cell_alloc ?_ _) | (with_reducible refine cell_drew ?_) | (with_reducible refine cell_drewN ?_ _) | (with_reducible refine cell_below (by assumption) ?_)))
  have zf3 : w.heap.size < w2.heap.size := World.block_lt_of_cell? _ _ f3
  clear f1 zf1 f2
  go_wp2_with fail
  all_goals
    go_ret
    exact ⟨rfl, by (repeat (with_reducible (first | assumption | exact Below.refl _ _ | refine Below.drew ?_ | refine below_drewN ?_ _ | refine below_set ?_ (by simp; try omega) _ | refine below_alloc ?_ (Nat.le_refl _) _ | refine below_sub (by assumption) ?_)))⟩
set_option maxRecDepth 100000 in
set_option maxHeartbeats 4000000 in
theorem whole_arc (w : World) (b o : Nat) (l : List El) (cap : Nat) (len : Int) (h2 : l.length ≤ 9223372036854775807) (hp : Hid (pathAt w (some ⟨b, o, none⟩) l)) (hc : chkF l len = 0) (x : El) (hx : l[0]? = some x) (hcv : x.c = true) :
    Calls Try.prog 7 #[.agg #[.slice (some ⟨b, o, none⟩) l.length cap, .int .i64 len]] w fun e w' => e = .returned (.bool true) ∧ Below w.heap.size w w' := by
  have CK := fun W hb => chk_any (some ⟨b, o, none⟩) l cap len W h2 (hide (pathAt_below hb hp.out))
  rw [hc] at CK
  have l0 := (List.getElem?_eq_some_iff.1 hx).1
  have hat := pathAt_get hp.out hx
  have c0 : w.cell? ⟨b, o, none⟩ = some (.bool x.c) := by simpa using hat.1
  have T0 : ((l.length : Int) == 0) = false := by simp; intro h; rw [h] at l0; simp at l0
  rw [hcv] at c0
  clear hc hx hat hcv
  go_enter Try.func7, Try.ntmps7
  go_wp2_with fail
  refine (awake28_any _).mono ?_
  rintro e w1 ⟨rfl, hb1⟩
  obtain ⟨f1, f2, f3⟩ : w1.cell? ⟨w.heap.size, 0, none⟩ = some (.slice (some ⟨b, o, none⟩) l.length cap) ∧ w1.cell? ⟨w.heap.size, 1, none⟩ = some (.int .i64 len) ∧ w1.cell? ⟨b, o, none⟩ = some (.bool true) := by
    refine ⟨?_, ?_, ?_⟩ <;> (refine cell_below hb1 ?_; repeat (first | (with_reducible assumption) | ((with_reducible refine cell_set ?_ ?_ _); (· first | (simp; done) | (simp; omega) | omega)) | ((with_reducible refine cell_new ?_ ?_); (· (simp; done)); (· rfl)) | (with_reducible refine cell_alloc ?_ _) | (with_reducible refine cell_drew ?_) | (with_reducible refine cell_drewN ?_ _) | (with_reducible refine cell_below (by assumption) ?_)))
  have zf1 : w.heap.size < w1.heap.size := World.block_lt_of_cell? _ _ f1
  have zf3 : b < w1.heap.size := World.block_lt_of_cell? _ _ f3
  clear c0
  go_wp2_with fail
  refine (CK _ (by (repeat (with_reducible (first | assumption | exact Below.refl _ _ | refine Below.drew ?_ | refine below_drewN ?_ _ | refine below_set ?_ (by simp; try omega) _ | refine below_alloc ?_ (Nat.le_refl _) _ | refine below_sub (by assumption) ?_))))).mono ?_
  rintro e w2 ⟨rfl, hb2⟩
  obtain ⟨f4, f5, f6⟩ : w2.cell? ⟨w.heap.size, 0, none⟩ = some (.slice (some ⟨b, o, none⟩) l.length cap) ∧ w2.cell? ⟨w.heap.size, 1, none⟩ = some (.int .i64 len) ∧ w2.cell? ⟨b, o, none⟩ = some (.bool true) := by
    refine ⟨?_, ?_, ?_⟩ <;> (refine cell_below hb2 ?_; repeat (first | (with_reducible assumption) | ((with_reducible refine cell_set ?_ ?_ _); (· first | (simp; done) | (simp; omega) | omega)) | ((with_reducible refine cell_new ?_ ?_); (· (simp; done)); (· rfl)) | (with_reducible refine cell_alloc ?_ _) | (with_reducible refine cell_drew ?_) | (with_reducible refine cell_drewN ?_ _) | (with_reducible refine cell_below (by assumption) ?_)))
  have zf4 : w.heap.size < w2.heap.size := World.block_lt_of_cell? _ _ f4
  have zf6 : b < w2.heap.size := World.block_lt_of_cell? _ _ f6
  clear f1 zf1 f2 f3 zf3
  go_wp2_with fail
  all_goals
    go_ret
    exact ⟨rfl, by (repeat (with_reducible (first | assumption | exact Below.refl _ _ | refine Below.drew ?_ | refine below_drewN ?_ _ | refine below_set ?_ (by simp; try omega) _ | refine below_alloc ?_ (Nat.le_refl _) _ | refine below_sub (by assumption) ?_)))⟩
set_option maxRecDepth 100000 in
set_option maxHeartbeats 4000000 in
theorem whole_line (w : World) (b o : Nat) (l : List El) (cap : Nat) (len : Int) (h2 : l.length ≤ 9223372036854775807) (hp : Hid (pathAt w (some ⟨b, o, none⟩) l)) (hc : chkF l len = 0) (x : El) (hx : l[0]? = some x) (hcv : x.c = false) :
    Calls Try.prog 7 #[.agg #[.slice (some ⟨b, o, none⟩) l.length cap, .int .i64 len]] w fun e w' => e = .returned (.bool true) ∧ Below w.heap.size w w' := by
  have CK := fun W hb => chk_any (some ⟨b, o, none⟩) l cap len W h2 (hide (pathAt_below hb hp.out))
  have hle := (okPath hc).short
  have W0 := hide (fun hg => whole (okPath hc) hx hcv hg)
  have S0 : Hid ((0, x.n, (0 : Int)) = startF l len 0) := hide (by unfold startF; rw [if_neg (by simp [hc]), if_neg (by have := (List.getElem?_eq_some_iff.1 hx).1; omega)]; simp [hx])
  have HC := hide hc
  have HX := hide hx
  rw [hc] at CK
  have l0 := (List.getElem?_eq_some_iff.1 hx).1
  have hat := pathAt_get hp.out hx
  have c0 : w.cell? ⟨b, o, none⟩ = some (.bool x.c) := by simpa using hat.1
  have T0 : ((l.length : Int) == 0) = false := by simp; intro h; rw [h] at l0; simp at l0
  have c1 : w.cell? ⟨b, o + 1, none⟩ = some (.int .i64 x.ax) := by simpa using hat.2.1
  have c2 : w.cell? ⟨b, o + 2, none⟩ = some (.int .i64 x.ay) := by simpa using hat.2.2.1
  rw [hcv] at c0
  have HV := hide hcv
  clear hc hx hat hcv
  go_enter Try.func7, Try.ntmps7
  go_wp2_with fail
  refine (awake28_any _).mono ?_
  rintro e w1 ⟨rfl, hb1⟩
  obtain ⟨f1, f2, f3, f4, f5⟩ : w1.cell? ⟨w.heap.size, 0, none⟩ = some (.slice (some ⟨b, o, none⟩) l.length cap) ∧ w1.cell? ⟨w.heap.size, 1, none⟩ = some (.int .i64 len) ∧ w1.cell? ⟨b, o, none⟩ = some (.bool false) ∧ w1.cell? ⟨b, o + 1, none⟩ = some (.int .i64 x.ax) ∧ w1.cell? ⟨b, o + 2, none⟩ = some (.int .i64 x.ay) := by
    refine ⟨?_, ?_, ?_, ?_, ?_⟩ <;> (refine cell_below hb1 ?_; repeat (first | (with_reducible assumption) | ((with_reducible refine cell_set ?_ ?_ _); (· first | (simp; done) | (simp; omega) | omega)) | ((with_reducible refine cell_new ?_ ?_); (· (simp; done)); (· rfl)) | (with_reducible refine cell_alloc ?_ _) | (with_reducible refine cell_drew ?_) | (with_reducible refine cell_drewN ?_ _) | (with_reducible refine cell_below (by assumption) ?_)))
  have zf1 : w.heap.size < w1.heap.size := World.block_lt_of_cell? _ _ f1
  have zf3 : b < w1.heap.size := World.block_lt_of_cell? _ _ f3
  clear c0 c1 c2
  go_wp2_with fail
  refine (CK _ (by (repeat (with_reducible (first | assumption | exact Below.refl _ _ | refine Below.drew ?_ | refine below_drewN ?_ _ | refine below_set ?_ (by simp; try omega) _ | refine below_alloc ?_ (Nat.le_refl _) _ | refine below_sub (by assumption) ?_))))).mono ?_
  rintro e w2 ⟨rfl, hb2⟩
  obtain ⟨f6, f7, f8, f9, f10⟩ : w2.cell? ⟨w.heap.size, 0, none⟩ = some (.slice (some ⟨b, o, none⟩) l.length cap) ∧ w2.cell? ⟨w.heap.size, 1, none⟩ = some (.int .i64 len) ∧ w2.cell? ⟨b, o, none⟩ = some (.bool false) ∧ w2.cell? ⟨b, o + 1, none⟩ = some (.int .i64 x.ax) ∧ w2.cell? ⟨b, o + 2, none⟩ = some (.int .i64 x.ay) := by
    refine ⟨?_, ?_, ?_, ?_, ?_⟩ <;> (refine cell_below hb2 ?_; repeat (first | (with_reducible assumption) | ((with_reducible refine cell_set ?_ ?_ _); (· first | (simp; done) | (simp; omega) | omega)) | ((with_reducible refine cell_new ?_ ?_); (· (simp; done)); (· rfl)) | (with_reducible refine cell_alloc ?_ _) | (with_reducible refine cell_drew ?_) | (with_reducible refine cell_drewN ?_ _) | (with_reducible refine cell_below (by assumption) ?_)))
  have zf6 : w.heap.size < w2.heap.size := World.block_lt_of_cell? _ _ f6
  have zf8 : b < w2.heap.size := World.block_lt_of_cell? _ _ f8
  clear f1 zf1 f2 f3 zf3 f4 f5
  go_wp2_with fail
  go_loopw [29] (fun i W => ∃ k : Nat, k ≤ l.length ∧ i = .int .i64 k ∧ Hid (∀ (j : Nat) (y : El), j < k → l[j]? = some y → y.g = false) ∧ W.cell? ⟨w.heap.size, 0, none⟩ = some (.slice (some ⟨b, o, none⟩) l.length cap) ∧ W.cell? ⟨w.heap.size, 1, none⟩ = some (.int .i64 len) ∧ W.cell? ⟨b, o, none⟩ = some (.bool false) ∧ W.cell? ⟨b, o + 1, none⟩ = some (.int .i64 x.ax) ∧ W.cell? ⟨b, o + 2, none⟩ = some (.int .i64 x.ay) ∧ Below w.heap.size w W) (fun i _ => l.length - (intOf i).toNat)
  case atStart => exact ⟨0, by omega, rfl, hide (fun j y h _ => absurd h (Nat.not_lt_zero _)), f6, f7, f8, f9, f10, by (repeat (with_reducible (first | assumption | exact Below.refl _ _ | refine Below.drew ?_ | refine below_drewN ?_ _ | refine below_set ?_ (by simp; try omega) _ | refine below_alloc ?_ (Nat.le_refl _) _ | refine below_sub (by assumption) ?_)))⟩
  case round =>
    obtain ⟨k, hk, rfl, G, p0, p1, d0, d1, d2, K⟩ := hrel
    have zp : w.heap.size < wr.heap.size := World.block_lt_of_cell? _ _ p0
    have zb : b < wr.heap.size := World.block_lt_of_cell? _ _ d0
    by_cases hlt : k < l.length
    · obtain ⟨y, hy⟩ : ∃ y, l[k]? = some y := ⟨_, List.getElem?_eq_getElem hlt⟩
      have hat := pathAt_get (pathAt_below K hp.out) hy
      have HY := hide hy
      clear hy
      have e0 : wr.cell? ⟨b, o + k * 13, none⟩ = some (.bool y.c) := hat.1
      have e1 : wr.cell? ⟨b, o + k * 13 + 1, none⟩ = some (.int .i64 y.ax) := hat.2.1
      have e2 : wr.cell? ⟨b, o + k * 13 + 2, none⟩ = some (.int .i64 y.ay) := hat.2.2.1
      have e3 : wr.cell? ⟨b, o + k * 13 + 3, none⟩ = some (.int .i64 y.bx) := hat.2.2.2.1
      have e4 : wr.cell? ⟨b, o + k * 13 + 4, none⟩ = some (.int .i64 y.b_y) := hat.2.2.2.2.1
      have e5 : wr.cell? ⟨b, o + k * 13 + 5, none⟩ = some (.int .i64 y.cx) := hat.2.2.2.2.2.1
      have e6 : wr.cell? ⟨b, o + k * 13 + 6, none⟩ = some (.int .i64 y.cy) := hat.2.2.2.2.2.2.1
      have e7 : wr.cell? ⟨b, o + k * 13 + 7, none⟩ = some (.int .i64 y.r) := hat.2.2.2.2.2.2.2.1
      have e8 : wr.cell? ⟨b, o + k * 13 + 8, none⟩ = some (.int .i64 y.f) := hat.2.2.2.2.2.2.2.2.1
      have e9 : wr.cell? ⟨b, o + k * 13 + 9, none⟩ = some (.int .i64 y.s) := hat.2.2.2.2.2.2.2.2.2.1
      have e10 : wr.cell? ⟨b, o + k * 13 + 10, none⟩ = some (.int .i64 y.L) := hat.2.2.2.2.2.2.2.2.2.2.1
      have e11 : wr.cell? ⟨b, o + k * 13 + 11, none⟩ = some (.int .i64 y.n) := hat.2.2.2.2.2.2.2.2.2.2.2.1
      have e12 : wr.cell? ⟨b, o + k * 13 + 12, none⟩ = some (.bool y.g) := hat.2.2.2.2.2.2.2.2.2.2.2.2
      clear hat
      rcases hg : y.g with _ | _
      · rw [hg] at e12
        go_wp2_with fail
        go_roundw
        case rel => exact ⟨k + 1, by omega, by go_num, hide (fun j z hj hz => by
          rcases Nat.lt_or_ge j k with h | h
          · exact G.out j z h hz
          · obtain rfl : j = k := by omega
            have := HY.out.symm.trans hz
            injection this with this
            rw [← this]; exact hg), by (repeat (first | (with_reducible assumption) | ((with_reducible refine cell_set ?_ ?_ _); (· first | (simp; done) | (simp; omega) | omega)) | ((with_reducible refine cell_new ?_ ?_); (· (simp; done)); (· rfl)) | (with_reducible refine cell_alloc ?_ _) | (with_reducible refine cell_drew ?_) | (with_reducible refine cell_drewN ?_ _) | (with_reducible refine cell_below (by assumption) ?_))), by (repeat (first | (with_reducible assumption) | ((with_reducible refine cell_set ?_ ?_ _); (· first | (simp; done) | (simp; omega) | omega)) | ((with_reducible refine cell_new ?_ ?_); (· (simp; done)); (· rfl)) | (with_reducible refine cell_alloc ?_ _) | (with_reducible refine cell_drew ?_) | (with_reducible refine cell_drewN ?_ _) | (with_reducible refine cell_below (by assumption) ?_))), by (repeat (first | (with_reducible assumption) | ((with_reducible refine cell_set ?_ ?_ _); (· first | (simp; done) | (simp; omega) | omega)) | ((with_reducible refine cell_new ?_ ?_); (· (simp; done)); (· rfl)) | (with_reducible refine cell_alloc ?_ _) | (with_reducible refine cell_drew ?_) | (with_reducible refine cell_drewN ?_ _) | (with_reducible refine cell_below (by assumption) ?_))), by (repeat (first | (with_reducible assumption) | ((with_reducible refine cell_set ?_ ?_ _); (· first | (simp; done) | (simp; omega) | omega)) | ((with_reducible refine cell_new ?_ ?_); (· (simp; done)); (· rfl)) | (with_reducible refine cell_alloc ?_ _) | (with_reducible refine cell_drew ?_) | (with_reducible refine cell_drewN ?_ _) | (with_reducible refine cell_below (by assumption) ?_))), by (repeat (first | (with_reducible assumption) | ((with_reducible refine cell_set ?_ ?_ _); (· first | (simp; done) | (simp; omega) | omega)) | ((with_reducible refine cell_new ?_ ?_); (· (simp; done)); (· rfl)) | (with_reducible refine cell_alloc ?_ _) | (with_reducible refine cell_drew ?_) | (with_reducible refine cell_drewN ?_ _) | (with_reducible refine cell_below (by assumption) ?_))), by (repeat (with_reducible (first | assumption | exact Below.refl _ _ | refine Below.drew ?_ | refine below_drewN ?_ _ | refine below_set ?_ (by simp; try omega) _ | refine below_alloc ?_ (Nat.le_refl _) _ | refine below_sub (by assumption) ?_)))⟩
        case measure => simp [intOf]; omega
      · rw [hg] at e12
        go_wp2_with fail
        go_ret
        exact ⟨rfl, by (repeat (with_reducible (first | assumption | exact Below.refl _ _ | refine Below.drew ?_ | refine below_drewN ?_ _ | refine below_set ?_ (by simp; try omega) _ | refine below_alloc ?_ (Nat.le_refl _) _ | refine below_sub (by assumption) ?_)))⟩
    · have hk3 : k = l.length := by omega
      subst hk3
      obtain ⟨W1, W2⟩ := W0.out (fun i y hy => G.out i y (List.getElem?_eq_some_iff.1 hy).1 hy)
      go_wp2_with fail
      refine (start_any (some ⟨b, o, none⟩) l cap len 0 _ h2 (hide (pathAt_below (show Below w.heap.size w _ by (repeat (with_reducible (first | assumption | exact Below.refl _ _ | refine Below.drew ?_ | refine below_drewN ?_ _ | refine below_set ?_ (by simp; try omega) _ | refine below_alloc ?_ (Nat.le_refl _) _ | refine below_sub (by assumption) ?_)))) hp.out)) (0, x.n, 0) S0.out).mono ?_
      rintro e w6 ⟨rfl, hb6⟩
      obtain ⟨f61, f62, f63, f64, f65⟩ : w6.cell? ⟨w.heap.size, 0, none⟩ = some (.slice (some ⟨b, o, none⟩) l.length cap) ∧ w6.cell? ⟨w.heap.size, 1, none⟩ = some (.int .i64 len) ∧ w6.cell? ⟨b, o, none⟩ = some (.bool false) ∧ w6.cell? ⟨b, o + 1, none⟩ = some (.int .i64 x.ax) ∧ w6.cell? ⟨b, o + 2, none⟩ = some (.int .i64 x.ay) := by
        refine ⟨?_, ?_, ?_, ?_, ?_⟩ <;> (refine cell_below hb6 ?_; repeat (first | (with_reducible assumption) | ((with_reducible refine cell_set ?_ ?_ _); (· first | (simp; done) | (simp; omega) | omega)) | ((with_reducible refine cell_new ?_ ?_); (· (simp; done)); (· rfl)) | (with_reducible refine cell_alloc ?_ _) | (with_reducible refine cell_drew ?_) | (with_reducible refine cell_drewN ?_ _) | (with_reducible refine cell_below (by assumption) ?_)))
      have zf61 : w.heap.size < w6.heap.size := World.block_lt_of_cell? _ _ f61
      have zf63 : b < w6.heap.size := World.block_lt_of_cell? _ _ f63
      clear p0 p1 d0 d1 d2
      have TG : ∀ W, Below w.heap.size w W → Calls Try.prog 20 #[.agg #[.slice (some ⟨b, o, none⟩) l.length cap, .int .i64 len], .agg #[.int .i64 0, .int .i64 x.n, .bool false], .agg #[.int .i64 x.ax, .int .i64 x.ay]] W (fun e w1 => e = .returned (.tuple #[.int .i64 len, .int .i64 0]) ∧ Below W.heap.size W w1) := fun W hb => togo_main b o l cap len 0 x.n x.ax x.ay W h2 (hide (pathAt_below (show Below w.heap.size w W from hb) hp.out)) HC.out l0 x HX.out 0 0 W1.symm len (hide W2)
      go_wp2_with fail
      go_region_held3 (fun w' => w'.cell? ⟨w.heap.size, 0, none⟩ = some (.slice (some ⟨b, o, none⟩) l.length cap) ∧ w'.cell? ⟨w.heap.size, 1, none⟩ = some (.int .i64 len) ∧ w'.cell? ⟨b, o, none⟩ = some (.bool false) ∧ w'.cell? ⟨b, o + 1, none⟩ = some (.int .i64 x.ax) ∧ w'.cell? ⟨b, o + 2, none⟩ = some (.int .i64 x.ay) ∧ w'.cell? ⟨w6.heap.size, 0, none⟩ = some (.int .i64 0) ∧ w'.cell? ⟨w6.heap.size, 1, none⟩ = some (.int .i64 x.n) ∧ w'.cell? ⟨w6.heap.size, 2, none⟩ = some (.bool false)) ((go_split_ands; refine ⟨?_, ?_, ?_, ?_, ?_, ?_, ?_, ?_⟩ <;> (repeat (first | (with_reducible assumption) | ((with_reducible refine cell_set ?_ ?_ _); (· first | (simp; done) | (simp; omega) | omega)) | ((with_reducible refine cell_new ?_ ?_); (· (simp; done)); (· rfl)) | (with_reducible refine cell_alloc ?_ _) | (with_reducible refine cell_drew ?_) | (with_reducible refine cell_drewN ?_ _) | (with_reducible refine cell_below (by assumption) ?_)))))
        (first
          | (go_at_call 20; (with_reducible refine (TG _ (by (repeat (with_reducible (first | assumption | exact Below.refl _ _ | refine Below.drew ?_ | refine below_drewN ?_ _ | refine below_set ?_ (by simp; try omega) _ | refine below_alloc ?_ (Nat.le_refl _) _ | refine below_sub (by assumption) ?_))))).mono ?_); rintro e w' ⟨rfl, hb'⟩))
      go_wp2_with fail
      all_goals
        go_ret
        exact ⟨rfl, by (repeat (with_reducible (first | assumption | exact Below.refl _ _ | refine Below.drew ?_ | refine below_drewN ?_ _ | refine below_set ?_ (by simp; try omega) _ | refine below_alloc ?_ (Nat.le_refl _) _ | refine below_sub (by assumption) ?_)))⟩
theorem sequenceWhole_walk {W : World} (S : Option Addr) (l : List El) (cap : Nat) (len : Int) (h2 : l.length ≤ 9223372036854775807) (hp : Hid (pathAt W S l)) (w : World) (hw : w = W := by rfl) :
    Calls Try.prog 7 #[.agg #[.slice S l.length cap, .int .i64 len]] w fun e w' => e = .returned (.bool true) ∧ Below w.heap.size w w' := by
  subst hw
  by_cases hc : chkF l len = 0
  · by_cases hl : l.length = 0
    · exact whole_nil w S l cap len h2 hp hc hl
    · obtain ⟨b, o, rfl⟩ := pathAt_some hp.out (by omega)
      obtain ⟨x, hx⟩ : ∃ x, l[0]? = some x := ⟨_, List.getElem?_eq_getElem (by omega)⟩
      rcases hcv : x.c with _ | _
      · exact whole_line w b o l cap len h2 hp hc x hx hcv
      · exact whole_arc w b o l cap len h2 hp hc x hx hcv
  · exact whole_bad w S l cap len h2 hp _ rfl hc
end Go.Proofs.Ytdfkkknkiioghaa

/-
  SequenceWhole: the row's step: the given statement 'SequenceWholeSaid' out of the walk.
-/
namespace Go.Proofs.Ytdfkkknkiioghaa.sequenceWhole
open Go.ChangeShapes Go.WideShapes Go.ChangeAt Go.RowKit
set_option linter.unusedVariables false

theorem own : ownKnob Try.prog.godebug = none := by kernel_rfl
theorem laidOut : laidOutB Try.prog = true := pf_laid
theorem typed : (Try.f7.params.toList.all fun t => Try.prog.readableRec t && decide (t < Try.prog.types.size)) = true := by kernel_rfl
theorem typed' : ∀ t ∈ Try.f7.params.toList, Try.prog.readableRec t = true ∧ t < Try.prog.types.size := by
  intro t ht
  have h := List.all_eq_true.1 typed t ht
  simpa using h
theorem ct24 : Try.prog.cellTypes Try.prog.depth 24 = some [22, 2] := by kernel_rfl
theorem cn24 : Try.prog.cellsOf 24 = ([22, 2] : List TypeId).length := by kernel_rfl
set_option maxRecDepth 100000 in
theorem lifted (os : Os) (started : os.Started) (H : Type) (enc : TypeId × Value → H) :
    ReturnsInHanded {} Try.checked os 7 .any (Rows.sequenceWholeSpec.pre6 enc Try.prog Try.f7 Rows.sequenceWholeRow.domain false) (Rows.sequenceWholeSpec.post enc Try.prog Try.f7 false true false false) := by
  refine returnsInHanded_of_change (C := Try.checked) own started (by kernel_rfl) Try.func7
    (ChangeSpec.witness6 (enc := enc) (C := Try.checked) false ⟨#[], #[.agg #[.slice none 0 0, .int .i64 0]], []⟩ 8 (by kernel_rfl) (by kernel_rfl) (by kernel_rfl) (by kernel_rfl)) ?_
  intro W base args ds gs before hval0 hW hcnd _
  have hval : ∀ (j : Nat) t v, Try.f7.params[j]? = some t → args[j]? = some v → Value.okWide Try.prog W .any base t v := hval0
  have hW' := hW
  obtain ⟨p, q, hA0, hV, rfl, hfz, hnd⟩ := hW
  have hlen := trodAll_length _ _ _ _ hA0
  rw [Try.params7] at hval hlen
  obtain ⟨v0, rfl⟩ := arr1 hlen.1
  obtain ⟨d0, rfl⟩ := list1 hlen.2
  obtain ⟨lp, rfl, ep, hlp⟩ := ok_agg (Or.inl ⟨_, Try.underlying24⟩) ct24 cn24 (hval 0 24 v0 rfl rfl)
  obtain ⟨pc0, pc1, rfl⟩ := list2 (ep.trans (by rfl))
  have hA' := hA0
  rw [Try.params7] at hA'
  obtain ⟨_, _, hTp, _⟩ := hA'
  obtain ⟨pS, pl, pcap, plen, hpv, hpl, hpp⟩ := path_in hTp ⟨pc0, pc1, rfl⟩
  obtain ⟨rfl, rfl⟩ : pc0 = .slice pS pl.length pcap ∧ pc1 = .int .i64 plen := by simpa using hpv
  refine (sequenceWhole_walk pS pl pcap plen hpl (hide hpp) W).mono fun e W' ⟨he, hb⟩ => ?_
  subst he
  exact ⟨_, rfl, law_post (f := Try.f7) (s := Rows.sequenceWholeSpec) (tb := 4) laidOut typed' rfl (by kernel_rfl) Try.underlying4 hW' ⟨rfl, rfl, rfl⟩ hb⟩

theorem k0 : (Rows.sequenceWholeRow.wf (OpenSpec.ofChange Rows.sequenceWholeSpec)) = true := by kernel_rfl
theorem k3 : (Try.f7.params.all (Try.prog.readableRec ·)) = true := by kernel_rfl
theorem k4 : (namedTie Try.prog Rows.sequenceWholeRow.named Rows.sequenceWholeSpec.vars) = true := by kernel_rfl
theorem k5 : (Rows.sequenceWholeRow.stops == []) = true := by kernel_rfl
theorem k7 : (Rows.sequenceWholeRow.knobs == []) = true := by kernel_rfl
theorem k9 : (Rows.sequenceWholeRow.inPlace == Try.prog.inPlace 7) = true := by kernel_rfl
theorem k10 : (Rows.sequenceWholeRow.unfollowed == Try.prog.unfollowed 7) = true := by kernel_rfl
theorem k11 : (Rows.sequenceWholeRow.recurses == Try.prog.recurses 7) = true := by kernel_rfl
theorem k12 : (Rows.sequenceWholeRow.named == Try.prog.varsNamed 7) = true := by kernel_rfl
theorem k13 : (Rows.sequenceWholeRow.maps == (Try.f7.params.toList ++ Rows.sequenceWholeSpec.plain.varTypes Try.prog).any (Try.prog.mapsRec ·)) = true := by kernel_rfl
theorem k14 : (Rows.sequenceWholeRow.ifaces == (Try.f7.params.toList ++ Rows.sequenceWholeSpec.plain.varTypes Try.prog).any (Try.prog.ifacesRec ·)) = true := by kernel_rfl
theorem k15 : (Rows.sequenceWholeRow.mapsOut == Try.prog.mapsAmong Try.f7.resultTypes.toList) = true := by kernel_rfl
theorem k16 : (Rows.sequenceWholeRow.loops == (Try.f7.params.toList ++ Rows.sequenceWholeSpec.plain.varTypes Try.prog).any (Try.prog.loopsFrom ·)) = true := by kernel_rfl
theorem k17 : (Rows.sequenceWholeRow.wideKeys == (Try.f7.params.toList ++ Rows.sequenceWholeSpec.plain.varTypes Try.prog ++ Try.f7.resultTypes.toList).any (Try.prog.wideKeysFrom ·)) = true := by kernel_rfl
theorem k18 : (Rows.sequenceWholeSpec.vars.all (Try.prog.varReadable ·)) = true := by kernel_rfl
theorem k19 : (Try.f7.resultTypes.all (fun t => Try.prog.readableRec t && decide (t < Try.prog.types.size))) = true := by kernel_rfl
theorem k20 : (Rows.sequenceWholeRow.ifacesOut == Try.f7.resultTypes.toList.any (Try.prog.ifacesRec ·)) = true := by kernel_rfl
theorem k21 : (Rows.sequenceWholeRow.loopsOut == Try.f7.resultTypes.toList.any (Try.prog.loopsFrom ·)) = true := by kernel_rfl
theorem k22 : (Rows.sequenceWholeRow.plainKeys == Try.prog.plainKeys) = true := by kernel_rfl
theorem k23 : (Rows.sequenceWholeRow.shortTexts.isNone) = true := by kernel_rfl
theorem k26 : (Rows.sequenceWholeRow.lifted == Try.prog.liftsFinal) = true := by rw [pf_lifts]; rfl
theorem k27 : (Try.prog.make == some Rows.sequenceWholeRow.make) = true := by rw [pf_make]; rfl
theorem k28 : (Rows.sequenceWholeRow.kinds == (if Rows.sequenceWholeRow.domain.isEmpty then [] else Try.f7.params.toList.map fun t => match Try.prog.underlying t with | some (.int k) => some k | _ => none)) = true := by kernel_rfl
theorem k29 : (Rows.sequenceWholeRow.pinned == Rows.sequenceWholeRow.pinnedBy) = true := by kernel_rfl
theorem k30 : (Rows.sequenceWholeRow.veiled == (Try.f7.params.toList ++ Rows.sequenceWholeSpec.plain.varTypes Try.prog ++ Try.f7.resultTypes.toList).any (Try.prog.veiledRec ·)) = true := by kernel_rfl
theorem k31 : (Rows.sequenceWholeRow.veiledFits Try.prog Try.f7.params.toList (Try.f7.params.toList ++ Rows.sequenceWholeSpec.plain.varTypes Try.prog ++ Try.f7.resultTypes.toList)) = true := by kernel_rfl
set_option maxRecDepth 100000 in
theorem closed : joinedFacts Try.prog 7 Try.f7 Rows.sequenceWholeSpec Rows.sequenceWholeRow = true := (band (band (band (band (band (band (band (band (band (band (band (band (band (band (band (band (band (band (band (band (band (band (band (band (band (band (band (band (band (band (band k0 pf_laid) pf_maps) k3) k4) k5) pf_stops) k7) pf_knobs) k9) k10) k11) k12) k13) k14) k15) k16) k17) k18) k19) k20) k21) k22) k23) pf_heard) pf_enter) k26) k27) k28) k29) k30) k31)
theorem byName : Try.prog.funcNamed Rows.sequenceWholeRow.func = some 7 := by kernel_rfl
theorem inst : Try.f7.isInstance Try.prog Rows.sequenceWholeRow.origin Rows.sequenceWholeRow.targs := of_decide_eq_true (by kernel_rfl)
theorem over : Rows.sequenceWholeRow.holds Try.pinned (OpenSpec.ofChange Rows.sequenceWholeSpec) :=
  OpenClaim.holds_of_wide 7 Try.f7 rfl rfl rfl rfl rfl rfl rfl ⟨rfl, rfl, rfl, rfl, rfl⟩ rfl rfl rfl rfl rfl byName Try.func7 closed
    inst (by unfold Func.isWrapper; rw [if_neg (of_decide_eq_false (by kernel_rfl))]; exact ⟨rfl, rfl⟩)
    (fun os started H enc _ => lifted os started H enc)

/-- The given statement. -/
theorem proved : Rows.SequenceWholeSaid := over
end Go.Proofs.Ytdfkkknkiioghaa.sequenceWhole

