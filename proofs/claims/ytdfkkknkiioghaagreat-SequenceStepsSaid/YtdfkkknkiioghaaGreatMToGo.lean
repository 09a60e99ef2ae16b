/-
  The walk of ToGo.
-/
import Derived.Test.YtdfkkknkiioghaaGreatMSeqP
import Derived.Test.YtdfkkknkiioghaaGreatMSeqA
import Derived.Test.YtdfkkknkiioghaaGreatMLoc
namespace Go.Proofs.YtdfkkknkiioghaaGreat
open Go.RowKit
set_option linter.unusedVariables false
set_option linter.unusedSimpArgs false
set_option maxRecDepth 100000 in
set_option maxHeartbeats 8000000 in
theorem togo_main (b o : Nat) (l : List El) (cap : Nat) (len : Int) (k : Nat) (e0 px py : Int) (w : World) (h2 : l.length ≤ 9223372036854775807) (hp : Hid (pathAt w (some ⟨b, o, none⟩) l)) (hc : chkF l len = 0) (hk : k < l.length) (x : El) (hx : l[k]? = some x)
    (off al : Int) (hl : (off, al, (0 : Int)) = locF x.c x.ax x.ay x.bx x.b_y x.cx x.cy x.r x.f x.s px py) (R : Int) (hR : Hid (restG l (l.length - k) k (x.L - clamp al 0 x.L) = R)) :
    Calls Tryz.prog 10 #[.agg #[.slice (some ⟨b, o, none⟩) l.length cap, .int .i64 len], .agg #[.int .i64 k, .int .i64 e0, .bool false], .agg #[.int .i64 px, .int .i64 py]] w fun e w' => e = .returned (.tuple #[.int .i64 R, .int .i64 0]) ∧ Below w.heap.size w w' := by
  have CK := fun W hb => chk_any (some ⟨b, o, none⟩) l cap len W h2 (hide (pathAt_below hb hp.out))
  rw [hc] at CK
  have l5 : l.length ≤ 500 := by
    have hc := hc
    unfold chkF at hc
    by_cases h : 500 < l.length
    · rw [if_pos h] at hc; cases hc
    · omega
  have eL := hide (fun j y (hy : l[j]? = some y) => chkF_L hc hy)
  have xL := chkF_L hc hx
  have cb := clamp_bd al 0 x.L (by omega)
  have hat := pathAt_get hp.out hx
  have LO := fun W => loc_any x.c x.g x.ax x.ay x.bx x.b_y x.cx x.cy x.r x.f x.s x.L x.n px py W _ hl
  clear hc hl hx
  obtain ⟨c, ax, ay, bx, b_y, cx, cy, r, f, s, L, n, g⟩ := x
  dsimp only at xL cb LO hR
  have c0 : w.cell? ⟨b, o + k * 13, none⟩ = some (.bool c) := hat.1
  have c1 : w.cell? ⟨b, o + k * 13 + 1, none⟩ = some (.int .i64 ax) := hat.2.1
  have c2 : w.cell? ⟨b, o + k * 13 + 2, none⟩ = some (.int .i64 ay) := hat.2.2.1
  have c3 : w.cell? ⟨b, o + k * 13 + 3, none⟩ = some (.int .i64 bx) := hat.2.2.2.1
  have c4 : w.cell? ⟨b, o + k * 13 + 4, none⟩ = some (.int .i64 b_y) := hat.2.2.2.2.1
  have c5 : w.cell? ⟨b, o + k * 13 + 5, none⟩ = some (.int .i64 cx) := hat.2.2.2.2.2.1
  have c6 : w.cell? ⟨b, o + k * 13 + 6, none⟩ = some (.int .i64 cy) := hat.2.2.2.2.2.2.1
  have c7 : w.cell? ⟨b, o + k * 13 + 7, none⟩ = some (.int .i64 r) := hat.2.2.2.2.2.2.2.1
  have c8 : w.cell? ⟨b, o + k * 13 + 8, none⟩ = some (.int .i64 f) := hat.2.2.2.2.2.2.2.2.1
  have c9 : w.cell? ⟨b, o + k * 13 + 9, none⟩ = some (.int .i64 s) := hat.2.2.2.2.2.2.2.2.2.1
  have c10 : w.cell? ⟨b, o + k * 13 + 10, none⟩ = some (.int .i64 L) := hat.2.2.2.2.2.2.2.2.2.2.1
  have c11 : w.cell? ⟨b, o + k * 13 + 11, none⟩ = some (.int .i64 n) := hat.2.2.2.2.2.2.2.2.2.2.2.1
  have c12 : w.cell? ⟨b, o + k * 13 + 12, none⟩ = some (.bool g) := hat.2.2.2.2.2.2.2.2.2.2.2.2
  clear hat
  have zc : b < w.heap.size := World.block_lt_of_cell? _ _ c0
  have bk1 : decide (l.length ≤ k) = false := decide_eq_false (by omega)
  have bk2 : decide ((k : Int) < 0) = false := decide_eq_false (by omega)
  go_enter Tryz.func10, Tryz.ntmps10
  go_wp2_with fail
  refine (CK _ (by (repeat (with_reducible (first | assumption | exact Below.refl _ _ | refine Below.drew ?_ | refine below_drewN ?_ _ | refine below_set ?_ (by simp; try omega) _ | refine below_alloc ?_ (Nat.le_refl _) _ | refine below_sub (by assumption) ?_))))).mono ?_
  rintro e w1 ⟨rfl, hb1⟩
  obtain ⟨f1, f2, f3, f4, f5, f6, f7, f8, f9, f10, f11, f12, f13, f14, f15, f16, f17, f18, f19, f20⟩ : w1.cell? ⟨w.heap.size, 0, none⟩ = some (.slice (some ⟨b, o, none⟩) l.length cap) ∧ w1.cell? ⟨w.heap.size, 1, none⟩ = some (.int .i64 len) ∧ w1.cell? ⟨w.heap.size + 1, 0, none⟩ = some (.int .i64 (k : Int)) ∧ w1.cell? ⟨w.heap.size + 1, 1, none⟩ = some (.int .i64 e0) ∧ w1.cell? ⟨w.heap.size + 1, 2, none⟩ = some (.bool false) ∧ w1.cell? ⟨w.heap.size + 1 + 1, 0, none⟩ = some (.int .i64 px) ∧ w1.cell? ⟨w.heap.size + 1 + 1, 1, none⟩ = some (.int .i64 py) ∧ w1.cell? ⟨b, o + k * 13, none⟩ = some (.bool c) ∧ w1.cell? ⟨b, o + k * 13 + 1, none⟩ = some (.int .i64 ax) ∧ w1.cell? ⟨b, o + k * 13 + 2, none⟩ = some (.int .i64 ay) ∧ w1.cell? ⟨b, o + k * 13 + 3, none⟩ = some (.int .i64 bx) ∧ w1.cell? ⟨b, o + k * 13 + 4, none⟩ = some (.int .i64 b_y) ∧ w1.cell? ⟨b, o + k * 13 + 5, none⟩ = some (.int .i64 cx) ∧ w1.cell? ⟨b, o + k * 13 + 6, none⟩ = some (.int .i64 cy) ∧ w1.cell? ⟨b, o + k * 13 + 7, none⟩ = some (.int .i64 r) ∧ w1.cell? ⟨b, o + k * 13 + 8, none⟩ = some (.int .i64 f) ∧ w1.cell? ⟨b, o + k * 13 + 9, none⟩ = some (.int .i64 s) ∧ w1.cell? ⟨b, o + k * 13 + 10, none⟩ = some (.int .i64 L) ∧ w1.cell? ⟨b, o + k * 13 + 11, none⟩ = some (.int .i64 n) ∧ w1.cell? ⟨b, o + k * 13 + 12, none⟩ = some (.bool g) := by
    refine ⟨?_, ?_, ?_, ?_, ?_, ?_, ?_, ?_, ?_, ?_, ?_, ?_, ?_, ?_, ?_, ?_, ?_, ?_, ?_, ?_⟩ <;> (refine cell_below hb1 ?_; repeat (first | (with_reducible assumption) | ((with_reducible refine cell_set ?_ ?_ _); (· first | (simp; done) | (simp; omega) | omega)) | ((with_reducible refine cell_new ?_ ?_); (· (simp; done)); (· rfl)) | (with_reducible refine cell_alloc ?_ _) | (with_reducible refine cell_drew ?_) | (with_reducible refine cell_drewN ?_ _) | (with_reducible refine cell_below (by assumption) ?_)))
  have zf1 : w.heap.size < w1.heap.size := World.block_lt_of_cell? _ _ f1
  have zf3 : w.heap.size + 1 < w1.heap.size := World.block_lt_of_cell? _ _ f3
  have zf6 : w.heap.size + 1 + 1 < w1.heap.size := World.block_lt_of_cell? _ _ f6
  have zf8 : b < w1.heap.size := World.block_lt_of_cell? _ _ f8
  clear c0 c1 c2 c3 c4 c5 c6 c7 c8 c9 c10 c11 c12
  go_wp2_with fail
  refine (LO _).mono ?_
  rintro e w2 ⟨rfl, hb2⟩
  obtain ⟨f21, f22, f23, f24, f25, f26, f27, f28, f29, f30, f31, f32, f33, f34, f35, f36, f37, f38, f39, f40, f41, f42, f43, f44, f45, f46, f47, f48, f49, f50, f51, f52, f53⟩ : w2.cell? ⟨w.heap.size, 0, none⟩ = some (.slice (some ⟨b, o, none⟩) l.length cap) ∧ w2.cell? ⟨w.heap.size, 1, none⟩ = some (.int .i64 len) ∧ w2.cell? ⟨w.heap.size + 1, 0, none⟩ = some (.int .i64 (k : Int)) ∧ w2.cell? ⟨w.heap.size + 1, 1, none⟩ = some (.int .i64 e0) ∧ w2.cell? ⟨w.heap.size + 1, 2, none⟩ = some (.bool false) ∧ w2.cell? ⟨w.heap.size + 1 + 1, 0, none⟩ = some (.int .i64 px) ∧ w2.cell? ⟨w.heap.size + 1 + 1, 1, none⟩ = some (.int .i64 py) ∧ w2.cell? ⟨b, o + k * 13, none⟩ = some (.bool c) ∧ w2.cell? ⟨b, o + k * 13 + 1, none⟩ = some (.int .i64 ax) ∧ w2.cell? ⟨b, o + k * 13 + 2, none⟩ = some (.int .i64 ay) ∧ w2.cell? ⟨b, o + k * 13 + 3, none⟩ = some (.int .i64 bx) ∧ w2.cell? ⟨b, o + k * 13 + 4, none⟩ = some (.int .i64 b_y) ∧ w2.cell? ⟨b, o + k * 13 + 5, none⟩ = some (.int .i64 cx) ∧ w2.cell? ⟨b, o + k * 13 + 6, none⟩ = some (.int .i64 cy) ∧ w2.cell? ⟨b, o + k * 13 + 7, none⟩ = some (.int .i64 r) ∧ w2.cell? ⟨b, o + k * 13 + 8, none⟩ = some (.int .i64 f) ∧ w2.cell? ⟨b, o + k * 13 + 9, none⟩ = some (.int .i64 s) ∧ w2.cell? ⟨b, o + k * 13 + 10, none⟩ = some (.int .i64 L) ∧ w2.cell? ⟨b, o + k * 13 + 11, none⟩ = some (.int .i64 n) ∧ w2.cell? ⟨b, o + k * 13 + 12, none⟩ = some (.bool g) ∧ w2.cell? ⟨w1.heap.size, 0, none⟩ = some (.bool c) ∧ w2.cell? ⟨w1.heap.size, 1, none⟩ = some (.int .i64 ax) ∧ w2.cell? ⟨w1.heap.size, 2, none⟩ = some (.int .i64 ay) ∧ w2.cell? ⟨w1.heap.size, 3, none⟩ = some (.int .i64 bx) ∧ w2.cell? ⟨w1.heap.size, 4, none⟩ = some (.int .i64 b_y) ∧ w2.cell? ⟨w1.heap.size, 5, none⟩ = some (.int .i64 cx) ∧ w2.cell? ⟨w1.heap.size, 6, none⟩ = some (.int .i64 cy) ∧ w2.cell? ⟨w1.heap.size, 7, none⟩ = some (.int .i64 r) ∧ w2.cell? ⟨w1.heap.size, 8, none⟩ = some (.int .i64 f) ∧ w2.cell? ⟨w1.heap.size, 9, none⟩ = some (.int .i64 s) ∧ w2.cell? ⟨w1.heap.size, 10, none⟩ = some (.int .i64 L) ∧ w2.cell? ⟨w1.heap.size, 11, none⟩ = some (.int .i64 n) ∧ w2.cell? ⟨w1.heap.size, 12, none⟩ = some (.bool g) := by
    refine ⟨?_, ?_, ?_, ?_, ?_, ?_, ?_, ?_, ?_, ?_, ?_, ?_, ?_, ?_, ?_, ?_, ?_, ?_, ?_, ?_, ?_, ?_, ?_, ?_, ?_, ?_, ?_, ?_, ?_, ?_, ?_, ?_, ?_⟩ <;> (refine cell_below hb2 ?_; repeat (first | (with_reducible assumption) | ((with_reducible refine cell_set ?_ ?_ _); (· first | (simp; done) | (simp; omega) | omega)) | ((with_reducible refine cell_new ?_ ?_); (· (simp; done)); (· rfl)) | (with_reducible refine cell_alloc ?_ _) | (with_reducible refine cell_drew ?_) | (with_reducible refine cell_drewN ?_ _) | (with_reducible refine cell_below (by assumption) ?_)))
  have zf21 : w.heap.size < w2.heap.size := World.block_lt_of_cell? _ _ f21
  have zf23 : w.heap.size + 1 < w2.heap.size := World.block_lt_of_cell? _ _ f23
  have zf26 : w.heap.size + 1 + 1 < w2.heap.size := World.block_lt_of_cell? _ _ f26
  have zf28 : b < w2.heap.size := World.block_lt_of_cell? _ _ f28
  have zf41 : w1.heap.size < w2.heap.size := World.block_lt_of_cell? _ _ f41
  clear f1 zf1 f2 f3 zf3 f4 f5 f6 zf6 f7 f8 zf8 f9 f10 f11 f12 f13 f14 f15 f16 f17 f18 f19 f20
  go_wp2_with fail
  go_quiet ((go_at_call 19; exact quiet_l (clamp_any _ _ _ _)))
  go_wp2_with fail
  have hsz0 : w.heap.size + 2 < w2.heap.size := by
    have := World.block_lt_of_cell? _ _ f26
    omega
  go_loopw [13, 14] (fun a u wr => ∃ (j : Nat) (s : Int), j < l.length ∧ a = .int .i64 s ∧ u = .int .i64 j ∧ 0 ≤ s ∧ s ≤ (j + 1) * 60000000 ∧ Hid (restG l (l.length - j) j s = R) ∧ w.heap.size + 2 < wr.heap.size ∧ wr.cell? ⟨w.heap.size, 0, none⟩ = some (.slice (some ⟨b, o, none⟩) l.length cap) ∧ wr.cell? ⟨w.heap.size, 1, none⟩ = some (.int .i64 len) ∧ Below w.heap.size w wr) (fun _ u _ => l.length - (intOf u).toNat)
  case atStart => exact ⟨k, L - clamp al 0 L, hk, rfl, rfl, by omega, by omega, hR, by assumption, f21, f22, by (repeat (with_reducible (first | assumption | exact Below.refl _ _ | refine Below.drew ?_ | refine below_drewN ?_ _ | refine below_set ?_ (by simp; try omega) _ | refine below_alloc ?_ (Nat.le_refl _) _ | refine below_sub (by assumption) ?_)))⟩
  case round =>
    obtain ⟨j, s1, hj, rfl, rfl, s0, s2, G, hsz, p0, p1, hw⟩ := hrel
    have LA := fun W hb => last_any b o l cap len j W h2 hj (hide (pathAt_below hb hp.out))
    have zp : w.heap.size < wr.heap.size := World.block_lt_of_cell? _ _ p0
    rw [show l.length - j = (l.length - (j + 1)) + 1 from by omega] at G
    generalize hL : lastB l j = la at *
    have HL := hide hL
    clear hL
    go_wp2_with fail
    refine (LA _ (by (repeat (with_reducible (first | assumption | exact Below.refl _ _ | refine Below.drew ?_ | refine below_drewN ?_ _ | refine below_set ?_ (by simp; try omega) _ | refine below_alloc ?_ (Nat.le_refl _) _ | refine below_sub (by assumption) ?_))))).mono ?_
    rintro e w1 ⟨rfl, hb1⟩
    obtain ⟨f1, f2⟩ : w1.cell? ⟨w.heap.size, 0, none⟩ = some (.slice (some ⟨b, o, none⟩) l.length cap) ∧ w1.cell? ⟨w.heap.size, 1, none⟩ = some (.int .i64 len) := by
      refine ⟨?_, ?_⟩ <;> (refine cell_below hb1 ?_; repeat (first | (with_reducible assumption) | ((with_reducible refine cell_set ?_ ?_ _); (· first | (simp; done) | (simp; omega) | omega)) | ((with_reducible refine cell_new ?_ ?_); (· (simp; done)); (· rfl)) | (with_reducible refine cell_alloc ?_ _) | (with_reducible refine cell_drew ?_) | (with_reducible refine cell_drewN ?_ _) | (with_reducible refine cell_below (by assumption) ?_)))
    have zf1 : w.heap.size < w1.heap.size := World.block_lt_of_cell? _ _ f1
    clear p0 p1
    rcases la with _ | _
    rotate_left
    · skip
      obtain rfl : R = s1 := by
        have := G.out
        rw [restG, if_pos HL.out] at this
        exact this.symm
      go_wp2_with fail
      go_ret2
      exact ⟨rfl, by (repeat (with_reducible (first | assumption | exact Below.refl _ _ | refine Below.drew ?_ | refine below_drewN ?_ _ | refine below_set ?_ (by simp; try omega) _ | refine below_alloc ?_ (Nat.le_refl _) _ | refine below_sub (by assumption) ?_)))⟩
    · skip
      have hk2 : j + 1 < l.length := by
        rcases Nat.lt_or_ge (j + 1) l.length with q | q
        · exact q
        · have := HL.out
          unfold lastB at this
          rw [List.getElem?_eq_none q] at this
          cases this
      obtain ⟨y, hy⟩ : ∃ y, l[j + 1]? = some y := ⟨_, List.getElem?_eq_getElem hk2⟩
      have yL := eL.out _ _ hy
      have hyt := pathAt_get (pathAt_below (show Below w.heap.size w w1 by (repeat (with_reducible (first | assumption | exact Below.refl _ _ | refine Below.drew ?_ | refine below_drewN ?_ _ | refine below_set ?_ (by simp; try omega) _ | refine below_alloc ?_ (Nat.le_refl _) _ | refine below_sub (by assumption) ?_)))) hp.out) hy
      have k10 : w1.cell? ⟨b, o + (j + 1) * 13 + 10, none⟩ = some (.int .i64 y.L) := hyt.2.2.2.2.2.2.2.2.2.2.1
      have G3 := hide (by
        have := G.out
        rw [restG, if_neg (by rw [HL.out]; simp), hy] at this
        exact this : restG l (l.length - (j + 1)) (j + 1) (s1 + y.L) = R)
      clear hyt hy
      generalize y.L = yl at *
      go_wp2_with fail
      go_roundw
      case rel => exact ⟨j + 1, s1 + yl, hk2, rfl, by go_num, by omega, by omega, G3, by have := hb1.size; omega, f1, f2, by (repeat (with_reducible (first | assumption | exact Below.refl _ _ | refine Below.drew ?_ | refine below_drewN ?_ _ | refine below_set ?_ (by simp; try omega) _ | refine below_alloc ?_ (Nat.le_refl _) _ | refine below_sub (by assumption) ?_)))⟩
      case measure => simp [intOf]; omega
end Go.Proofs.YtdfkkknkiioghaaGreat

