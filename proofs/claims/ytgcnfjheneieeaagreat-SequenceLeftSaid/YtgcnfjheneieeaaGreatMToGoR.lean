/-
  The walks of the reference's ToGo but for its sum.
-/
import Derived.Test.YtgcnfjheneieeaaGreatMToGo
import Derived.Test.YtgcnfjheneieeaaGreatMSeqAR
namespace Go.Proofs.YtgcnfjheneieeaaGreat
open Go.RowKit
set_option linter.unusedVariables false
set_option linter.unusedSimpArgs false
set_option maxRecDepth 100000 in
set_option maxHeartbeats 4000000 in
theorem rtogo_err (S : Option Addr) (l : List El) (cap : Nat) (len px py : Int) (el e0 : Int) (dn : Bool) (c : Int) (hc : chkF l len = c) (h : ¬ c = 0) (w : World) (h2 : l.length ≤ 9223372036854775807) (hp : Hid (pathAt w S l)) :
    Calls Tryz.prog 17 #[.agg #[.slice S l.length cap, .int .i64 len], .agg #[.int .i64 el, .int .i64 e0, .bool dn], .agg #[.int .i64 px, .int .i64 py]] w fun e w' => e = .returned (.tuple #[.int .i64 0, .int .i64 c]) ∧ Below w.heap.size w w' := by
  have CK := fun W hb => rchk_any S l cap len W h2 (hide (pathAt_below hb hp.out))
  rw [hc] at CK
  clear hc
  go_enter Tryz.func17, Tryz.ntmps17
  go_wp2_with fail
  refine (CK _ (by (repeat (with_reducible (first | assumption | exact Below.refl _ _ | refine Below.drew ?_ | refine below_drewN ?_ _ | refine below_set ?_ (by simp; try omega) _ | refine below_alloc ?_ (Nat.le_refl _) _ | refine below_sub (by assumption) ?_))))).mono ?_
  rintro e w1 ⟨rfl, hb1⟩
  obtain ⟨f1, f2, f3, f4, f5, f6, f7⟩ : w1.cell? ⟨w.heap.size, 0, none⟩ = some (.slice S l.length cap) ∧ w1.cell? ⟨w.heap.size, 1, none⟩ = some (.int .i64 len) ∧ w1.cell? ⟨w.heap.size + 1, 0, none⟩ = some (.int .i64 el) ∧ w1.cell? ⟨w.heap.size + 1, 1, none⟩ = some (.int .i64 e0) ∧ w1.cell? ⟨w.heap.size + 1, 2, none⟩ = some (.bool dn) ∧ w1.cell? ⟨w.heap.size + 1 + 1, 0, none⟩ = some (.int .i64 px) ∧ w1.cell? ⟨w.heap.size + 1 + 1, 1, none⟩ = some (.int .i64 py) := by
    refine ⟨?_, ?_, ?_, ?_, ?_, ?_, ?_⟩ <;> (refine cell_below hb1 ?_; repeat (first | (with_reducible assumption) | ((with_reducible refine cell_set ?_ ?_ _); (· first | (simp; done) | (simp; omega) | omega)) | ((with_reducible refine cell_new ?_ ?_); (· (simp; done)); (· rfl)) | (with_reducible refine cell_alloc ?_ _) | (with_reducible refine cell_drew ?_) | (with_reducible refine cell_drewN ?_ _) | (with_reducible refine cell_below (by assumption) ?_)))
  have zf1 : w.heap.size < w1.heap.size := World.block_lt_of_cell? _ _ f1
  have zf3 : w.heap.size + 1 < w1.heap.size := World.block_lt_of_cell? _ _ f3
  have zf6 : w.heap.size + 1 + 1 < w1.heap.size := World.block_lt_of_cell? _ _ f6
  go_wp2_with fail
  all_goals
    go_ret2
    exact ⟨rfl, by (repeat (with_reducible (first | assumption | exact Below.refl _ _ | refine Below.drew ?_ | refine below_drewN ?_ _ | refine below_set ?_ (by simp; try omega) _ | refine below_alloc ?_ (Nat.le_refl _) _ | refine below_sub (by assumption) ?_)))⟩
set_option maxRecDepth 100000 in
set_option maxHeartbeats 4000000 in
theorem rtogo_out (S : Option Addr) (l : List El) (cap : Nat) (len px py : Int) (el e0 : Int) (dn : Bool) (hc : chkF l len = 0) (h : el < 0 ∨ (l.length : Int) ≤ el) (w : World) (h2 : l.length ≤ 9223372036854775807) (hp : Hid (pathAt w S l)) :
    Calls Tryz.prog 17 #[.agg #[.slice S l.length cap, .int .i64 len], .agg #[.int .i64 el, .int .i64 e0, .bool dn], .agg #[.int .i64 px, .int .i64 py]] w fun e w' => e = .returned (.tuple #[.int .i64 0, .int .i64 2]) ∧ Below w.heap.size w w' := by
  have CK := fun W hb => rchk_any S l cap len W h2 (hide (pathAt_below hb hp.out))
  rw [hc] at CK
  clear hc
  have h' : el < 0 ∨ (0 ≤ el ∧ (l.length : Int) ≤ el) := by omega
  clear h
  rcases h' with h | ⟨h, k⟩
  all_goals
    go_enter Tryz.func17, Tryz.ntmps17
    go_wp2_with fail
    refine (CK _ (by (repeat (with_reducible (first | assumption | exact Below.refl _ _ | refine Below.drew ?_ | refine below_drewN ?_ _ | refine below_set ?_ (by simp; try omega) _ | refine below_alloc ?_ (Nat.le_refl _) _ | refine below_sub (by assumption) ?_))))).mono ?_
    rintro e w1 ⟨rfl, hb1⟩
    obtain ⟨f1, f2, f3, f4, f5, f6, f7⟩ : w1.cell? ⟨w.heap.size, 0, none⟩ = some (.slice S l.length cap) ∧ w1.cell? ⟨w.heap.size, 1, none⟩ = some (.int .i64 len) ∧ w1.cell? ⟨w.heap.size + 1, 0, none⟩ = some (.int .i64 el) ∧ w1.cell? ⟨w.heap.size + 1, 1, none⟩ = some (.int .i64 e0) ∧ w1.cell? ⟨w.heap.size + 1, 2, none⟩ = some (.bool dn) ∧ w1.cell? ⟨w.heap.size + 1 + 1, 0, none⟩ = some (.int .i64 px) ∧ w1.cell? ⟨w.heap.size + 1 + 1, 1, none⟩ = some (.int .i64 py) := by
      refine ⟨?_, ?_, ?_, ?_, ?_, ?_, ?_⟩ <;> (refine cell_below hb1 ?_; repeat (first | (with_reducible assumption) | ((with_reducible refine cell_set ?_ ?_ _); (· first | (simp; done) | (simp; omega) | omega)) | ((with_reducible refine cell_new ?_ ?_); (· (simp; done)); (· rfl)) | (with_reducible refine cell_alloc ?_ _) | (with_reducible refine cell_drew ?_) | (with_reducible refine cell_drewN ?_ _) | (with_reducible refine cell_below (by assumption) ?_)))
    have zf1 : w.heap.size < w1.heap.size := World.block_lt_of_cell? _ _ f1
    have zf3 : w.heap.size + 1 < w1.heap.size := World.block_lt_of_cell? _ _ f3
    have zf6 : w.heap.size + 1 + 1 < w1.heap.size := World.block_lt_of_cell? _ _ f6
    go_wp2_with fail
    all_goals
      go_ret2
      exact ⟨rfl, by (repeat (with_reducible (first | assumption | exact Below.refl _ _ | refine Below.drew ?_ | refine below_drewN ?_ _ | refine below_set ?_ (by simp; try omega) _ | refine below_alloc ?_ (Nat.le_refl _) _ | refine below_sub (by assumption) ?_)))⟩
set_option maxRecDepth 100000 in
set_option maxHeartbeats 4000000 in
theorem rtogo_done (S : Option Addr) (l : List El) (cap : Nat) (len px py : Int) (el e0 : Int) (hc : chkF l len = 0) (h : 0 ≤ el) (h3 : el < (l.length : Int)) (w : World) (h2 : l.length ≤ 9223372036854775807) (hp : Hid (pathAt w S l)) :
    Calls Tryz.prog 17 #[.agg #[.slice S l.length cap, .int .i64 len], .agg #[.int .i64 el, .int .i64 e0, .bool true], .agg #[.int .i64 px, .int .i64 py]] w fun e w' => e = .returned (.tuple #[.int .i64 0, .int .i64 0]) ∧ Below w.heap.size w w' := by
  have CK := fun W hb => rchk_any S l cap len W h2 (hide (pathAt_below hb hp.out))
  rw [hc] at CK
  clear hc
  go_enter Tryz.func17, Tryz.ntmps17
  go_wp2_with fail
  refine (CK _ (by (repeat (with_reducible (first | assumption | exact Below.refl _ _ | refine Below.drew ?_ | refine below_drewN ?_ _ | refine below_set ?_ (by simp; try omega) _ | refine below_alloc ?_ (Nat.le_refl _) _ | refine below_sub (by assumption) ?_))))).mono ?_
  rintro e w1 ⟨rfl, hb1⟩
  obtain ⟨f1, f2, f3, f4, f5, f6, f7⟩ : w1.cell? ⟨w.heap.size, 0, none⟩ = some (.slice S l.length cap) ∧ w1.cell? ⟨w.heap.size, 1, none⟩ = some (.int .i64 len) ∧ w1.cell? ⟨w.heap.size + 1, 0, none⟩ = some (.int .i64 el) ∧ w1.cell? ⟨w.heap.size + 1, 1, none⟩ = some (.int .i64 e0) ∧ w1.cell? ⟨w.heap.size + 1, 2, none⟩ = some (.bool true) ∧ w1.cell? ⟨w.heap.size + 1 + 1, 0, none⟩ = some (.int .i64 px) ∧ w1.cell? ⟨w.heap.size + 1 + 1, 1, none⟩ = some (.int .i64 py) := by
    refine ⟨?_, ?_, ?_, ?_, ?_, ?_, ?_⟩ <;> (refine cell_below hb1 ?_; repeat (first | (with_reducible assumption) | ((with_reducible refine cell_set ?_ ?_ _); (· first | (simp; done) | (simp; omega) | omega)) | ((with_reducible refine cell_new ?_ ?_); (· (simp; done)); (· rfl)) | (with_reducible refine cell_alloc ?_ _) | (with_reducible refine cell_drew ?_) | (with_reducible refine cell_drewN ?_ _) | (with_reducible refine cell_below (by assumption) ?_)))
  have zf1 : w.heap.size < w1.heap.size := World.block_lt_of_cell? _ _ f1
  have zf3 : w.heap.size + 1 < w1.heap.size := World.block_lt_of_cell? _ _ f3
  have zf6 : w.heap.size + 1 + 1 < w1.heap.size := World.block_lt_of_cell? _ _ f6
  go_wp2_with fail
  all_goals
    go_ret2
    exact ⟨rfl, by (repeat (with_reducible (first | assumption | exact Below.refl _ _ | refine Below.drew ?_ | refine below_drewN ?_ _ | refine below_set ?_ (by simp; try omega) _ | refine below_alloc ?_ (Nat.le_refl _) _ | refine below_sub (by assumption) ?_)))⟩
set_option maxRecDepth 100000 in
set_option maxHeartbeats 4000000 in
theorem rtogo_loc (b o : Nat) (l : List El) (cap : Nat) (len px py : Int) (k : Nat) (e0 : Int) (hc : chkF l len = 0) (hk : k < l.length) (x : El) (hx : l[k]? = some x) (off al er : Int) (he : ¬ er = 0) (hl : (off, al, er) = locF x.c x.ax x.ay x.bx x.b_y x.cx x.cy x.r x.f x.s px py) (w : World) (h2 : l.length ≤ 9223372036854775807) (hp : Hid (pathAt w (some ⟨b, o, none⟩) l)) :
    Calls Tryz.prog 17 #[.agg #[.slice (some ⟨b, o, none⟩) l.length cap, .int .i64 len], .agg #[.int .i64 (k : Int), .int .i64 e0, .bool false], .agg #[.int .i64 px, .int .i64 py]] w fun e w' => e = .returned (.tuple #[.int .i64 0, .int .i64 er]) ∧ Below w.heap.size w w' := by
  have CK := fun W hb => rchk_any (some ⟨b, o, none⟩) l cap len W h2 (hide (pathAt_below hb hp.out))
  rw [hc] at CK
  have hat := pathAt_get hp.out hx
  have LO := fun W => rloc_any x.c x.g x.ax x.ay x.bx x.b_y x.cx x.cy x.r x.f x.s x.L x.n px py W _ hl
  clear hc hl hx
  obtain ⟨c, ax, ay, bx, b_y, cx, cy, r, f, s, L, n, g⟩ := x
  dsimp only at LO
  have c0 : w.cell? ⟨b, o + k * 13, none⟩ = some (.bool c) := hat.1
  have c1 : w.cell? ⟨b, o + k * 13 + 1, none⟩ = some (.int .i64 ax) := hat.2.1
  have c2 : w.cell? ⟨b, o + k * 13 + 2, none⟩ = some (.int .i64 ay) := hat.2.2.1
  have c3 : w.cell? ⟨b, o + k * 13 + 3, none⟩ = some (.int .i64 bx) := hat.2.2.2.1
  have c4 : w.cell? ⟨b, o + k * 13 + 4, none⟩ = some (.int .i64 b_y) := hat.2.2.2.2.1
  have c5 : w.cell? ⟨b, o + k * 13 + 5, none⟩ = some (.int .i64 cx) := hat.2.2.2.2.2.1
  have c6 : w.cell? ⟨b, o + k * 13 + 6, none⟩ = some (.int .i64 cy) := hat.2.2.2.2.2.2.1
  have c7 : w.cell? ⟨b, o + k * 13 + 7, none⟩ = some (.int .i64 r) := hat.2.2.2.2.2.2.2.1
  have c8 : w.cell? ⟨b, o + k * 13 + 8, none⟩ = some (.int .i64 f) := hat.2.2.2.2.2.2.2.2.1
  have c9 : w.cell? ⟨b, o + k * 13 + 9, none⟩ = some (.int .i64 s) := hat.2.2.2.2.2.2.2.2.2.1
  have c10 : w.cell? ⟨b, o + k * 13 + 10, none⟩ = some (.int .i64 L) := hat.2.2.2.2.2.2.2.2.2.2.1
  have c11 : w.cell? ⟨b, o + k * 13 + 11, none⟩ = some (.int .i64 n) := hat.2.2.2.2.2.2.2.2.2.2.2.1
  have c12 : w.cell? ⟨b, o + k * 13 + 12, none⟩ = some (.bool g) := hat.2.2.2.2.2.2.2.2.2.2.2.2
  clear hat
  have zc : b < w.heap.size := World.block_lt_of_cell? _ _ c0
  go_enter Tryz.func17, Tryz.ntmps17
  go_wp2_with fail
  refine (CK _ (by (repeat (with_reducible (first | assumption | exact Below.refl _ _ | refine Below.drew ?_ | refine below_drewN ?_ _ | refine below_set ?_ (by simp; try omega) _ | refine below_alloc ?_ (Nat.le_refl _) _ | refine below_sub (by assumption) ?_))))).mono ?_
  rintro e w1 ⟨rfl, hb1⟩
  obtain ⟨f1, f2, f3, f4, f5, f6, f7, f8, f9, f10, f11, f12, f13, f14, f15, f16, f17, f18, f19, f20⟩ : w1.cell? ⟨w.heap.size, 0, none⟩ = some (.slice (some ⟨b, o, none⟩) l.length cap) ∧ w1.cell? ⟨w.heap.size, 1, none⟩ = some (.int .i64 len) ∧ w1.cell? ⟨w.heap.size + 1, 0, none⟩ = some (.int .i64 (k : Int)) ∧ w1.cell? ⟨w.heap.size + 1, 1, none⟩ = some (.int .i64 e0) ∧ w1.cell? ⟨w.heap.size + 1, 2, none⟩ = some (.bool false) ∧ w1.cell? ⟨w.heap.size + 1 + 1, 0, none⟩ = some (.int .i64 px) ∧ w1.cell? ⟨w.heap.size + 1 + 1, 1, none⟩ = some (.int .i64 py) ∧ w1.cell? ⟨b, o + k * 13, none⟩ = some (.bool c) ∧ w1.cell? ⟨b, o + k * 13 + 1, none⟩ = some (.int .i64 ax) ∧ w1.cell? ⟨b, o + k * 13 + 2, none⟩ = some (.int .i64 ay) ∧ w1.cell? ⟨b, o + k * 13 + 3, none⟩ = some (.int .i64 bx) ∧ w1.cell? ⟨b, o + k * 13 + 4, none⟩ = some (.int .i64 b_y) ∧ w1.cell? ⟨b, o + k * 13 + 5, none⟩ = some (.int .i64 cx) ∧ w1.cell? ⟨b, o + k * 13 + 6, none⟩ = some (.int .i64 cy) ∧ w1.cell? ⟨b, o + k * 13 + 7, none⟩ = some (.int .i64 r) ∧ w1.cell? ⟨b, o + k * 13 + 8, none⟩ = some (.int .i64 f) ∧ w1.cell? ⟨b, o + k * 13 + 9, none⟩ = some (.int .i64 s) ∧ w1.cell? ⟨b, o + k * 13 + 10, none⟩ = some (.int .i64 L) ∧ w1.cell? ⟨b, o + k * 13 + 11, none⟩ = some (.int .i64 n) ∧ w1.cell? ⟨b, o + k * 13 + 12, none⟩ = some (.bool g) := by
    refine ⟨?_, ?_, ?_, ?_, ?_, ?_, ?_, ?_, ?_, ?_, ?_, ?_, ?_, ?_, ?_, ?_, ?_, ?_, ?_, ?_⟩ <;> (refine cell_below hb1 ?_; repeat (first | (with_reducible assumption) | ((with_reducible refine cell_set ?_ ?_ _); (· first | (simp; done) | (simp; omega) | omega)) | ((with_reducible refine cell_new ?_ ?_); (· (simp; done)); (· rfl)) | (with_reducible refine cell_alloc ?_ _) | (with_reducible refine cell_drew ?_) | (with_reducible refine cell_drewN ?_ _) | (with_reducible refine cell_below (by assumption) ?_)))
  have zf1 : w.heap.size < w1.heap.size := World.block_lt_of_cell? _ _ f1
  have zf3 : w.heap.size + 1 < w1.heap.size := World.block_lt_of_cell? _ _ f3
  have zf6 : w.heap.size + 1 + 1 < w1.heap.size := World.block_lt_of_cell? _ _ f6
  have zf8 : b < w1.heap.size := World.block_lt_of_cell? _ _ f8
  clear c0 c1 c2 c3 c4 c5 c6 c7 c8 c9 c10 c11 c12
  go_wp2_with fail
  refine (LO _).mono ?_
  rintro e w2 ⟨rfl, hb2⟩
  obtain ⟨f21, f22, f23, f24, f25, f26, f27, f28, f29, f30, f31, f32, f33, f34, f35, f36, f37, f38, f39, f40, f41, f42, f43, f44, f45, f46, f47, f48, f49, f50, f51, f52, f53⟩ : w2.cell? ⟨w.heap.size, 0, none⟩ = some (.slice (some ⟨b, o, none⟩) l.length cap) ∧ w2.cell? ⟨w.heap.size, 1, none⟩ = some (.int .i64 len) ∧ w2.cell? ⟨w.heap.size + 1, 0, none⟩ = some (.int .i64 (k : Int)) ∧ w2.cell? ⟨w.heap.size + 1, 1, none⟩ = some (.int .i64 e0) ∧ w2.cell? ⟨w.heap.size + 1, 2, none⟩ = some (.bool false) ∧ w2.cell? ⟨w.heap.size + 1 + 1, 0, none⟩ = some (.int .i64 px) ∧ w2.cell? ⟨w.heap.size + 1 + 1, 1, none⟩ = some (.int .i64 py) ∧ w2.cell? ⟨b, o + k * 13, none⟩ = some (.bool c) ∧ w2.cell? ⟨b, o + k * 13 + 1, none⟩ = some (.int .i64 ax) ∧ w2.cell? ⟨b, o + k * 13 + 2, none⟩ = some (.int .i64 ay) ∧ w2.cell? ⟨b, o + k * 13 + 3, none⟩ = some (.int .i64 bx) ∧ w2.cell? ⟨b, o + k * 13 + 4, none⟩ = some (.int .i64 b_y) ∧ w2.cell? ⟨b, o + k * 13 + 5, none⟩ = some (.int .i64 cx) ∧ w2.cell? ⟨b, o + k * 13 + 6, none⟩ = some (.int .i64 cy) ∧ w2.cell? ⟨b, o + k * 13 + 7, none⟩ = some (.int .i64 r) ∧ w2.cell? ⟨b, o + k * 13 + 8, none⟩ = some (.int .i64 f) ∧ w2.cell? ⟨b, o + k * 13 + 9, none⟩ = some (.int .i64 s) ∧ w2.cell? ⟨b, o + k * 13 + 10, none⟩ = some (.int .i64 L) ∧ w2.cell? ⟨b, o + k * 13 + 11, none⟩ = some (.int .i64 n) ∧ w2.cell? ⟨b, o + k * 13 + 12, none⟩ = some (.bool g) ∧ w2.cell? ⟨w1.heap.size, 0, none⟩ = some (.bool c) ∧ w2.cell? ⟨w1.heap.size, 1, none⟩ = some (.int .i64 ax) ∧ w2.cell? ⟨w1.heap.size, 2, none⟩ = some (.int .i64 ay) ∧ w2.cell? ⟨w1.heap.size, 3, none⟩ = some (.int .i64 bx) ∧ w2.cell? ⟨w1.heap.size, 4, none⟩ = some (.int .i64 b_y) ∧ w2.cell? ⟨w1.heap.size, 5, none⟩ = some (.int .i64 cx) ∧ w2.cell? ⟨w1.heap.size, 6, none⟩ = some (.int .i64 cy) ∧ w2.cell? ⟨w1.heap.size, 7, none⟩ = some (.int .i64 r) ∧ w2.cell? ⟨w1.heap.size, 8, none⟩ = some (.int .i64 f) ∧ w2.cell? ⟨w1.heap.size, 9, none⟩ = some (.int .i64 s) ∧ w2.cell? ⟨w1.heap.size, 10, none⟩ = some (.int .i64 L) ∧ w2.cell? ⟨w1.heap.size, 11, none⟩ = some (.int .i64 n) ∧ w2.cell? ⟨w1.heap.size, 12, none⟩ = some (.bool g) := by
    refine ⟨?_, ?_, ?_, ?_, ?_, ?_, ?_, ?_, ?_, ?_, ?_, ?_, ?_, ?_, ?_, ?_, ?_, ?_, ?_, ?_, ?_, ?_, ?_, ?_, ?_, ?_, ?_, ?_, ?_, ?_, ?_, ?_, ?_⟩ <;> (refine cell_below hb2 ?_; repeat (first | (with_reducible assumption) | ((with_reducible refine cell_set ?_ ?_ _); (· first | (simp; done) | (simp; omega) | omega)) | ((with_reducible refine cell_new ?_ ?_); (· (simp; done)); (· rfl)) | (with_reducible refine cell_alloc ?_ _) | (with_reducible refine cell_drew ?_) | (with_reducible refine cell_drewN ?_ _) | (with_reducible refine cell_below (by assumption) ?_)))
  have zf21 : w.heap.size < w2.heap.size := World.block_lt_of_cell? _ _ f21
  have zf23 : w.heap.size + 1 < w2.heap.size := World.block_lt_of_cell? _ _ f23
  have zf26 : w.heap.size + 1 + 1 < w2.heap.size := World.block_lt_of_cell? _ _ f26
  have zf28 : b < w2.heap.size := World.block_lt_of_cell? _ _ f28
  have zf41 : w1.heap.size < w2.heap.size := World.block_lt_of_cell? _ _ f41
  clear f1 zf1 f2 f3 zf3 f4 f5 f6 zf6 f7 f8 zf8 f9 f10 f11 f12 f13 f14 f15 f16 f17 f18 f19 f20
  go_wp2_with fail
  all_goals
    go_ret2
    exact ⟨rfl, by (repeat (with_reducible (first | assumption | exact Below.refl _ _ | refine Below.drew ?_ | refine below_drewN ?_ _ | refine below_set ?_ (by simp; try omega) _ | refine below_alloc ?_ (Nat.le_refl _) _ | refine below_sub (by assumption) ?_)))⟩
end Go.Proofs.YtgcnfjheneieeaaGreat

