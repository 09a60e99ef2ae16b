/-
  The walk of the reference's ToGo: its sum.
-/
import Derived.Test.YtgcnfjheneieeaaGreatMToGoR
namespace Go.Proofs.YtgcnfjheneieeaaGreat
open Go.RowKit
set_option linter.unusedVariables false
set_option linter.unusedSimpArgs false
set_option maxRecDepth 100000 in
set_option maxHeartbeats 8000000 in
theorem rtogo_main (b o : Nat) (l : List El) (cap : Nat) (len : Int) (k : Nat) (e0 px py : Int) (w : World) (h2 : l.length ≤ 9223372036854775807) (hcap : l.length ≤ cap) (hp : Hid (pathAt w (some ⟨b, o, none⟩) l)) (hc : chkF l len = 0) (hk : k < l.length) (x : El) (hx : l[k]? = some x)
    (off al : Int) (hl : (off, al, (0 : Int)) = locF x.c x.ax x.ay x.bx x.b_y x.cx x.cy x.r x.f x.s px py) (R : Int) (hR : Hid (restG l (l.length - k) k (x.L - clamp al 0 x.L) = R)) :
    Calls Tryz.prog 17 #[.agg #[.slice (some ⟨b, o, none⟩) l.length cap, .int .i64 len], .agg #[.int .i64 k, .int .i64 e0, .bool false], .agg #[.int .i64 px, .int .i64 py]] w fun e w' => e = .returned (.tuple #[.int .i64 R, .int .i64 0]) ∧ Below w.heap.size w w' := by
  have CK := fun W hb => rchk_any (some ⟨b, o, none⟩) l cap len W h2 (hide (pathAt_below hb hp.out))
  rw [hc] at CK
  have l5 : l.length ≤ 500 := by
    have hc := hc
    unfold chkF at hc
    by_cases h : 500 < l.length
    · rw [if_pos h] at hc; cases hc
    · omega
  have eL := hide (fun j y (hy : l[j]? = some y) => chkF_L hc hy)
  have xL := chkF_L hc hx
  have cb := clamp_bd al 0 x.L (by omega)
  have ce : clamp al 0 x.L = min (max al 0) x.L := by unfold clamp; omega
  rw [ce] at hR cb
  clear ce
  have hat := pathAt_get hp.out hx
  have LO := fun W => rloc_any x.c x.g x.ax x.ay x.bx x.b_y x.cx x.cy x.r x.f x.s x.L x.n px py W _ hl
  clear hc hl hx
  obtain ⟨c, ax, ay, bx, b_y, cx, cy, r, f, s, L, n, g⟩ := x
  dsimp only at xL cb LO hR
  have c0 : w.cell? ⟨b, o + k * 13, none⟩ = some (.bool c) := hat.1
  have c1 : w.cell? ⟨b, o + k * 13 + 1, none⟩ = some (.int .i64 ax) := hat.2.1
  have c2 : w.cell? ⟨b, o + k * 13 + 2, none⟩ = some (.int .i64 ay) := hat.2.2.1
  have c3 : w.cell? ⟨b, o + k * 13 + 3, none⟩ = some (.int .i64 bx) := hat.2.2.2.1
  have c4 : w.cell? ⟨b, o + k * 13 + 4, none⟩ = some (.int .i64 b_y) := hat.2.2.2.2.1
  have c5 : w.cell? ⟨b, o + k * 13 + 5, none⟩ = some (.int .i64 cx) := hat.2.2.2.2.2.1
  have c6 : w.cell? ⟨b, o + k * 13 + 6, none⟩ = some (.int .i64 cy) := hat.2.2.2.2.2.2.1
  have c7 : w.cell? ⟨b, o + k * 13 + 7, none⟩ = some (.int .i64 r) := hat.2.2.2.2.2.2.2.1
  have c8 : w.cell? ⟨b, o + k * 13 + 8, none⟩ = some (.int .i64 f) := hat.2.2.2.2.2.2.2.2.1
  have c9 : w.cell? ⟨b, o + k * 13 + 9, none⟩ = some (.int .i64 s) := hat.2.2.2.2.2.2.2.2.2.1
  have c10 : w.cell? ⟨b, o + k * 13 + 10, none⟩ = some (.int .i64 L) := hat.2.2.2.2.2.2.2.2.2.2.1
  have c11 : w.cell? ⟨b, o + k * 13 + 11, none⟩ = some (.int .i64 n) := hat.2.2.2.2.2.2.2.2.2.2.2.1
  have c12 : w.cell? ⟨b, o + k * 13 + 12, none⟩ = some (.bool g) := hat.2.2.2.2.2.2.2.2.2.2.2.2
  clear hat
  have zc : b < w.heap.size := World.block_lt_of_cell? _ _ c0
  have bk1 : decide (l.length ≤ k) = false := decide_eq_false (by omega)
  have bk2 : decide ((k : Int) < 0) = false := decide_eq_false (by omega)
  go_enter Tryz.func17, Tryz.ntmps17
  go_wp2_with fail
  refine (CK _ (by (repeat (with_reducible (first | assumption | exact Below.refl _ _ | refine Below.drew ?_ | refine below_drewN ?_ _ | refine below_set ?_ (by simp; try omega) _ | refine below_alloc ?_ (Nat.le_refl _) _ | refine below_sub (by assumption) ?_))))).mono ?_
  rintro e w1 ⟨rfl, hb1⟩
  obtain ⟨f1, f2, f3, f4, f5, f6, f7, f8, f9, f10, f11, f12, f13, f14, f15, f16, f17, f18, f19, f20⟩ : w1.cell? ⟨w.heap.size, 0, none⟩ = some (.slice (some ⟨b, o, none⟩) l.length cap) ∧ w1.cell? ⟨w.heap.size, 1, none⟩ = some (.int .i64 len) ∧ w1.cell? ⟨w.heap.size + 1, 0, none⟩ = some (.int .i64 (k : Int)) ∧ w1.cell? ⟨w.heap.size + 1, 1, none⟩ = some (.int .i64 e0) ∧ w1.cell? ⟨w.heap.size + 1, 2, none⟩ = some (.bool false) ∧ w1.cell? ⟨w.heap.size + 1 + 1, 0, none⟩ = some (.int .i64 px) ∧ w1.cell? ⟨w.heap.size + 1 + 1, 1, none⟩ = some (.int .i64 py) ∧ w1.cell? ⟨b, o + k * 13, none⟩ = some (.bool c) ∧ w1.cell? ⟨b, o + k * 13 + 1, none⟩ = some (.int .i64 ax) ∧ w1.cell? ⟨b, o + k * 13 + 2, none⟩ = some (.int .i64 ay) ∧ w1.cell? ⟨b, o + k * 13 + 3, none⟩ = some (.int .i64 bx) ∧ w1.cell? ⟨b, o + k * 13 + 4, none⟩ = some (.int .i64 b_y) ∧ w1.cell? ⟨b, o + k * 13 + 5, none⟩ = some (.int .i64 cx) ∧ w1.cell? ⟨b, o + k * 13 + 6, none⟩ = some (.int .i64 cy) ∧ w1.cell? ⟨b, o + k * 13 + 7, none⟩ = some (.int .i64 r) ∧ w1.cell? ⟨b, o + k * 13 + 8, none⟩ = some (.int .i64 f) ∧ w1.cell? ⟨b, o + k * 13 + 9, none⟩ = some (.int .i64 s) ∧ w1.cell? ⟨b, o + k * 13 + 10, none⟩ = some (.int .i64 L) ∧ w1.cell? ⟨b, o + k * 13 + 11, none⟩ = some (.int .i64 n) ∧ w1.cell? ⟨b, o + k * 13 + 12, none⟩ = some (.bool g) := by
    refine ⟨?_, ?_, ?_, ?_, ?_, ?_, ?_, ?_, ?_, ?_, ?_, ?_, ?_, ?_, ?_, ?_, ?_, ?_, ?_, ?_⟩ <;> (refine cell_below hb1 ?_; repeat (first | (with_reducible assumption) | ((with_reducible refine cell_set ?_ ?_ _); (· first | (simp; done) | (simp; omega) | omega)) | ((with_reducible refine cell_new ?_ ?_); (· (simp; done)); (· rfl)) | (with_reducible refine cell_alloc ?_ _) | (with_reducible refine cell_drew ?_) | (with_reducible refine cell_drewN ?_ _) | (with_reducible refine cell_below (by assumption) ?_)))
  have zf1 : w.heap.size < w1.heap.size := World.block_lt_of_cell? _ _ f1
  have zf3 : w.heap.size + 1 < w1.heap.size := World.block_lt_of_cell? _ _ f3
  have zf6 : w.heap.size + 1 + 1 < w1.heap.size := World.block_lt_of_cell? _ _ f6
  have zf8 : b < w1.heap.size := World.block_lt_of_cell? _ _ f8
  clear c0 c1 c2 c3 c4 c5 c6 c7 c8 c9 c10 c11 c12
  go_wp2_with fail
  refine (LO _).mono ?_
  rintro e w2 ⟨rfl, hb2⟩
  obtain ⟨f21, f22, f23, f24, f25, f26, f27, f28, f29, f30, f31, f32, f33, f34, f35, f36, f37, f38, f39, f40, f41, f42, f43, f44, f45, f46, f47, f48, f49, f50, f51, f52, f53⟩ : w2.cell? ⟨w.heap.size, 0, none⟩ = some (.slice (some ⟨b, o, none⟩) l.length cap) ∧ w2.cell? ⟨w.heap.size, 1, none⟩ = some (.int .i64 len) ∧ w2.cell? ⟨w.heap.size + 1, 0, none⟩ = some (.int .i64 (k : Int)) ∧ w2.cell? ⟨w.heap.size + 1, 1, none⟩ = some (.int .i64 e0) ∧ w2.cell? ⟨w.heap.size + 1, 2, none⟩ = some (.bool false) ∧ w2.cell? ⟨w.heap.size + 1 + 1, 0, none⟩ = some (.int .i64 px) ∧ w2.cell? ⟨w.heap.size + 1 + 1, 1, none⟩ = some (.int .i64 py) ∧ w2.cell? ⟨b, o + k * 13, none⟩ = some (.bool c) ∧ w2.cell? ⟨b, o + k * 13 + 1, none⟩ = some (.int .i64 ax) ∧ w2.cell? ⟨b, o + k * 13 + 2, none⟩ = some (.int .i64 ay) ∧ w2.cell? ⟨b, o + k * 13 + 3, none⟩ = some (.int .i64 bx) ∧ w2.cell? ⟨b, o + k * 13 + 4, none⟩ = some (.int .i64 b_y) ∧ w2.cell? ⟨b, o + k * 13 + 5, none⟩ = some (.int .i64 cx) ∧ w2.cell? ⟨b, o + k * 13 + 6, none⟩ = some (.int .i64 cy) ∧ w2.cell? ⟨b, o + k * 13 + 7, none⟩ = some (.int .i64 r) ∧ w2.cell? ⟨b, o + k * 13 + 8, none⟩ = some (.int .i64 f) ∧ w2.cell? ⟨b, o + k * 13 + 9, none⟩ = some (.int .i64 s) ∧ w2.cell? ⟨b, o + k * 13 + 10, none⟩ = some (.int .i64 L) ∧ w2.cell? ⟨b, o + k * 13 + 11, none⟩ = some (.int .i64 n) ∧ w2.cell? ⟨b, o + k * 13 + 12, none⟩ = some (.bool g) ∧ w2.cell? ⟨w1.heap.size, 0, none⟩ = some (.bool c) ∧ w2.cell? ⟨w1.heap.size, 1, none⟩ = some (.int .i64 ax) ∧ w2.cell? ⟨w1.heap.size, 2, none⟩ = some (.int .i64 ay) ∧ w2.cell? ⟨w1.heap.size, 3, none⟩ = some (.int .i64 bx) ∧ w2.cell? ⟨w1.heap.size, 4, none⟩ = some (.int .i64 b_y) ∧ w2.cell? ⟨w1.heap.size, 5, none⟩ = some (.int .i64 cx) ∧ w2.cell? ⟨w1.heap.size, 6, none⟩ = some (.int .i64 cy) ∧ w2.cell? ⟨w1.heap.size, 7, none⟩ = some (.int .i64 r) ∧ w2.cell? ⟨w1.heap.size, 8, none⟩ = some (.int .i64 f) ∧ w2.cell? ⟨w1.heap.size, 9, none⟩ = some (.int .i64 s) ∧ w2.cell? ⟨w1.heap.size, 10, none⟩ = some (.int .i64 L) ∧ w2.cell? ⟨w1.heap.size, 11, none⟩ = some (.int .i64 n) ∧ w2.cell? ⟨w1.heap.size, 12, none⟩ = some (.bool g) := by
    refine ⟨?_, ?_, ?_, ?_, ?_, ?_, ?_, ?_, ?_, ?_, ?_, ?_, ?_, ?_, ?_, ?_, ?_, ?_, ?_, ?_, ?_, ?_, ?_, ?_, ?_, ?_, ?_, ?_, ?_, ?_, ?_, ?_, ?_⟩ <;> (refine cell_below hb2 ?_; repeat (first | (with_reducible assumption) | ((with_reducible refine cell_set ?_ ?_ _); (· first | (simp; done) | (simp; omega) | omega)) | ((with_reducible refine cell_new ?_ ?_); (· (simp; done)); (· rfl)) | (with_reducible refine cell_alloc ?_ _) | (with_reducible refine cell_drew ?_) | (with_reducible refine cell_drewN ?_ _) | (with_reducible refine cell_below (by assumption) ?_)))
  have zf21 : w.heap.size < w2.heap.size := World.block_lt_of_cell? _ _ f21
  have zf23 : w.heap.size + 1 < w2.heap.size := World.block_lt_of_cell? _ _ f23
  have zf26 : w.heap.size + 1 + 1 < w2.heap.size := World.block_lt_of_cell? _ _ f26
  have zf28 : b < w2.heap.size := World.block_lt_of_cell? _ _ f28
  have zf41 : w1.heap.size < w2.heap.size := World.block_lt_of_cell? _ _ f41
  clear f1 zf1 f2 f3 zf3 f4 f5 f6 zf6 f7 f8 zf8 f9 f10 f11 f12 f13 f14 f15 f16 f17 f18 f19 f20
  go_wp2_with fail
  all_goals
    go_loopw [13, 65] (fun a u wr => ∃ (m : Nat) (s : Int), m ≤ l.length - (k + 1) ∧ a = .int .i64 s ∧ u = .int .i64 m ∧ 0 ≤ s ∧ s ≤ (m + 1) * 60000000 ∧ Hid (restG l (l.length - (k + m)) (k + m) s = R) ∧ Below w.heap.size w wr) (fun _ u _ => l.length - (intOf u).toNat)
    case atStart => exact ⟨0, L - min (max al 0) L, by omega, rfl, rfl, by omega, by omega, by simpa using hR, by (repeat (with_reducible (first | assumption | exact Below.refl _ _ | refine Below.drew ?_ | refine below_drewN ?_ _ | refine below_set ?_ (by simp; try omega) _ | refine below_alloc ?_ (Nat.le_refl _) _ | refine below_sub (by assumption) ?_)))⟩
    case round =>
      obtain ⟨m, s1, hm, rfl, rfl, s0, s2, G, hw⟩ := hrel
      rw [show l.length - (k + m) = (l.length - (k + m + 1)) + 1 from by omega] at G
      by_cases hlt : k + 1 + m < l.length
      · try (exfalso; omega)
        all_goals
          obtain ⟨y, hy⟩ : ∃ y, l[k + m + 1]? = some y := ⟨_, List.getElem?_eq_getElem (by omega)⟩
          have yB := eL.out _ _ hy
          have hyt := pathAt_get (pathAt_below hw hp.out) hy
          rw [show o + (k + m + 1) * 13 = o + (k + 1) * 13 + m * 13 from by omega] at hyt
          have hLb : lastB l (k + m) = y.g := by unfold lastB; rw [hy]
          have G2 : Hid ((if y.g = true then s1 else restG l (l.length - (k + m + 1)) (k + m + 1) (s1 + y.L)) = R) := hide (by
            have := G.out
            rw [restG, hLb, hy] at this
            exact this)
          clear hLb hy G
          obtain ⟨yc, yax, yay, ybx, yb_y, ycx, ycy, yr, yf, ys, yL, yn, yg⟩ := y
          dsimp only at yB
          have d0 : wr.cell? ⟨b, o + (k + 1) * 13 + m * 13, none⟩ = some (.bool yc) := hyt.1
          have d1 : wr.cell? ⟨b, o + (k + 1) * 13 + m * 13 + 1, none⟩ = some (.int .i64 yax) := hyt.2.1
          have d2 : wr.cell? ⟨b, o + (k + 1) * 13 + m * 13 + 2, none⟩ = some (.int .i64 yay) := hyt.2.2.1
          have d3 : wr.cell? ⟨b, o + (k + 1) * 13 + m * 13 + 3, none⟩ = some (.int .i64 ybx) := hyt.2.2.2.1
          have d4 : wr.cell? ⟨b, o + (k + 1) * 13 + m * 13 + 4, none⟩ = some (.int .i64 yb_y) := hyt.2.2.2.2.1
          have d5 : wr.cell? ⟨b, o + (k + 1) * 13 + m * 13 + 5, none⟩ = some (.int .i64 ycx) := hyt.2.2.2.2.2.1
          have d6 : wr.cell? ⟨b, o + (k + 1) * 13 + m * 13 + 6, none⟩ = some (.int .i64 ycy) := hyt.2.2.2.2.2.2.1
          have d7 : wr.cell? ⟨b, o + (k + 1) * 13 + m * 13 + 7, none⟩ = some (.int .i64 yr) := hyt.2.2.2.2.2.2.2.1
          have d8 : wr.cell? ⟨b, o + (k + 1) * 13 + m * 13 + 8, none⟩ = some (.int .i64 yf) := hyt.2.2.2.2.2.2.2.2.1
          have d9 : wr.cell? ⟨b, o + (k + 1) * 13 + m * 13 + 9, none⟩ = some (.int .i64 ys) := hyt.2.2.2.2.2.2.2.2.2.1
          have d10 : wr.cell? ⟨b, o + (k + 1) * 13 + m * 13 + 10, none⟩ = some (.int .i64 yL) := hyt.2.2.2.2.2.2.2.2.2.2.1
          have d11 : wr.cell? ⟨b, o + (k + 1) * 13 + m * 13 + 11, none⟩ = some (.int .i64 yn) := hyt.2.2.2.2.2.2.2.2.2.2.2.1
          have d12 : wr.cell? ⟨b, o + (k + 1) * 13 + m * 13 + 12, none⟩ = some (.bool yg) := hyt.2.2.2.2.2.2.2.2.2.2.2.2
          clear hyt
          have zb : b < wr.heap.size := World.block_lt_of_cell? _ _ d0
          rcases yg with _ | _
          · have G3 : Hid (restG l (l.length - (k + m + 1)) (k + m + 1) (s1 + yL) = R) := hide G2.out
            clear G2
            go_wp2_with fail
            go_roundw
            case rel => exact ⟨m + 1, s1 + yL, by omega, rfl, by go_num, by omega, by omega, G3, by (repeat (with_reducible (first | assumption | exact Below.refl _ _ | refine Below.drew ?_ | refine below_drewN ?_ _ | refine below_set ?_ (by simp; try omega) _ | refine below_alloc ?_ (Nat.le_refl _) _ | refine below_sub (by assumption) ?_)))⟩
            case measure => simp [intOf]; omega
          · obtain rfl : R = s1 := G2.out.symm
            clear G2
            go_wp2_with fail
            all_goals go_ret2
            all_goals exact ⟨rfl, by (repeat (with_reducible (first | assumption | exact Below.refl _ _ | refine Below.drew ?_ | refine below_drewN ?_ _ | refine below_set ?_ (by simp; try omega) _ | refine below_alloc ?_ (Nat.le_refl _) _ | refine below_sub (by assumption) ?_)))⟩
      · have hLb : lastB l (k + m) = true := by
          unfold lastB
          rw [List.getElem?_eq_none (by omega)]
        obtain rfl : R = s1 := by
          have := G.out
          rw [restG, if_pos hLb] at this
          exact this.symm
        clear G hLb
        have hmm : m = l.length - (k + 1) := by omega
        go_wp2_with fail
        all_goals go_ret2
        all_goals exact ⟨rfl, by (repeat (with_reducible (first | assumption | exact Below.refl _ _ | refine Below.drew ?_ | refine below_drewN ?_ _ | refine below_set ?_ (by simp; try omega) _ | refine below_alloc ?_ (Nat.le_refl _) _ | refine below_sub (by assumption) ?_)))⟩
end Go.Proofs.YtgcnfjheneieeaaGreat

