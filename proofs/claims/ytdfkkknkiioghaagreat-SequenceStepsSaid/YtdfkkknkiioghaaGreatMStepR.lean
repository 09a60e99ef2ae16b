/-
  The walk of the reference's Step.
-/
import Derived.Test.YtdfkkknkiioghaaGreatMStepXR
import Derived.Test.YtdfkkknkiioghaaGreatMPastR
import Derived.Test.YtdfkkknkiioghaaGreatMOwn
import Derived.Deep.LoopGhost
import Derived.WalkKit
import Derived.BigRegion
namespace Go.Proofs.YtdfkkknkiioghaaGreat
open Go.RowKit
set_option linter.unusedVariables false
set_option linter.unusedSimpArgs false
set_option maxRecDepth 100000 in
set_option maxHeartbeats 8000000 in
theorem rstep_main (b o : Nat) (l : List El) (cap : Nat) (len : Int) (k0 : Nat) (e0 px py : Int) (w : World) (h2 : l.length ≤ 9223372036854775807) (hp : Hid (pathAt w (some ⟨b, o, none⟩) l)) (hc : chkF l len = 0) (hq : vldB px py = true) (hk : k0 < l.length) (x0 : El) (hx0 : l[k0]? = some x0)
    (R : Nat × Int × Bool × List Int) (hR : Hid (stepG l px py (l.length - k0) k0 x0.n [] = R)) :
    Calls Tryz.prog 6 #[.agg #[.slice (some ⟨b, o, none⟩) l.length cap, .int .i64 len], .agg #[.int .i64 k0, .int .i64 e0, .bool false], .agg #[.int .i64 px, .int .i64 py]] w fun e w' => ∃ v, e = .returned (.tuple #[.agg #[.int .i64 R.1, .int .i64 R.2.1, .bool R.2.2.1], v]) ∧ w'.ownsRow w.heap.size 3 1 v R.2.2.2.length (R.2.2.2.map (Value.int .i64)) ∧ Below w.heap.size w w' := by
  have CK := fun W hb => rchk_any (some ⟨b, o, none⟩) l cap len W h2 (hide (pathAt_below hb hp.out))
  rw [hc] at CK
  have PQ := fun W => rpvalid_d px py true hq W
  have l5 := (okPath hc).short
  have hat := pathAt_get hp.out hx0
  have k11 : w.cell? ⟨b, o + k0 * 13 + 11, none⟩ = some (.int .i64 x0.n) := hat.2.2.2.2.2.2.2.2.2.2.2.1
  clear hat hc hq
  have HX0 := hide hx0
  clear hx0
  have bk1 : decide (l.length ≤ k0) = false := decide_eq_false (by omega)
  have bk2 : decide ((k0 : Int) < 0) = false := decide_eq_false (by omega)
  have zb : b < w.heap.size := World.block_lt_of_cell? _ _ k11
  obtain ⟨i0, hi, hz⟩ := Option.map_eq_some_iff.1 info_int
  simp only [Prod.mk.injEq] at hz
  obtain ⟨hz0, hz1, hz2⟩ := hz
  go_enter Tryz.func6, Tryz.ntmps6
  go_wp2_with fail
  refine (CK _ (by (repeat (with_reducible (first | assumption | exact Below.refl _ _ | refine Below.drew ?_ | refine below_drewN ?_ _ | refine below_set ?_ (by simp; try omega) _ | refine below_alloc ?_ (Nat.le_refl _) _ | refine below_sub (by assumption) ?_))))).mono ?_
  rintro e w1 ⟨rfl, hb1⟩
  obtain ⟨f1, f2, f3, f4, f5⟩ : w1.cell? ⟨w.heap.size, 0, none⟩ = some (.slice (some ⟨b, o, none⟩) l.length cap) ∧ w1.cell? ⟨w.heap.size, 1, none⟩ = some (.int .i64 len) ∧ w1.cell? ⟨w.heap.size + 1 + 1, 0, none⟩ = some (.int .i64 px) ∧ w1.cell? ⟨w.heap.size + 1 + 1, 1, none⟩ = some (.int .i64 py) ∧ w1.cell? ⟨b, o + k0 * 13 + 11, none⟩ = some (.int .i64 x0.n) := by
    refine ⟨?_, ?_, ?_, ?_, ?_⟩ <;> (refine cell_below hb1 ?_; repeat (first | (with_reducible assumption) | ((with_reducible refine cell_set ?_ ?_ _); (· first | (simp; done) | (simp; omega) | omega)) | ((with_reducible refine cell_new ?_ ?_); (· (simp; done)); (· rfl)) | (with_reducible refine cell_alloc ?_ _) | (with_reducible refine cell_drew ?_) | (with_reducible refine cell_drewN ?_ _) | (with_reducible refine cell_below (by assumption) ?_)))
  have zf1 : w.heap.size < w1.heap.size := World.block_lt_of_cell? _ _ f1
  have zf3 : w.heap.size + 1 + 1 < w1.heap.size := World.block_lt_of_cell? _ _ f3
  have zf5 : b < w1.heap.size := World.block_lt_of_cell? _ _ f5
  obtain ⟨⟨m6a, m6b⟩, ⟨m7a, m7b⟩, ⟨m8a, m8b⟩⟩ : (w1.cell? ⟨w.heap.size + 1 + 1 + 1, 0, none⟩ = some (cellV w1 ⟨w.heap.size + 1 + 1 + 1, 0, none⟩) ∧ w1.frozen? ⟨w.heap.size + 1 + 1 + 1, 0, none⟩ = false) ∧ (w1.cell? ⟨w.heap.size + 1 + 1 + 1, 1, none⟩ = some (cellV w1 ⟨w.heap.size + 1 + 1 + 1, 1, none⟩) ∧ w1.frozen? ⟨w.heap.size + 1 + 1 + 1, 1, none⟩ = false) ∧ (w1.cell? ⟨w.heap.size + 1 + 1 + 1, 2, none⟩ = some (cellV w1 ⟨w.heap.size + 1 + 1 + 1, 2, none⟩) ∧ w1.frozen? ⟨w.heap.size + 1 + 1 + 1, 2, none⟩ = false) := by
    refine ⟨?_, ?_, ?_⟩ <;> (first | ((refine mine_below hb1 (mine_of (v := .int .i64 0) ?_ ?_) <;> simp [go_sem]); done) | ((refine mine_below hb1 (mine_of (v := .bool false) ?_ ?_) <;> simp [go_sem]); done))
  have zm6 : w.heap.size + 1 + 1 + 1 < w1.heap.size := World.block_lt_of_cell? _ _ m6a
  obtain ⟨⟨o9a, o9b⟩, ⟨o10a, o10b⟩, ⟨o11a, o11b⟩⟩ : (w1.cell? ⟨w.heap.size + 1, 0, none⟩ = some (.int .i64 (k0 : Int)) ∧ w1.frozen? ⟨w.heap.size + 1, 0, none⟩ = false) ∧ (w1.cell? ⟨w.heap.size + 1, 1, none⟩ = some (.int .i64 e0) ∧ w1.frozen? ⟨w.heap.size + 1, 1, none⟩ = false) ∧ (w1.cell? ⟨w.heap.size + 1, 2, none⟩ = some (.bool false) ∧ w1.frozen? ⟨w.heap.size + 1, 2, none⟩ = false) := by
    refine ⟨?_, ?_, ?_⟩ <;> (refine own_below hb1 ?_; repeat (first | (refine ⟨?_, ?_⟩ <;> (with_reducible assumption)) | (with_reducible apply own_same) | ((with_reducible refine own_set ?_ ?_ _); (· first | (simp; done) | (simp; omega))) | ((with_reducible refine own_new ?_ ?_); (· (simp; done)); (· rfl)) | (with_reducible refine own_alloc ?_ _) | (with_reducible refine own_drew ?_) | (with_reducible refine own_drewN ?_ _) | (with_reducible refine own_below (by assumption) ?_)))
  have zo9 : w.heap.size + 1 < w1.heap.size := World.block_lt_of_cell? _ _ o9a
  clear k11
  go_wp2_with fail
  refine (PQ _).mono ?_
  rintro e w2 ⟨rfl, hb2⟩
  obtain ⟨f12, f13, f14, f15, f16⟩ : w2.cell? ⟨w.heap.size, 0, none⟩ = some (.slice (some ⟨b, o, none⟩) l.length cap) ∧ w2.cell? ⟨w.heap.size, 1, none⟩ = some (.int .i64 len) ∧ w2.cell? ⟨w.heap.size + 1 + 1, 0, none⟩ = some (.int .i64 px) ∧ w2.cell? ⟨w.heap.size + 1 + 1, 1, none⟩ = some (.int .i64 py) ∧ w2.cell? ⟨b, o + k0 * 13 + 11, none⟩ = some (.int .i64 x0.n) := by
    refine ⟨?_, ?_, ?_, ?_, ?_⟩ <;> (refine cell_below hb2 ?_; repeat (first | (with_reducible assumption) | ((with_reducible refine cell_set ?_ ?_ _); (· first | (simp; done) | (simp; omega) | omega)) | ((with_reducible refine cell_new ?_ ?_); (· (simp; done)); (· rfl)) | (with_reducible refine cell_alloc ?_ _) | (with_reducible refine cell_drew ?_) | (with_reducible refine cell_drewN ?_ _) | (with_reducible refine cell_below (by assumption) ?_)))
  have zf12 : w.heap.size < w2.heap.size := World.block_lt_of_cell? _ _ f12
  have zf14 : w.heap.size + 1 + 1 < w2.heap.size := World.block_lt_of_cell? _ _ f14
  have zf16 : b < w2.heap.size := World.block_lt_of_cell? _ _ f16
  obtain ⟨⟨m17a, m17b⟩, ⟨m18a, m18b⟩, ⟨m19a, m19b⟩⟩ : (w2.cell? ⟨w.heap.size + 1 + 1 + 1, 0, none⟩ = some (cellV w2 ⟨w.heap.size + 1 + 1 + 1, 0, none⟩) ∧ w2.frozen? ⟨w.heap.size + 1 + 1 + 1, 0, none⟩ = false) ∧ (w2.cell? ⟨w.heap.size + 1 + 1 + 1, 1, none⟩ = some (cellV w2 ⟨w.heap.size + 1 + 1 + 1, 1, none⟩) ∧ w2.frozen? ⟨w.heap.size + 1 + 1 + 1, 1, none⟩ = false) ∧ (w2.cell? ⟨w.heap.size + 1 + 1 + 1, 2, none⟩ = some (cellV w2 ⟨w.heap.size + 1 + 1 + 1, 2, none⟩) ∧ w2.frozen? ⟨w.heap.size + 1 + 1 + 1, 2, none⟩ = false) := by
    refine ⟨?_, ?_, ?_⟩ <;> (refine mine_below hb2 ?_; repeat (first | (refine ⟨?_, ?_⟩ <;> (with_reducible assumption)) | (with_reducible refine mine_alloc ?_ _) | (with_reducible refine mine_set ?_ _ _) | (with_reducible refine mine_drew ?_) | (with_reducible refine mine_drewN ?_ _) | (with_reducible refine mine_below (by assumption) ?_)))
  have zm17 : w.heap.size + 1 + 1 + 1 < w2.heap.size := World.block_lt_of_cell? _ _ m17a
  obtain ⟨⟨o20a, o20b⟩, ⟨o21a, o21b⟩, ⟨o22a, o22b⟩⟩ : (w2.cell? ⟨w.heap.size + 1, 0, none⟩ = some (.int .i64 (k0 : Int)) ∧ w2.frozen? ⟨w.heap.size + 1, 0, none⟩ = false) ∧ (w2.cell? ⟨w.heap.size + 1, 1, none⟩ = some (.int .i64 e0) ∧ w2.frozen? ⟨w.heap.size + 1, 1, none⟩ = false) ∧ (w2.cell? ⟨w.heap.size + 1, 2, none⟩ = some (.bool false) ∧ w2.frozen? ⟨w.heap.size + 1, 2, none⟩ = false) := by
    refine ⟨?_, ?_, ?_⟩ <;> (refine own_below hb2 ?_; repeat (first | (refine ⟨?_, ?_⟩ <;> (with_reducible assumption)) | (with_reducible apply own_same) | ((with_reducible refine own_set ?_ ?_ _); (· first | (simp; done) | (simp; omega))) | ((with_reducible refine own_new ?_ ?_); (· (simp; done)); (· rfl)) | (with_reducible refine own_alloc ?_ _) | (with_reducible refine own_drew ?_) | (with_reducible refine own_drewN ?_ _) | (with_reducible refine own_below (by assumption) ?_)))
  have zo20 : w.heap.size + 1 < w2.heap.size := World.block_lt_of_cell? _ _ o20a
  clear f1 zf1 f2 f3 zf3 f4 f5 zf5 m6a m6b zm6 m7a m7b m8a m8b o9a o9b zo9 o10a o10b o11a o11b
  go_wp2_with fail
  have hw0 : w.heap.size + 3 < w2.heap.size := zm17
  have st0 : stepSt w.heap.size w w2 b o l.length cap len k0 e0 false px py :=
    ⟨f12, f13, ⟨o20a, o20b⟩, ⟨o21a, o21b⟩, ⟨o22a, o22b⟩, f14, f15, ⟨m17a, m17b⟩, ⟨m18a, m18b⟩, ⟨m19a, m19b⟩, by (repeat (with_reducible (first | assumption | exact Below.refl _ _ | refine Below.drew ?_ | refine below_drewN ?_ _ | refine below_set ?_ (by simp; try omega) _ | refine below_alloc ?_ (Nat.le_refl _) _ | refine below_sub (by assumption) ?_)))⟩
  go_loopg [8] (l.length - k0) (fun m v wr => ∃ (k : Nat) (en : Int) (ps : List Int) (dn : Bool), k < l.length ∧ m = (if dn = true then 0 else l.length - k) ∧ Hid (dn = false → stepG l px py (l.length - k) k en ps = R) ∧ Hid (dn = true → R = (k, en, true, ps)) ∧ Hid (dn = false → ps.length ≤ k) ∧ w.heap.size + 3 < wr.heap.size ∧ Hid (wr.ownsRow (w.heap.size + 4) 3 1 v ps.length (ps.map (Value.int .i64))) ∧ stepSt w.heap.size w wr b o l.length cap len k en dn px py)
  case atStart => exact ⟨k0, x0.n, [], false, hk, by simp, hide (fun _ => hR.out), hide (fun h => by cases h), hide (fun _ => Nat.zero_le _), by simpa using hw0, hide (World.ownsRow_nil _ _ _ _), stepSt_en x0.n (Nat.le_refl _) st0⟩
  case round =>
    obtain ⟨k, en, ps, dn, hk1, rfl, G, GD, hps, hsz, OW, ST⟩ := hrel
    rcases dn with _ | _
    rotate_left
    · obtain rfl := GD.out rfl
      obtain ⟨p0, p1, ⟨g0a, g0b⟩, ⟨g1a, g1b⟩, ⟨g2a, g2b⟩, q0, q1, ⟨m0a, m0b⟩, ⟨m1a, m1b⟩, ⟨m2a, m2b⟩, hw⟩ := ST
      go_wp2_with fail
      go_quiet (fail)
      go_wp2_with fail
      exact bodyPost_ret (v := .tuple #[.agg #[.int .i64 (k : Int), .int .i64 en, .bool true], _]) (by simp [results, Tryz.results6, go_sem, *]) rfl ⟨_, rfl, owns_mono (by omega) (ownsRow_setCell_below (ownsRow_setCell_below (ownsRow_setCell_below (owns_below (below_drewN (Below.refl _ _) _) OW.out) (by simp) _) (by simp) _) (by simp) _), by (repeat (with_reducible (first | assumption | exact Below.refl _ _ | refine Below.drew ?_ | refine below_drewN ?_ _ | refine below_set ?_ (by simp; try omega) _ | refine below_alloc ?_ (Nat.le_refl _) _ | refine below_sub (by assumption) ?_)))⟩
    have G9 : Hid (stepG l px py (l.length - k) k en ps = R) := hide (G.out rfl)
    have hp9 := hps.out rfl
    clear GD G hps
    have G := G9
    have hps := hp9
    clear G9 hp9
    obtain ⟨x, hx⟩ : ∃ x, l[k]? = some x := ⟨_, List.getElem?_eq_getElem hk1⟩
    have hfu : l.length - k = (l.length - (k + 1)) + 1 := by omega
    have STH := hide ST
    have hat := pathAt_get (pathAt_below ST.2.2.2.2.2.2.2.2.2.2 hp.out) hx
    obtain ⟨p0, p1, ⟨g0a, g0b⟩, ⟨g1a, g1b⟩, ⟨g2a, g2b⟩, q0, q1, ⟨m0a, m0b⟩, ⟨m1a, m1b⟩, ⟨m2a, m2b⟩, hw⟩ := ST
    have HX := hide hx
    clear hx
    have hov : Hid (x.over px py = overF x.c x.ax x.ay x.bx x.b_y x.cx x.cy x.r x.f x.s px py) := hide rfl
    have Gx := hide (fun h => stepG_stay (l := l) (px := px) (py := py) (m := l.length - (k + 1)) (k := k) (en := en) (ps := ps) HX.out h)
    have Ge := hide (fun h hl => stepG_end (l := l) (px := px) (py := py) (m := l.length - (k + 1)) (k := k) (en := en) (ps := ps) HX.out h hl)
    have Go := hide (fun y h hy hg => stepG_on (l := l) (px := px) (py := py) (m := l.length - (k + 1)) (k := k) (en := en) (ps := ps) (y := y) HX.out h hy hg)
    clear HX
    obtain ⟨c, ax, ay, bx, b_y, cx, cy, r, f, s, L, n, g⟩ := x
    have c0 : wr.cell? ⟨b, o + k * 13, none⟩ = some (.bool c) := hat.1
    have c1 : wr.cell? ⟨b, o + k * 13 + 1, none⟩ = some (.int .i64 ax) := hat.2.1
    have c2 : wr.cell? ⟨b, o + k * 13 + 2, none⟩ = some (.int .i64 ay) := hat.2.2.1
    have c3 : wr.cell? ⟨b, o + k * 13 + 3, none⟩ = some (.int .i64 bx) := hat.2.2.2.1
    have c4 : wr.cell? ⟨b, o + k * 13 + 4, none⟩ = some (.int .i64 b_y) := hat.2.2.2.2.1
    have c5 : wr.cell? ⟨b, o + k * 13 + 5, none⟩ = some (.int .i64 cx) := hat.2.2.2.2.2.1
    have c6 : wr.cell? ⟨b, o + k * 13 + 6, none⟩ = some (.int .i64 cy) := hat.2.2.2.2.2.2.1
    have c7 : wr.cell? ⟨b, o + k * 13 + 7, none⟩ = some (.int .i64 r) := hat.2.2.2.2.2.2.2.1
    have c8 : wr.cell? ⟨b, o + k * 13 + 8, none⟩ = some (.int .i64 f) := hat.2.2.2.2.2.2.2.2.1
    have c9 : wr.cell? ⟨b, o + k * 13 + 9, none⟩ = some (.int .i64 s) := hat.2.2.2.2.2.2.2.2.2.1
    have c10 : wr.cell? ⟨b, o + k * 13 + 10, none⟩ = some (.int .i64 L) := hat.2.2.2.2.2.2.2.2.2.2.1
    have c11 : wr.cell? ⟨b, o + k * 13 + 11, none⟩ = some (.int .i64 n) := hat.2.2.2.2.2.2.2.2.2.2.2.1
    have c12 : wr.cell? ⟨b, o + k * 13 + 12, none⟩ = some (.bool g) := hat.2.2.2.2.2.2.2.2.2.2.2.2
    clear hat
    have OV := fun W => roverp_any c g ax ay bx b_y cx cy r f s L n px py W
    have hov : Hid (El.over ⟨c, ax, ay, bx, b_y, cx, cy, r, f, s, L, n, g⟩ px py = overF c ax ay bx b_y cx cy r f s px py) := hide rfl
    generalize overF c ax ay bx b_y cx cy r f s px py = V at *
    have zc : b < wr.heap.size := World.block_lt_of_cell? _ _ c0
    have zp : w.heap.size < wr.heap.size := World.block_lt_of_cell? _ _ p0
    go_wp2_with fail
    go_region_held3 (fun w' => w'.cell? ⟨w.heap.size, 0, none⟩ = some (.slice (some ⟨b, o, none⟩) l.length cap) ∧ w'.cell? ⟨w.heap.size, 1, none⟩ = some (.int .i64 len) ∧ w'.cell? ⟨w.heap.size + 2, 0, none⟩ = some (.int .i64 px) ∧ w'.cell? ⟨w.heap.size + 2, 1, none⟩ = some (.int .i64 py) ∧ w'.cell? ⟨w.heap.size + 1, 0, none⟩ = some (.int .i64 (k : Int)) ∧ w'.cell? ⟨w.heap.size + 1, 1, none⟩ = some (.int .i64 en) ∧ w'.cell? ⟨w.heap.size + 1, 2, none⟩ = some (.bool false) ∧ w'.cell? ⟨b, o + k * 13, none⟩ = some (.bool c) ∧ w'.cell? ⟨b, o + k * 13 + 1, none⟩ = some (.int .i64 ax) ∧ w'.cell? ⟨b, o + k * 13 + 2, none⟩ = some (.int .i64 ay) ∧ w'.cell? ⟨b, o + k * 13 + 3, none⟩ = some (.int .i64 bx) ∧ w'.cell? ⟨b, o + k * 13 + 4, none⟩ = some (.int .i64 b_y) ∧ w'.cell? ⟨b, o + k * 13 + 5, none⟩ = some (.int .i64 cx) ∧ w'.cell? ⟨b, o + k * 13 + 6, none⟩ = some (.int .i64 cy) ∧ w'.cell? ⟨b, o + k * 13 + 7, none⟩ = some (.int .i64 r) ∧ w'.cell? ⟨b, o + k * 13 + 8, none⟩ = some (.int .i64 f) ∧ w'.cell? ⟨b, o + k * 13 + 9, none⟩ = some (.int .i64 s) ∧ w'.cell? ⟨b, o + k * 13 + 10, none⟩ = some (.int .i64 L) ∧ w'.cell? ⟨b, o + k * 13 + 11, none⟩ = some (.int .i64 n) ∧ w'.cell? ⟨b, o + k * 13 + 12, none⟩ = some (.bool g)) ((go_split_ands; refine ⟨?_, ?_, ?_, ?_, ?_, ?_, ?_, ?_, ?_, ?_, ?_, ?_, ?_, ?_, ?_, ?_, ?_, ?_, ?_, ?_⟩ <;> (repeat (first | (with_reducible assumption) | ((with_reducible refine cell_set ?_ ?_ _); (· first | (simp; done) | (simp; omega) | omega)) | ((with_reducible refine cell_new ?_ ?_); (· (simp; done)); (· rfl)) | (with_reducible refine cell_alloc ?_ _) | (with_reducible refine cell_drew ?_) | (with_reducible refine cell_drewN ?_ _) | (with_reducible refine cell_below (by assumption) ?_)))))
      (first
        | (go_at_call 17; (with_reducible refine (OV _).mono ?_); rintro e w' ⟨rfl, hb'⟩))
    rename_i hH
    obtain ⟨f1, f2, f3, f4, f5, f6, f7, f8, f9, f10, f11, f12, f13, f14, f15, f16, f17, f18, f19, f20⟩ := hH
    have zf1 : w.heap.size < w'.heap.size := World.block_lt_of_cell? _ _ f1
    have zf3 : w.heap.size + 2 < w'.heap.size := World.block_lt_of_cell? _ _ f3
    have zf5 : w.heap.size + 1 < w'.heap.size := World.block_lt_of_cell? _ _ f5
    have zf8 : b < w'.heap.size := World.block_lt_of_cell? _ _ f8
    clear p0 p1 q0 q1 g0a g1a g2a c0 c1 c2 c3 c4 c5 c6 c7 c8 c9 c10 c11 c12
    have hbw : Below wr.heap.size wr w' := by (repeat (with_reducible (first | assumption | exact Below.refl _ _ | refine Below.drew ?_ | refine below_drewN ?_ _ | refine below_set ?_ (by simp; try omega) _ | refine below_alloc ?_ (Nat.le_refl _) _ | refine below_sub (by assumption) ?_)))
    have ST1 := hide (stepSt_below hsz hbw STH.out)
    have OW1 := hide (owns_below hbw OW.out)
    have hsz1 : w.heap.size + 3 < w'.heap.size := Nat.lt_of_lt_of_le hsz hbw.size
    clear STH OW
    rw [hfu] at G
    rcases V with _ | _
    · skip
      obtain rfl : R = (k, en, false, ps) := G.out.symm.trans (Gx.out hov.out)
      obtain ⟨_, _, _, _, _, _, _, ⟨m3a, m3b⟩, ⟨m4a, m4b⟩, ⟨m5a, m5b⟩, hwf⟩ := ST1.out
      go_wp2_with fail
      exact bodyPost_ret (v := .tuple #[.agg #[.int .i64 (k : Int), .int .i64 en, .bool false], _]) (by simp [results, Tryz.results6, go_sem, *]) rfl ⟨_, rfl, owns_mono (by omega) (ownsRow_setCell_below (ownsRow_setCell_below (ownsRow_setCell_below OW1.out (by simp) _) (by simp) _) (by simp) _), by (repeat (with_reducible (first | assumption | exact Below.refl _ _ | refine Below.drew ?_ | refine below_drewN ?_ _ | refine below_set ?_ (by simp; try omega) _ | refine below_alloc ?_ (Nat.le_refl _) _ | refine below_sub (by assumption) ?_)))⟩
    · skip
      obtain ⟨_, _, ⟨g3a, g3b⟩, ⟨g4a, g4b⟩, ⟨g5a, g5b⟩, _, _, ⟨m6a, m6b⟩, ⟨m7a, m7b⟩, ⟨m8a, m8b⟩, hwg⟩ := ST1.out
      have wk := wi' (x := (k : Int) + 1) (by omega) (by omega)
      have u2 : (0 : Int) ≤ (k : Int) + 1 := by omega
      have u3 : ((k : Int) + 1).toNat = k + 1 := by omega
      rcases Nat.lt_or_ge (k + 1) l.length with hk2 | hk2
      · obtain ⟨y, hy⟩ : ∃ y, l[k + 1]? = some y := ⟨_, List.getElem?_eq_getElem hk2⟩
        have hyt := pathAt_get (pathAt_below hwg hp.out) hy
        have d11 : w'.cell? ⟨b, o + (k + 1) * 13 + 11, none⟩ = some (.int .i64 y.n) := hyt.2.2.2.2.2.2.2.2.2.2.2.1
        have d12 : w'.cell? ⟨b, o + (k + 1) * 13 + 12, none⟩ = some (.bool y.g) := hyt.2.2.2.2.2.2.2.2.2.2.2.2
        clear hyt
        have TL : ((k : Int) + 1 == (l.length : Int)) = false := beq_eq_false_iff_ne.2 (by omega)
        have u1 : (k : Int) + 1 < (l.length : Int) := by omega
        rcases hyg : y.g with _ | _
        rotate_left
        · rw [hyg] at d12
          have hl : lastB l k = true := by unfold lastB; rw [hy]; exact hyg
          obtain rfl : R = (k, en, true, ps ++ [en]) := G.out.symm.trans (Ge.out hov.out hl)
          go_wp2_with (first
            | (at_builtin; refine wpList_append_own _ rfl _ _ 30 rfl (w.heap.size + 4) 3 i0 (.int .i64 0) 1 8 Tryz.underlying30 hi hz0 hz1 hz2 rfl (by decide) _ _ _ rfl (OW1.out.alloc _) ⟨w'.heap.size, 0, none⟩ 1 1 [.int .i64 en] rfl rfl ?c1 ?c2 ?c3 ?c4 ?c5 ?_)
            | go_in)
          case c1 =>
            intro j u hj
            match j, hj with
            | 0, hj => simp at hj; subst hj; first | (simp [Addr.add]; done) | exact cell_new (by simp) rfl
          case c2 => intro u hu; simp at hu; subst hu; rfl
          case c3 => unfold maxLen; omega
          case c4 => omega
          case c5 => simp; omega
          · intro v' wa hown' hgrow _
            have hszA : w.heap.size + 3 < wa.heap.size := by
              have := hgrow.size
              simp at this
              omega
            have ST3 := stepSt_grown (Nat.le_refl _) (by simp; omega) hgrow (fun j hj => (OW1.out.lt j hj).1) (stepSt_below hsz1 (below_alloc (Below.refl _ _) (Nat.le_refl _) _) ST1.out)
            have OW3 := hide hown'
            clear hown' hgrow g3a g3b g4a g4b g5a g5b m6a m6b m7a m7b m8a m8b hwg
            have ST4 := hide (stepSt_dn true (Nat.le_refl _) ST3)
            obtain ⟨p3, p4, ⟨g3a, g3b⟩, ⟨g4a, g4b⟩, ⟨g5a, g5b⟩, q3, q4, ⟨m6a, m6b⟩, ⟨m7a, m7b⟩, ⟨m8a, m8b⟩, hwg⟩ := ST3
            go_wp2_with fail
            go_roundg 0
            case measure => first | omega | (simp; done) | (simp; omega)
            case rel => exact ⟨k, en, ps ++ [en], true, hk1, by simp, hide (fun h => by cases h), hide (fun _ => rfl), hide (fun h => by cases h), by simpa using hszA, hide (by rw [List.length_append, List.map_append]; exact ownsRow_setCell_below OW3.out (by simp) _), ST4.out⟩
        · rw [hyg] at d12
          have G2 := hide (G.out.symm.trans (Go.out y hov.out hy hyg))
          clear hy hyg
          generalize y.n = n2 at *
          by_cases hne : n2 = en
          · have hz := trivial
            have G3 := hide (G2.out.trans (if_pos hne))
            subst hne
            clear G2
            go_wp2_with fail
            go_quiet (fail)
            go_wp2_with fail
            go_region
            all_goals
              go_wp2_with fail
              go_roundg (l.length - (k + 1))
              case measure => omega
              case rel => exact ⟨k + 1, n2, ps, false, hk2, by simp, hide (fun _ => G3.out.symm), hide (fun h => by cases h), hide (fun _ => by omega), by simpa using hsz1, hide (ownsRow_setCell_below (ownsRow_setCell_below (owns_below (below_drewN (Below.refl _ _) _) OW1.out) (by simp) _) (by simp) _), stepSt_en n2 (Nat.le_refl _) (stepSt_el (k + 1) (Nat.le_refl _) (stepSt_below hsz1 (below_drewN (Below.refl _ _) _) ST1.out))⟩
          · have hz := trivial
            have G3 := hide (G2.out.trans (if_neg hne))
            clear G2
            have tne : (n2 != en) = true := bne_iff_ne.2 hne
            have tnq : (n2 == en) = false := beq_eq_false_iff_ne.2 hne
            go_wp2_with fail
            go_quiet (fail)
            go_wp2_with (first
              | (at_builtin; refine wpList_append_own _ rfl _ _ 30 rfl (w.heap.size + 4) 3 i0 (.int .i64 0) 1 8 Tryz.underlying30 hi hz0 hz1 hz2 rfl (by decide) _ _ _ rfl (World.ownsRow.alloc (owns_below (below_drewN (Below.refl _ _) _) OW1.out) _) ⟨w'.heap.size, 0, none⟩ 1 1 [.int .i64 en] rfl rfl ?c1 ?c2 ?c3 ?c4 ?c5 ?_)
              | go_in)
            case c1 =>
              intro j u hj
              match j, hj with
              | 0, hj => simp at hj; subst hj; first | (simp [Addr.add]; done) | exact cell_new (by simp) rfl
            case c2 => intro u hu; simp at hu; subst hu; rfl
            case c3 => unfold maxLen; omega
            case c4 => omega
            case c5 => simp; omega
            · intro v' wa hown' hgrow _
              have hszA : w.heap.size + 3 < wa.heap.size := by
                have := hgrow.size
                simp at this
                omega
              have d11a : wa.cell? ⟨b, o + (k + 1) * 13 + 11, none⟩ = some (.int .i64 n2) := hgrow.cell (by (repeat (first | (with_reducible assumption) | ((with_reducible refine cell_set ?_ ?_ _); (· first | (simp; done) | (simp; omega) | omega)) | ((with_reducible refine cell_new ?_ ?_); (· (simp; done)); (· rfl)) | (with_reducible refine cell_alloc ?_ _) | (with_reducible refine cell_drew ?_) | (with_reducible refine cell_drewN ?_ _) | (with_reducible refine cell_below (by assumption) ?_)))) (fun e => by have := (OW1.out.lt _ e.symm).1; simp at this; omega)
              have ST3 := stepSt_grown (Nat.le_refl _) (by simp; omega) hgrow (fun j hj => (OW1.out.lt j hj).1) (stepSt_below hsz1 (below_alloc (below_drewN (Below.refl _ _) _) (Nat.le_refl _) _) ST1.out)
              have OW3 := hide hown'
              have ST4 := hide ST3
              clear hown' hgrow g3a g3b g4a g4b g5a g5b m6a m6b m7a m7b m8a m8b hwg
              obtain ⟨p3, p4, ⟨g3a, g3b⟩, ⟨g4a, g4b⟩, ⟨g5a, g5b⟩, q3, q4, ⟨m6a, m6b⟩, ⟨m7a, m7b⟩, ⟨m8a, m8b⟩, hwg⟩ := ST3
              go_wp2_with fail
              go_region
              all_goals
                go_wp2_with fail
                go_roundg (l.length - (k + 1))
                case measure => omega
                case rel => exact ⟨k + 1, n2, ps ++ [en], false, hk2, by simp, hide (fun _ => G3.out.symm), hide (fun h => by cases h), hide (fun _ => by simp; omega), by simpa using hszA, hide (by rw [List.length_append, List.map_append]; exact ownsRow_setCell_below (ownsRow_setCell_below (owns_below (below_drewN (Below.refl _ _) _) OW3.out) (by simp) _) (by simp) _), stepSt_en n2 (Nat.le_refl _) (stepSt_el (k + 1) (Nat.le_refl _) (stepSt_below hszA (below_drewN (Below.refl _ _) _) ST4.out))⟩
      · have TL : ((k : Int) + 1 == (l.length : Int)) = true := by rw [beq_iff_eq]; omega
        have hy : l[k + 1]? = none := List.getElem?_eq_none (by omega)
        have hl : lastB l k = true := by unfold lastB; rw [hy]
        obtain rfl : R = (k, en, true, ps ++ [en]) := G.out.symm.trans (Ge.out hov.out hl)
        go_wp2_with (first
          | (at_builtin; refine wpList_append_own _ rfl _ _ 30 rfl (w.heap.size + 4) 3 i0 (.int .i64 0) 1 8 Tryz.underlying30 hi hz0 hz1 hz2 rfl (by decide) _ _ _ rfl (OW1.out.alloc _) ⟨w'.heap.size, 0, none⟩ 1 1 [.int .i64 en] rfl rfl ?c1 ?c2 ?c3 ?c4 ?c5 ?_)
          | go_in)
        case c1 =>
          intro j u hj
          match j, hj with
          | 0, hj => simp at hj; subst hj; first | (simp [Addr.add]; done) | exact cell_new (by simp) rfl
        case c2 => intro u hu; simp at hu; subst hu; rfl
        case c3 => unfold maxLen; omega
        case c4 => omega
        case c5 => simp; omega
        · intro v' wa hown' hgrow _
          have hszA : w.heap.size + 3 < wa.heap.size := by
            have := hgrow.size
            simp at this
            omega
          have ST3 := stepSt_grown (Nat.le_refl _) (by simp; omega) hgrow (fun j hj => (OW1.out.lt j hj).1) (stepSt_below hsz1 (below_alloc (Below.refl _ _) (Nat.le_refl _) _) ST1.out)
          have OW3 := hide hown'
          clear hown' hgrow g3a g3b g4a g4b g5a g5b m6a m6b m7a m7b m8a m8b hwg
          have ST4 := hide (stepSt_dn true (Nat.le_refl _) ST3)
          obtain ⟨p3, p4, ⟨g3a, g3b⟩, ⟨g4a, g4b⟩, ⟨g5a, g5b⟩, q3, q4, ⟨m6a, m6b⟩, ⟨m7a, m7b⟩, ⟨m8a, m8b⟩, hwg⟩ := ST3
          go_wp2_with fail
          go_roundg 0
          case measure => first | omega | (simp; done) | (simp; omega)
          case rel => exact ⟨k, en, ps ++ [en], true, hk1, by simp, hide (fun h => by cases h), hide (fun _ => rfl), hide (fun h => by cases h), by simpa using hszA, hide (by rw [List.length_append, List.map_append]; exact ownsRow_setCell_below OW3.out (by simp) _), ST4.out⟩
theorem rstep_any (S : Option Addr) (l : List El) (cap : Nat) (len el e0 : Int) (dn : Bool) (px py : Int) (w : World) (h2 : l.length ≤ 9223372036854775807) (hp : Hid (pathAt w S l)) (R : Int × Int × Bool × List Int) (hR : R = stepR l len el e0 dn px py) :
    Calls Tryz.prog 6 #[.agg #[.slice S l.length cap, .int .i64 len], .agg #[.int .i64 el, .int .i64 e0, .bool dn], .agg #[.int .i64 px, .int .i64 py]] w fun e w' => ∃ S' cap', e = .returned (.tuple #[.agg #[.int .i64 R.1, .int .i64 R.2.1, .bool R.2.2.1], .slice S' R.2.2.2.length cap']) ∧ Hid (intsAt w' S' R.2.2.2) ∧ Hid (∀ a, S' = some a → w.heap.size ≤ a.block) ∧ Below w.heap.size w w' := by
  have nil : ∀ {e : Ending} {w' : World}, (e = .returned (.tuple #[.agg #[.int .i64 el, .int .i64 e0, .bool dn], .slice none 0 0]) ∧ Below w.heap.size w w') → ∃ S' cap', e = .returned (.tuple #[.agg #[.int .i64 el, .int .i64 e0, .bool dn], .slice S' ([] : List Int).length cap']) ∧ Hid (intsAt w' S' ([] : List Int)) ∧ Hid (∀ a, S' = some a → w.heap.size ≤ a.block) ∧ Below w.heap.size w w' :=
    fun h => ⟨none, 0, h.1, hide (fun i t hi => by simp at hi), hide (fun a ha => by cases ha), h.2⟩
  unfold stepR at hR
  by_cases hc : chkF l len = 0
  · rw [if_neg (by simp [hc])] at hR
    rcases hq : vldB px py with _ | _
    · rw [if_pos hq] at hR
      subst hR
      exact (rstep_bad S l cap len px py el e0 dn hc hq w h2 hp).mono fun e w' h => nil h
    · rw [if_neg (by simp [hq])] at hR
      cases dn with
      | true =>
        rw [if_pos rfl] at hR
        subst hR
        exact (rstep_done S l cap len px py el e0 hc hq w h2 hp).mono fun e w' h => nil h
      | false =>
        rw [if_neg (by simp)] at hR
        by_cases he : el < 0 ∨ (l.length : Int) ≤ el
        · rw [if_pos he] at hR
          subst hR
          exact (rstep_out S l cap len px py el e0 hc hq he w h2 hp).mono fun e w' h => nil h
        · rw [if_neg he] at hR
          obtain ⟨k, rfl⟩ : ∃ k : Nat, el = k := ⟨el.toNat, by omega⟩
          have hk : k < l.length := by omega
          obtain ⟨b, o, rfl⟩ := pathAt_some hp.out (by omega)
          obtain ⟨x, hx⟩ : ∃ x, l[k]? = some x := ⟨_, List.getElem?_eq_getElem hk⟩
          rw [show ((k : Int)).toNat = k from by omega, hx] at hR
          dsimp only at hR
          refine (rstep_main b o l cap len k e0 px py w h2 hp hc hq hk x hx _ (hide rfl)).mono ?_
          rintro e w' ⟨v, rfl, ho, hb⟩
          obtain ⟨S', cap', rfl, hi, hn⟩ := owns_ints ho
          subst hR
          exact ⟨S', cap', rfl, hide hi, hide hn, hb⟩
  · rw [if_pos hc] at hR
    subst hR
    exact (rstep_err S l cap len px py el e0 dn _ rfl hc w h2 hp).mono fun e w' h => nil h
end Go.Proofs.YtdfkkknkiioghaaGreat

