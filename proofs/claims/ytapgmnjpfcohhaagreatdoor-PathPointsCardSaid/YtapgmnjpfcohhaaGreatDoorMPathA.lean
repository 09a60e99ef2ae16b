/-
  The walk of path.Check.
-/
import Derived.Test.YtapgmnjpfcohhaaGreatDoorMElem
import Derived.Test.YtapgmnjpfcohhaaGreatDoorMFixed
import Derived.Test.YtapgmnjpfcohhaaGreatDoorMGeo
import Derived.Test.YtapgmnjpfcohhaaGreatDoorMPathM
import Derived.Test.YtapgmnjpfcohhaaGreatDoorMPlain
import Derived.Test.YtapgmnjpfcohhaaGreatDoorMSeqP
import Derived.Deep.DeepCutAuto
import Derived.Below
import Derived.Deep.RegionHeld3
import Derived.Test.YtapgmnjpfcohhaaGreatDoorProg
import Derived.WalkSpells
import Derived.WalkLawsBesides
import Derived.Deep.QuietTactic
import Derived.BigQuiet
import Derived.Lib.ItoaNum
import Derived.Shelf.Small.Bits
import Derived.Shelf.Strconv.Itoa0
import Derived.Shelf.Bits.Mul64
import Derived.Shelf.Spec.BitsCarry
import Derived.WalkKit
import Derived.ProofKit
import Derived.OpenShut
import Derived.ChangeSame
import Derived.Test.YtapgmnjpfcohhaaGreatDoorRows
import Derived.Laws.BitsAllLaws
namespace Go.Proofs.YtapgmnjpfcohhaaGreatDoor
open Go.RowKit
set_option linter.unusedVariables false
set_option linter.unusedSimpArgs false
set_option maxHeartbeats 1000000 in
theorem chk_many (S : Option Addr) (l : List El) (cap : Nat) (len : Int) (w : World) (h : 500 < l.length) (h2 : l.length ≤ 9223372036854775807) :
    Calls Tryz.prog 9 #[.agg #[.slice S l.length cap, .int .i64 len]] w fun e w' => e = .returned (.int .i64 (chkF l len)) ∧ Below w.heap.size w w' := by
  have HR : Hid (chkF l len = 3) := hide (by unfold chkF; rw [if_pos h])
  generalize chkF l len = R at *
  obtain rfl : R = 3 := HR.out
  generalize l.length = m at *
  go_enter Tryz.func9, Tryz.ntmps9
  go_wp2
  all_goals
    go_ret
    exact ⟨rfl, by (repeat (with_reducible (first | assumption | exact Below.refl _ _ | refine Below.drew ?_ | refine below_drewN ?_ _ | refine below_set ?_ (by simp; try omega) _ | refine below_alloc ?_ (Nat.le_refl _) _ | refine below_sub (by assumption) ?_)))⟩
set_option maxRecDepth 100000 in
set_option maxHeartbeats 8000000 in
theorem chk_few (b o : Nat) (l : List El) (cap : Nat) (len : Int) (w : World) (h : 0 < l.length) (h2 : l.length ≤ 500) (hp : Hid (pathAt w (some ⟨b, o, none⟩) l)) :
    Calls Tryz.prog 9 #[.agg #[.slice (some ⟨b, o, none⟩) l.length cap, .int .i64 len]] w fun e w' => e = .returned (.int .i64 (chkF l len)) ∧ Below w.heap.size w w' := by
  have H0 : Hid (chkG len true 0 0 0 0 l = chkF l len) := hide (by unfold chkF; rw [if_neg (by omega)])
  generalize chkF l len = R at *
  go_enter Tryz.func9, Tryz.ntmps9
  go_wp2_with fail
  go_loopw [3, 4, 15] (fun a u i W => ∃ (k : Nat) (sum en bx b_y : Int), k ≤ l.length ∧ a = .int .i64 sum ∧ u = .int .i64 en ∧ i = .int .i64 k ∧ Hid (chkG len (decide (k = 0)) en bx b_y sum (l.drop k) = R) ∧ Hid (0 < k → ∃ y, l[k - 1]? = some y ∧ y.bx = bx ∧ y.b_y = b_y ∧ y.n = en) ∧ Hid (k = 0 → en = 0) ∧ 0 ≤ en ∧ 0 ≤ sum ∧ sum ≤ k * 60000000 ∧ W.cell? ⟨w.heap.size, 0, none⟩ = some (.slice (some ⟨b, o, none⟩) l.length cap) ∧ W.cell? ⟨w.heap.size, 1, none⟩ = some (.int .i64 len) ∧ Below w.heap.size w W) (fun a b i _ => l.length - (intOf i).toNat)
  case atStart => exact ⟨0, 0, 0, 0, 0, by omega, rfl, rfl, rfl, H0, hide (fun h => absurd h (Nat.lt_irrefl 0)), hide (fun _ => rfl), by omega, by omega, by omega, by simp [go_sem], by simp [go_sem], by (repeat (with_reducible (first | assumption | exact Below.refl _ _ | refine Below.drew ?_ | refine below_drewN ?_ _ | refine below_set ?_ (by simp; try omega) _ | refine below_alloc ?_ (Nat.le_refl _) _ | refine below_sub (by assumption) ?_)))⟩
  case round =>
    obtain ⟨k, sum, en, px, py, hk, rfl, rfl, rfl, G, Y, Z, n0, s0, s1, q0, q1, K⟩ := hrel
    by_cases hlt : k < l.length
    · obtain ⟨x, hx⟩ : ∃ x, l[k]? = some x := ⟨_, List.getElem?_eq_getElem hlt⟩
      have hd : l.drop k = x :: l.drop (k + 1) := by
        obtain ⟨h1, h2⟩ := List.getElem?_eq_some_iff.1 hx
        rw [List.drop_eq_getElem_cons h1, h2]
      have G2 : Hid ((if ¬ x.err = 0 then x.err else if x.n < en ∨ (decide (k = 0) = true ∧ x.g = true) then 9 else if decide (k = 0) = false ∧ x.g = false ∧ ¬ (x.ax = px ∧ x.ay = py) then 10 else chkG len false x.n x.bx x.b_y (sum + x.L) (l.drop (k + 1))) = R) := hide (by
        have := G.out
        rw [hd, chkG_cons] at this
        exact this)
      clear hd
      rcases Nat.eq_zero_or_pos k with hk0 | hk0
      · subst hk0
        have hat := pathAt_get (pathAt_below K hp.out) hx
        have HX := hide hx
        clear G hx Y Z
        obtain ⟨c, ax, ay, bx, b_y, cx, cy, r, f, s, L, n, g⟩ := x
        have c0 : wr.cell? ⟨b, o, none⟩ = some (.bool c) := hat.1
        have c1 : wr.cell? ⟨b, o + 1, none⟩ = some (.int .i64 ax) := hat.2.1
        have c2 : wr.cell? ⟨b, o + 2, none⟩ = some (.int .i64 ay) := hat.2.2.1
        have c3 : wr.cell? ⟨b, o + 3, none⟩ = some (.int .i64 bx) := hat.2.2.2.1
        have c4 : wr.cell? ⟨b, o + 4, none⟩ = some (.int .i64 b_y) := hat.2.2.2.2.1
        have c5 : wr.cell? ⟨b, o + 5, none⟩ = some (.int .i64 cx) := hat.2.2.2.2.2.1
        have c6 : wr.cell? ⟨b, o + 6, none⟩ = some (.int .i64 cy) := hat.2.2.2.2.2.2.1
        have c7 : wr.cell? ⟨b, o + 7, none⟩ = some (.int .i64 r) := hat.2.2.2.2.2.2.2.1
        have c8 : wr.cell? ⟨b, o + 8, none⟩ = some (.int .i64 f) := hat.2.2.2.2.2.2.2.2.1
        have c9 : wr.cell? ⟨b, o + 9, none⟩ = some (.int .i64 s) := hat.2.2.2.2.2.2.2.2.2.1
        have c10 : wr.cell? ⟨b, o + 10, none⟩ = some (.int .i64 L) := hat.2.2.2.2.2.2.2.2.2.2.1
        have c11 : wr.cell? ⟨b, o + 11, none⟩ = some (.int .i64 n) := hat.2.2.2.2.2.2.2.2.2.2.2.1
        have c12 : wr.cell? ⟨b, o + 12, none⟩ = some (.bool g) := hat.2.2.2.2.2.2.2.2.2.2.2.2
        have G3 : Hid ((if ¬ elemF c ax ay bx b_y cx cy r f s L = 0 then elemF c ax ay bx b_y cx cy r f s L else if n < en ∨ (decide (0 = 0) = true ∧ g = true) then 9 else if decide (0 = 0) = false ∧ g = false ∧ ¬ (ax = px ∧ ay = py) then 10 else chkG len false n bx b_y (sum + L) (l.drop (0 + 1))) = R) := hide G2.out
        have EC := fun W => elem_any c g ax ay bx b_y cx cy r f s L n W
        have eL := @elem_L c ax ay bx b_y cx cy r f s L
        generalize elemF c ax ay bx b_y cx cy r f s L = e0 at *
        clear hat G2
        have zc : b < wr.heap.size := World.block_lt_of_cell? _ _ c0
        have zq : w.heap.size < wr.heap.size := World.block_lt_of_cell? _ _ q0
        go_wp2_with fail
        refine (EC _).mono ?_
        rintro e w1 ⟨rfl, hb1⟩
        obtain ⟨f1, f2, f3, f4, f5, f6, f7, f8, f9, f10, f11, f12, f13, f14, f15, f16, f17, f18, f19, f20, f21, f22, f23, f24, f25, f26, f27, f28⟩ : w1.cell? ⟨w.heap.size, 0, none⟩ = some (.slice (some ⟨b, o, none⟩) l.length cap) ∧ w1.cell? ⟨w.heap.size, 1, none⟩ = some (.int .i64 len) ∧ w1.cell? ⟨b, o, none⟩ = some (.bool c) ∧ w1.cell? ⟨b, o + 1, none⟩ = some (.int .i64 ax) ∧ w1.cell? ⟨b, o + 2, none⟩ = some (.int .i64 ay) ∧ w1.cell? ⟨b, o + 3, none⟩ = some (.int .i64 bx) ∧ w1.cell? ⟨b, o + 4, none⟩ = some (.int .i64 b_y) ∧ w1.cell? ⟨b, o + 5, none⟩ = some (.int .i64 cx) ∧ w1.cell? ⟨b, o + 6, none⟩ = some (.int .i64 cy) ∧ w1.cell? ⟨b, o + 7, none⟩ = some (.int .i64 r) ∧ w1.cell? ⟨b, o + 8, none⟩ = some (.int .i64 f) ∧ w1.cell? ⟨b, o + 9, none⟩ = some (.int .i64 s) ∧ w1.cell? ⟨b, o + 10, none⟩ = some (.int .i64 L) ∧ w1.cell? ⟨b, o + 11, none⟩ = some (.int .i64 n) ∧ w1.cell? ⟨b, o + 12, none⟩ = some (.bool g) ∧ w1.cell? ⟨wr.heap.size, 0, none⟩ = some (.bool c) ∧ w1.cell? ⟨wr.heap.size, 1, none⟩ = some (.int .i64 ax) ∧ w1.cell? ⟨wr.heap.size, 2, none⟩ = some (.int .i64 ay) ∧ w1.cell? ⟨wr.heap.size, 3, none⟩ = some (.int .i64 bx) ∧ w1.cell? ⟨wr.heap.size, 4, none⟩ = some (.int .i64 b_y) ∧ w1.cell? ⟨wr.heap.size, 5, none⟩ = some (.int .i64 cx) ∧ w1.cell? ⟨wr.heap.size, 6, none⟩ = some (.int .i64 cy) ∧ w1.cell? ⟨wr.heap.size, 7, none⟩ = some (.int .i64 r) ∧ w1.cell? ⟨wr.heap.size, 8, none⟩ = some (.int .i64 f) ∧ w1.cell? ⟨wr.heap.size, 9, none⟩ = some (.int .i64 s) ∧ w1.cell? ⟨wr.heap.size, 10, none⟩ = some (.int .i64 L) ∧ w1.cell? ⟨wr.heap.size, 11, none⟩ = some (.int .i64 n) ∧ w1.cell? ⟨wr.heap.size, 12, none⟩ = some (.bool g) := by
          refine ⟨?_, ?_, ?_, ?_, ?_, ?_, ?_, ?_, ?_, ?_, ?_, ?_, ?_, ?_, ?_, ?_, ?_, ?_, ?_, ?_, ?_, ?_, ?_, ?_, ?_, ?_, ?_, ?_⟩ <;> (refine cell_below hb1 ?_; repeat (first | (with_reducible assumption) | ((with_reducible refine cell_set ?_ ?_ _); (· first | (simp; done) | (simp; omega) | omega)) | ((with_reducible refine cell_new ?_ ?_); (· (simp; done)); (· rfl)) | (with_reducible refine cell_alloc ?_ _) | (with_reducible refine cell_drew ?_) | (with_reducible refine cell_drewN ?_ _) | (with_reducible refine cell_below (by assumption) ?_)))
        have zf1 : w.heap.size < w1.heap.size := World.block_lt_of_cell? _ _ f1
        have zf3 : b < w1.heap.size := World.block_lt_of_cell? _ _ f3
        have zf16 : wr.heap.size < w1.heap.size := World.block_lt_of_cell? _ _ f16
        clear q0 zq q1 c0 zc c1 c2 c3 c4 c5 c6 c7 c8 c9 c10 c11 c12
        by_cases he : e0 = 0
        · subst he
          obtain ⟨l1, l2⟩ := eL rfl
          by_cases hn : n < en
          · obtain rfl : R = 9 := by
              have := G3.out
              rw [if_neg (by simp), if_pos (.inl hn)] at this
              exact this.symm
            go_wp2_with fail
            go_ret
            exact ⟨rfl, by (repeat (with_reducible (first | assumption | exact Below.refl _ _ | refine Below.drew ?_ | refine below_drewN ?_ _ | refine below_set ?_ (by simp; try omega) _ | refine below_alloc ?_ (Nat.le_refl _) _ | refine below_sub (by assumption) ?_)))⟩
          · have hn2 : en ≤ n := by omega
            have hn3 : 0 ≤ n := by omega
            rcases g with _ | _
            · have G4 : Hid (chkG len false n bx b_y (sum + L) (l.drop (0 + 1)) = R) := hide (by
                have := G3.out
                rw [if_neg (by simp), if_neg (by simp; omega), if_neg (by simp)] at this
                exact this)
              go_wp2_with fail
              go_quiet (fail)
              go_wp2_with fail
              go_roundw
              case rel => exact ⟨0 + 1, sum + L, n, bx, b_y, by omega, rfl, rfl, by go_num, by simpa using G4, hide (fun _ => ⟨_, HX.out, rfl, rfl, rfl⟩), hide (fun h => absurd h (Nat.succ_ne_zero _)), by omega, by omega, by omega, f1, f2, by (repeat (with_reducible (first | assumption | exact Below.refl _ _ | refine Below.drew ?_ | refine below_drewN ?_ _ | refine below_set ?_ (by simp; try omega) _ | refine below_alloc ?_ (Nat.le_refl _) _ | refine below_sub (by assumption) ?_)))⟩
              case measure => simp [intOf]; omega
            · obtain rfl : R = 9 := by
                have := G3.out
                rw [if_neg (by simp), if_pos (by simp)] at this
                exact this.symm
              go_wp2_with fail
              go_ret
              exact ⟨rfl, by (repeat (with_reducible (first | assumption | exact Below.refl _ _ | refine Below.drew ?_ | refine below_drewN ?_ _ | refine below_set ?_ (by simp; try omega) _ | refine below_alloc ?_ (Nat.le_refl _) _ | refine below_sub (by assumption) ?_)))⟩
        · obtain rfl : R = e0 := by
            have := G3.out
            rw [if_pos he] at this
            exact this.symm
          go_wp2_with fail
          go_ret
          exact ⟨rfl, by (repeat (with_reducible (first | assumption | exact Below.refl _ _ | refine Below.drew ?_ | refine below_drewN ?_ _ | refine below_set ?_ (by simp; try omega) _ | refine below_alloc ?_ (Nat.le_refl _) _ | refine below_sub (by assumption) ?_)))⟩
      · have hat := pathAt_get (pathAt_below K hp.out) hx
        have HX := hide hx
        obtain ⟨y, hy, y1, y2, y3⟩ := Y.out hk0
        have hyt := pathAt_get (pathAt_below K hp.out) hy
        have d3 : wr.cell? ⟨b, o + (k - 1) * 13 + 3, none⟩ = some (.int .i64 px) := by rw [← y1]; exact hyt.2.2.2.1
        have d4 : wr.cell? ⟨b, o + (k - 1) * 13 + 4, none⟩ = some (.int .i64 py) := by rw [← y2]; exact hyt.2.2.2.2.1
        have d11 : wr.cell? ⟨b, o + (k - 1) * 13 + 11, none⟩ = some (.int .i64 en) := by rw [← y3]; exact hyt.2.2.2.2.2.2.2.2.2.2.2.1
        clear hyt hy y1 y2 y3 y
        clear G hx Y Z
        obtain ⟨c, ax, ay, bx, b_y, cx, cy, r, f, s, L, n, g⟩ := x
        have c0 : wr.cell? ⟨b, o + k * 13, none⟩ = some (.bool c) := hat.1
        have c1 : wr.cell? ⟨b, o + k * 13 + 1, none⟩ = some (.int .i64 ax) := hat.2.1
        have c2 : wr.cell? ⟨b, o + k * 13 + 2, none⟩ = some (.int .i64 ay) := hat.2.2.1
        have c3 : wr.cell? ⟨b, o + k * 13 + 3, none⟩ = some (.int .i64 bx) := hat.2.2.2.1
        have c4 : wr.cell? ⟨b, o + k * 13 + 4, none⟩ = some (.int .i64 b_y) := hat.2.2.2.2.1
        have c5 : wr.cell? ⟨b, o + k * 13 + 5, none⟩ = some (.int .i64 cx) := hat.2.2.2.2.2.1
        have c6 : wr.cell? ⟨b, o + k * 13 + 6, none⟩ = some (.int .i64 cy) := hat.2.2.2.2.2.2.1
        have c7 : wr.cell? ⟨b, o + k * 13 + 7, none⟩ = some (.int .i64 r) := hat.2.2.2.2.2.2.2.1
        have c8 : wr.cell? ⟨b, o + k * 13 + 8, none⟩ = some (.int .i64 f) := hat.2.2.2.2.2.2.2.2.1
        have c9 : wr.cell? ⟨b, o + k * 13 + 9, none⟩ = some (.int .i64 s) := hat.2.2.2.2.2.2.2.2.2.1
        have c10 : wr.cell? ⟨b, o + k * 13 + 10, none⟩ = some (.int .i64 L) := hat.2.2.2.2.2.2.2.2.2.2.1
        have c11 : wr.cell? ⟨b, o + k * 13 + 11, none⟩ = some (.int .i64 n) := hat.2.2.2.2.2.2.2.2.2.2.2.1
        have c12 : wr.cell? ⟨b, o + k * 13 + 12, none⟩ = some (.bool g) := hat.2.2.2.2.2.2.2.2.2.2.2.2
        have G3 : Hid ((if ¬ elemF c ax ay bx b_y cx cy r f s L = 0 then elemF c ax ay bx b_y cx cy r f s L else if n < en ∨ (decide (k = 0) = true ∧ g = true) then 9 else if decide (k = 0) = false ∧ g = false ∧ ¬ (ax = px ∧ ay = py) then 10 else chkG len false n bx b_y (sum + L) (l.drop (k + 1))) = R) := hide G2.out
        have EC := fun W => elem_any c g ax ay bx b_y cx cy r f s L n W
        have eL := @elem_L c ax ay bx b_y cx cy r f s L
        generalize elemF c ax ay bx b_y cx cy r f s L = e0 at *
        clear hat G2
        have zc : b < wr.heap.size := World.block_lt_of_cell? _ _ c0
        have zq : w.heap.size < wr.heap.size := World.block_lt_of_cell? _ _ q0
        go_wp2_with fail
        refine (EC _).mono ?_
        rintro e w1 ⟨rfl, hb1⟩
        obtain ⟨f1, f2, f3, f4, f5, f6, f7, f8, f9, f10, f11, f12, f13, f14, f15, f16, f17, f18, f19, f20, f21, f22, f23, f24, f25, f26, f27, f28, f29, f30⟩ : w1.cell? ⟨w.heap.size, 0, none⟩ = some (.slice (some ⟨b, o, none⟩) l.length cap) ∧ w1.cell? ⟨w.heap.size, 1, none⟩ = some (.int .i64 len) ∧ w1.cell? ⟨b, o + k * 13, none⟩ = some (.bool c) ∧ w1.cell? ⟨b, o + k * 13 + 1, none⟩ = some (.int .i64 ax) ∧ w1.cell? ⟨b, o + k * 13 + 2, none⟩ = some (.int .i64 ay) ∧ w1.cell? ⟨b, o + k * 13 + 3, none⟩ = some (.int .i64 bx) ∧ w1.cell? ⟨b, o + k * 13 + 4, none⟩ = some (.int .i64 b_y) ∧ w1.cell? ⟨b, o + k * 13 + 5, none⟩ = some (.int .i64 cx) ∧ w1.cell? ⟨b, o + k * 13 + 6, none⟩ = some (.int .i64 cy) ∧ w1.cell? ⟨b, o + k * 13 + 7, none⟩ = some (.int .i64 r) ∧ w1.cell? ⟨b, o + k * 13 + 8, none⟩ = some (.int .i64 f) ∧ w1.cell? ⟨b, o + k * 13 + 9, none⟩ = some (.int .i64 s) ∧ w1.cell? ⟨b, o + k * 13 + 10, none⟩ = some (.int .i64 L) ∧ w1.cell? ⟨b, o + k * 13 + 11, none⟩ = some (.int .i64 n) ∧ w1.cell? ⟨b, o + k * 13 + 12, none⟩ = some (.bool g) ∧ w1.cell? ⟨b, o + (k - 1) * 13 + 3, none⟩ = some (.int .i64 px) ∧ w1.cell? ⟨b, o + (k - 1) * 13 + 4, none⟩ = some (.int .i64 py) ∧ w1.cell? ⟨wr.heap.size, 0, none⟩ = some (.bool c) ∧ w1.cell? ⟨wr.heap.size, 1, none⟩ = some (.int .i64 ax) ∧ w1.cell? ⟨wr.heap.size, 2, none⟩ = some (.int .i64 ay) ∧ w1.cell? ⟨wr.heap.size, 3, none⟩ = some (.int .i64 bx) ∧ w1.cell? ⟨wr.heap.size, 4, none⟩ = some (.int .i64 b_y) ∧ w1.cell? ⟨wr.heap.size, 5, none⟩ = some (.int .i64 cx) ∧ w1.cell? ⟨wr.heap.size, 6, none⟩ = some (.int .i64 cy) ∧ w1.cell? ⟨wr.heap.size, 7, none⟩ = some (.int .i64 r) ∧ w1.cell? ⟨wr.heap.size, 8, none⟩ = some (.int .i64 f) ∧ w1.cell? ⟨wr.heap.size, 9, none⟩ = some (.int .i64 s) ∧ w1.cell? ⟨wr.heap.size, 10, none⟩ = some (.int .i64 L) ∧ w1.cell? ⟨wr.heap.size, 11, none⟩ = some (.int .i64 n) ∧ w1.cell? ⟨wr.heap.size, 12, none⟩ = some (.bool g) := by
          refine ⟨?_, ?_, ?_, ?_, ?_, ?_, ?_, ?_, ?_, ?_, ?_, ?_, ?_, ?_, ?_, ?_, ?_, ?_, ?_, ?_, ?_, ?_, ?_, ?_, ?_, ?_, ?_, ?_, ?_, ?_⟩ <;> (refine cell_below hb1 ?_; repeat (first | (with_reducible assumption) | ((with_reducible refine cell_set ?_ ?_ _); (· first | (simp; done) | (simp; omega) | omega)) | ((with_reducible refine cell_new ?_ ?_); (· (simp; done)); (· rfl)) | (with_reducible refine cell_alloc ?_ _) | (with_reducible refine cell_drew ?_) | (with_reducible refine cell_drewN ?_ _) | (with_reducible refine cell_below (by assumption) ?_)))
        have zf1 : w.heap.size < w1.heap.size := World.block_lt_of_cell? _ _ f1
        have zf3 : b < w1.heap.size := World.block_lt_of_cell? _ _ f3
        have zf18 : wr.heap.size < w1.heap.size := World.block_lt_of_cell? _ _ f18
        clear q0 zq q1 c0 zc c1 c2 c3 c4 c5 c6 c7 c8 c9 c10 c11 c12 d3 d4
        by_cases he : e0 = 0
        · subst he
          obtain ⟨l1, l2⟩ := eL rfl
          by_cases hn : n < en
          · obtain rfl : R = 9 := by
              have := G3.out
              rw [if_neg (by simp), if_pos (.inl hn)] at this
              exact this.symm
            go_wp2_with fail
            go_ret
            exact ⟨rfl, by (repeat (with_reducible (first | assumption | exact Below.refl _ _ | refine Below.drew ?_ | refine below_drewN ?_ _ | refine below_set ?_ (by simp; try omega) _ | refine below_alloc ?_ (Nat.le_refl _) _ | refine below_sub (by assumption) ?_)))⟩
          · have hn2 : en ≤ n := by omega
            have hn3 : 0 ≤ n := by omega
            rcases g with _ | _
            · by_cases hA : ax = px
              · by_cases hB : ay = py
                · subst hA; subst hB
                  have G4 : Hid (chkG len false n bx b_y (sum + L) (l.drop (k + 1)) = R) := hide (by
                    have := G3.out
                    have hkd : decide (k = 0) = false := decide_eq_false (by omega)
                    rw [if_neg (by simp), if_neg (by simp [hkd]; omega), if_neg (by simp)] at this
                    exact this)
                  go_wp2_with fail
                  go_quiet (fail)
                  go_wp2_with fail
                  go_roundw
                  case rel => exact ⟨k + 1, sum + L, n, bx, b_y, by omega, rfl, rfl, by go_num, by simpa using G4, hide (fun _ => ⟨_, HX.out, rfl, rfl, rfl⟩), hide (fun h => absurd h (Nat.succ_ne_zero _)), by omega, by omega, by omega, f1, f2, by (repeat (with_reducible (first | assumption | exact Below.refl _ _ | refine Below.drew ?_ | refine below_drewN ?_ _ | refine below_set ?_ (by simp; try omega) _ | refine below_alloc ?_ (Nat.le_refl _) _ | refine below_sub (by assumption) ?_)))⟩
                  case measure => simp [intOf]; omega
                · have tB : (ay == py) = false := beq_eq_false_iff_ne.2 hB
                  subst hA
                  obtain rfl : R = 10 := by
                    have := G3.out
                    have hkd : decide (k = 0) = false := decide_eq_false (by omega)
                    rw [if_neg (by simp), if_neg (by simp [hkd]; omega), if_pos (by simp [hkd, hB])] at this
                    exact this.symm
                  go_wp2_with fail
                  go_quiet (fail)
                  go_wp2_with fail
                  go_ret
                  exact ⟨rfl, by (repeat (with_reducible (first | assumption | exact Below.refl _ _ | refine Below.drew ?_ | refine below_drewN ?_ _ | refine below_set ?_ (by simp; try omega) _ | refine below_alloc ?_ (Nat.le_refl _) _ | refine below_sub (by assumption) ?_)))⟩
              · have tA : (ax == px) = false := beq_eq_false_iff_ne.2 hA
                obtain rfl : R = 10 := by
                  have := G3.out
                  have hkd : decide (k = 0) = false := decide_eq_false (by omega)
                  rw [if_neg (by simp), if_neg (by simp [hkd]; omega), if_pos (by simp [hkd, hA])] at this
                  exact this.symm
                go_wp2_with fail
                go_quiet (fail)
                go_wp2_with fail
                go_ret
                exact ⟨rfl, by (repeat (with_reducible (first | assumption | exact Below.refl _ _ | refine Below.drew ?_ | refine below_drewN ?_ _ | refine below_set ?_ (by simp; try omega) _ | refine below_alloc ?_ (Nat.le_refl _) _ | refine below_sub (by assumption) ?_)))⟩
            · have G4 : Hid (chkG len false n bx b_y (sum + L) (l.drop (k + 1)) = R) := hide (by
                have := G3.out
                have hkd : decide (k = 0) = false := decide_eq_false (by omega)
                rw [if_neg (by simp), if_neg (by simp [hkd]; omega), if_neg (by simp)] at this
                exact this)
              go_wp2_with fail
              go_quiet (fail)
              go_wp2_with fail
              go_roundw
              case rel => exact ⟨k + 1, sum + L, n, bx, b_y, by omega, rfl, rfl, by go_num, by simpa using G4, hide (fun _ => ⟨_, HX.out, rfl, rfl, rfl⟩), hide (fun h => absurd h (Nat.succ_ne_zero _)), by omega, by omega, by omega, f1, f2, by (repeat (with_reducible (first | assumption | exact Below.refl _ _ | refine Below.drew ?_ | refine below_drewN ?_ _ | refine below_set ?_ (by simp; try omega) _ | refine below_alloc ?_ (Nat.le_refl _) _ | refine below_sub (by assumption) ?_)))⟩
              case measure => simp [intOf]; omega
        · obtain rfl : R = e0 := by
            have := G3.out
            rw [if_pos he] at this
            exact this.symm
          go_wp2_with fail
          go_ret
          exact ⟨rfl, by (repeat (with_reducible (first | assumption | exact Below.refl _ _ | refine Below.drew ?_ | refine below_drewN ?_ _ | refine below_set ?_ (by simp; try omega) _ | refine below_alloc ?_ (Nat.le_refl _) _ | refine below_sub (by assumption) ?_)))⟩
    · obtain rfl : k = l.length := by omega
      have G2 : Hid ((if len = sum then 0 else 4) = R) := hide (by
        have := G.out
        rw [List.drop_length, chkG_nil] at this
        exact this)
      clear G
      have zq : w.heap.size < wr.heap.size := World.block_lt_of_cell? _ _ q0
      by_cases hs : len = sum
      · obtain rfl : R = 0 := by have := G2.out; rw [if_pos hs] at this; exact this.symm
        go_wp2_with fail
        go_ret
        exact ⟨rfl, by (repeat (with_reducible (first | assumption | exact Below.refl _ _ | refine Below.drew ?_ | refine below_drewN ?_ _ | refine below_set ?_ (by simp; try omega) _ | refine below_alloc ?_ (Nat.le_refl _) _ | refine below_sub (by assumption) ?_)))⟩
      · obtain rfl : R = 4 := by have := G2.out; rw [if_neg hs] at this; exact this.symm
        have hs2 : (len == sum) = false := beq_eq_false_iff_ne.2 hs
        go_wp2_with fail
        go_ret
        exact ⟨rfl, by (repeat (with_reducible (first | assumption | exact Below.refl _ _ | refine Below.drew ?_ | refine below_drewN ?_ _ | refine below_set ?_ (by simp; try omega) _ | refine below_alloc ?_ (Nat.le_refl _) _ | refine below_sub (by assumption) ?_)))⟩
end Go.Proofs.YtapgmnjpfcohhaaGreatDoor
/-
  The walks of Check for all paths, of Start and last.
-/
namespace Go.Proofs.YtapgmnjpfcohhaaGreatDoor
open Go.RowKit
set_option linter.unusedVariables false
set_option linter.unusedSimpArgs false
set_option maxHeartbeats 2000000 in
theorem chk_none (S : Option Addr) (l : List El) (hl : l = []) (cap : Nat) (len : Int) (w : World) :
    Calls Tryz.prog 9 #[.agg #[.slice S l.length cap, .int .i64 len]] w fun e w' => e = .returned (.int .i64 (chkF l len)) ∧ Below w.heap.size w w' := by
  have HR : Hid (chkF l len = if len = 0 then 0 else 4) := hide (by rw [hl]; unfold chkF chkG; simp)
  have hn : l.length = 0 := by rw [hl]; rfl
  generalize chkF l len = R at *
  generalize l.length = m at *
  clear hl
  subst hn
  go_enter Tryz.func9, Tryz.ntmps9
  go_wp2_with fail
  go_loopw [3, 4, 15] (fun a b i wr => a = .int .i64 0 ∧ b = .int .i64 0 ∧ i = .int .i64 0 ∧ wr.cell? ⟨w.heap.size, 1, none⟩ = some (.int .i64 len) ∧ Below w.heap.size w wr) (fun _ _ _ _ => 0)
  case atStart => exact ⟨rfl, rfl, rfl, by simp [go_sem], by (repeat (with_reducible (first | assumption | exact Below.refl _ _ | refine Below.drew ?_ | refine below_drewN ?_ _ | refine below_set ?_ (by simp; try omega) _ | refine below_alloc ?_ (Nat.le_refl _) _ | refine below_sub (by assumption) ?_)))⟩
  case round =>
    obtain ⟨rfl, rfl, rfl, q1, K⟩ := hrel
    have zq : w.heap.size < wr.heap.size := World.block_lt_of_cell? _ _ q1
    by_cases hs : len = 0
    · obtain rfl : R = 0 := by rw [HR.out, if_pos hs]
      subst hs
      go_wp2_with fail
      go_ret
      exact ⟨rfl, by (repeat (with_reducible (first | assumption | exact Below.refl _ _ | refine Below.drew ?_ | refine below_drewN ?_ _ | refine below_set ?_ (by simp; try omega) _ | refine below_alloc ?_ (Nat.le_refl _) _ | refine below_sub (by assumption) ?_)))⟩
    · obtain rfl : R = 4 := by rw [HR.out, if_neg hs]
      have hs2 : (len == 0) = false := beq_eq_false_iff_ne.2 hs
      go_wp2_with fail
      go_ret
      exact ⟨rfl, by (repeat (with_reducible (first | assumption | exact Below.refl _ _ | refine Below.drew ?_ | refine below_drewN ?_ _ | refine below_set ?_ (by simp; try omega) _ | refine below_alloc ?_ (Nat.le_refl _) _ | refine below_sub (by assumption) ?_)))⟩
theorem chk_any (S : Option Addr) (l : List El) (cap : Nat) (len : Int) (w : World) (h2 : l.length ≤ 9223372036854775807) (hp : Hid (pathAt w S l)) :
    Calls Tryz.prog 9 #[.agg #[.slice S l.length cap, .int .i64 len]] w fun e w' => e = .returned (.int .i64 (chkF l len)) ∧ Below w.heap.size w w' := by
  by_cases h5 : 500 < l.length
  · exact chk_many S l cap len w h5 h2
  · by_cases h0 : 0 < l.length
    · obtain ⟨b, o, rfl⟩ := pathAt_some hp.out h0
      exact chk_few b o l cap len w h0 (by omega) hp
    · exact chk_none S l (List.length_eq_zero_iff.1 (by omega)) cap len w
end Go.Proofs.YtapgmnjpfcohhaaGreatDoor
