/-
  The walk of the law SequenceStraight.
-/
import Derived.Test.YtdfkkknkiioghaaMAwake28
import Derived.Test.YtdfkkknkiioghaaMStepAll
import Derived.Test.YtdfkkknkiioghaaMSameX
import Derived.Test.YtdfkkknkiioghaaRows
import Derived.Test.YtdfkkknkiioghaaMFrame
import Derived.Test.YtdfkkknkiioghaaMPathIn
namespace Go.Proofs.Ytdfkkknkiioghaa
open Go.RowKit
set_option linter.unusedVariables false
set_option linter.unusedSimpArgs false
theorem intsAt_set3b {w : World} {S : Option Addr} {ts : List Int} {g : Nat} {v0 v1 v2 : Value} (hn : ∀ a, S = some a → g < a.block) (h : intsAt w S ts) :
    intsAt (((w.setCell ⟨g, 0, none⟩ v0).setCell ⟨g, 1, none⟩ v1).setCell ⟨g, 2, none⟩ v2) S ts := intsAt_set3 (Nat.lt_succ_self g) (fun a ha => hn a ha) h
theorem stepR_in {l : List El} {len : Int} {k : Nat} {x : El} (hc : chkF l len = 0) (hx : l[k]? = some x) {px py e0 : Int} (hq : vldB px py = true) {G : Nat × Int × Bool × List Int} (hG : stepG l px py (l.length - k) k x.n [] = G) :
    stepR l len k e0 false px py = ((G.1 : Int), G.2.1, G.2.2.1, G.2.2.2) := by
  have hk := (List.getElem?_eq_some_iff.1 hx).1
  unfold stepR
  rw [if_neg (by simp [hc]), if_neg (by simp [hq]), if_neg (by simp), if_neg (by omega), show ((k : Int)).toNat = k from by omega, hx]
  dsimp only
  rw [hG]
set_option maxRecDepth 100000 in
set_option maxHeartbeats 16000000 in
theorem straight_bad (w : World) (S : Option Addr) (l : List El) (cap : Nat) (len : Int) (h2 : l.length ≤ 9223372036854775807) (hp : Hid (pathAt w S l)) (E : Int) (hc : chkF l len = E) (h : ¬ E = 0) :
    Calls Try.prog 6 #[.agg #[.slice S l.length cap, .int .i64 len]] w fun e w' => e = .returned (.bool true) ∧ Below w.heap.size w w' := by
  have CK := fun W hb => chk_any S l cap len W h2 (hide (pathAt_below hb hp.out))
  rw [hc] at CK
  clear hc
  have T : (E != 0) = true := bne_iff_ne.2 h
  go_enter Try.func6, Try.ntmps6
  go_wp2_with fail
  refine (awake28_any _).mono ?_
  rintro e w1 ⟨rfl, hb1⟩
  obtain ⟨f1, f2⟩ : w1.cell? ⟨w.heap.size, 0, none⟩ = some (.slice S l.length cap) ∧ w1.cell? ⟨w.heap.size, 1, none⟩ = some (.int .i64 len) := by
    refine ⟨?_, ?_⟩ <;> (refine cell_below hb1 ?_; repeat (first | (with_reducible assumption) | ((with_reducible refine cell_set ?_ ?_ _); (· first | (simp; done) | (simp; omega) | omega)) | ((with_reducible refine cell_new ?_ ?_); (· (simp; done)); (· rfl)) | (with_reducible refine cell_alloc ?_ _) | (with_reducible refine cell_drew ?_) | (with_reducible refine cell_drewN ?_ _) | (with_reducible refine cell_below (by assumption) ?_)))
  have zf1 : w.heap.size < w1.heap.size := World.block_lt_of_cell? _ _ f1
  go_wp2_with fail
  refine (CK _ (by (repeat (with_reducible (first | assumption | exact Below.refl _ _ | refine Below.drew ?_ | refine below_drewN ?_ _ | refine below_set ?_ (by simp; try omega) _ | refine below_alloc ?_ (Nat.le_refl _) _ | refine below_sub (by assumption) ?_))))).mono ?_
  rintro e w2 ⟨rfl, hb2⟩
  obtain ⟨f3, f4⟩ : w2.cell? ⟨w.heap.size, 0, none⟩ = some (.slice S l.length cap) ∧ w2.cell? ⟨w.heap.size, 1, none⟩ = some (.int .i64 len) := by
    refine ⟨?_, ?_⟩ <;> (refine cell_below hb2 ?_; repeat (first | (with_reducible assumption) | ((with_reducible refine cell_set ?_ ?_ _); (· first | (simp; done) | (simp; omega) | omega)) | ((with_reducible refine cell_new ?_ ?_); (· (simp; done)); (· rfl)) | (with_reducible refine cell_alloc ?_ _) | (with_reducible refine cell_drew ?_) | (with_reducible refine cell_drewN ?_ _) | (with_reducible refine cell_below (by assumption) ?_)))
  have zf3 : w.heap.size < w2.heap.size := World.block_lt_of_cell? _ _ f3
  clear f1 zf1 f2
  go_wp2_with fail
  all_goals
    go_ret
    exact ⟨rfl, by (repeat (with_reducible (first | assumption | exact Below.refl _ _ | refine Below.drew ?_ | refine below_drewN ?_ _ | refine below_set ?_ (by simp; try omega) _ | refine below_alloc ?_ (Nat.le_refl _) _ | refine below_sub (by assumption) ?_)))⟩
set_option maxRecDepth 100000 in
set_option maxHeartbeats 16000000 in
theorem straight_good (w : World) (S : Option Addr) (l : List El) (cap : Nat) (len : Int) (h2 : l.length ≤ 9223372036854775807) (hp : Hid (pathAt w S l)) (hc : chkF l len = 0) :
    Calls Try.prog 6 #[.agg #[.slice S l.length cap, .int .i64 len]] w fun e w' => e = .returned (.bool true) ∧ Below w.heap.size w w' := by
  have CK := fun W hb => chk_any S l cap len W h2 (hide (pathAt_below hb hp.out))
  have ok := hide (okPath hc)
  have HC := hide hc
  rw [hc] at CK
  have l5 := ok.out.short
  clear hc
  go_enter Try.func6, Try.ntmps6
  go_wp2_with fail
  refine (awake28_any _).mono ?_
  rintro e w1 ⟨rfl, hb1⟩
  obtain ⟨f1, f2⟩ : w1.cell? ⟨w.heap.size, 0, none⟩ = some (.slice S l.length cap) ∧ w1.cell? ⟨w.heap.size, 1, none⟩ = some (.int .i64 len) := by
    refine ⟨?_, ?_⟩ <;> (refine cell_below hb1 ?_; repeat (first | (with_reducible assumption) | ((with_reducible refine cell_set ?_ ?_ _); (· first | (simp; done) | (simp; omega) | omega)) | ((with_reducible refine cell_new ?_ ?_); (· (simp; done)); (· rfl)) | (with_reducible refine cell_alloc ?_ _) | (with_reducible refine cell_drew ?_) | (with_reducible refine cell_drewN ?_ _) | (with_reducible refine cell_below (by assumption) ?_)))
  have zf1 : w.heap.size < w1.heap.size := World.block_lt_of_cell? _ _ f1
  go_wp2_with fail
  refine (CK _ (by (repeat (with_reducible (first | assumption | exact Below.refl _ _ | refine Below.drew ?_ | refine below_drewN ?_ _ | refine below_set ?_ (by simp; try omega) _ | refine below_alloc ?_ (Nat.le_refl _) _ | refine below_sub (by assumption) ?_))))).mono ?_
  rintro e w2 ⟨rfl, hb2⟩
  obtain ⟨f3, f4⟩ : w2.cell? ⟨w.heap.size, 0, none⟩ = some (.slice S l.length cap) ∧ w2.cell? ⟨w.heap.size, 1, none⟩ = some (.int .i64 len) := by
    refine ⟨?_, ?_⟩ <;> (refine cell_below hb2 ?_; repeat (first | (with_reducible assumption) | ((with_reducible refine cell_set ?_ ?_ _); (· first | (simp; done) | (simp; omega) | omega)) | ((with_reducible refine cell_new ?_ ?_); (· (simp; done)); (· rfl)) | (with_reducible refine cell_alloc ?_ _) | (with_reducible refine cell_drew ?_) | (with_reducible refine cell_drewN ?_ _) | (with_reducible refine cell_below (by assumption) ?_)))
  have zf3 : w.heap.size < w2.heap.size := World.block_lt_of_cell? _ _ f3
  clear f1 zf1 f2
  go_wp2_with fail
  go_loopw [19] (fun i W => ∃ k : Nat, k ≤ l.length ∧ i = .int .i64 (k : Int) ∧ Hid (∀ (j : Nat) (y : El), j < k → l[j]? = some y → y.c = false) ∧ W.cell? ⟨w.heap.size, 0, none⟩ = some (.slice S l.length cap) ∧ W.cell? ⟨w.heap.size, 1, none⟩ = some (.int .i64 len) ∧ Below w.heap.size w W) (fun i _ => l.length - (intOf i).toNat)
  case atStart => exact ⟨0, by omega, rfl, hide (fun j y h _ => absurd h (Nat.not_lt_zero _)), by (repeat (first | (with_reducible assumption) | ((with_reducible refine cell_set ?_ ?_ _); (· first | (simp; done) | (simp; omega) | omega)) | ((with_reducible refine cell_new ?_ ?_); (· (simp; done)); (· rfl)) | (with_reducible refine cell_alloc ?_ _) | (with_reducible refine cell_drew ?_) | (with_reducible refine cell_drewN ?_ _) | (with_reducible refine cell_below (by assumption) ?_))), by (repeat (first | (with_reducible assumption) | ((with_reducible refine cell_set ?_ ?_ _); (· first | (simp; done) | (simp; omega) | omega)) | ((with_reducible refine cell_new ?_ ?_); (· (simp; done)); (· rfl)) | (with_reducible refine cell_alloc ?_ _) | (with_reducible refine cell_drew ?_) | (with_reducible refine cell_drewN ?_ _) | (with_reducible refine cell_below (by assumption) ?_))), by (repeat (with_reducible (first | assumption | exact Below.refl _ _ | refine Below.drew ?_ | refine below_drewN ?_ _ | refine below_set ?_ (by simp; try omega) _ | refine below_alloc ?_ (Nat.le_refl _) _ | refine below_sub (by assumption) ?_)))⟩
  case round =>
    obtain ⟨k, hk, rfl, G, p0, p1, K⟩ := hrel
    have zp : w.heap.size < wr.heap.size := World.block_lt_of_cell? _ _ p0
    by_cases hlt : k < l.length
    · obtain ⟨b, o, rfl⟩ := pathAt_some hp.out (by omega)
      obtain ⟨x, hx⟩ : ∃ x, l[k]? = some x := ⟨_, List.getElem?_eq_getElem hlt⟩
      have hat := pathAt_get (pathAt_below K hp.out) hx
      have HX := hide hx
      clear hx
      have c0 : wr.cell? ⟨b, o + k * 13, none⟩ = some (.bool x.c) := hat.1
      have c1 : wr.cell? ⟨b, o + k * 13 + 1, none⟩ = some (.int .i64 x.ax) := hat.2.1
      have c2 : wr.cell? ⟨b, o + k * 13 + 2, none⟩ = some (.int .i64 x.ay) := hat.2.2.1
      have c3 : wr.cell? ⟨b, o + k * 13 + 3, none⟩ = some (.int .i64 x.bx) := hat.2.2.2.1
      have c4 : wr.cell? ⟨b, o + k * 13 + 4, none⟩ = some (.int .i64 x.b_y) := hat.2.2.2.2.1
      have c5 : wr.cell? ⟨b, o + k * 13 + 5, none⟩ = some (.int .i64 x.cx) := hat.2.2.2.2.2.1
      have c6 : wr.cell? ⟨b, o + k * 13 + 6, none⟩ = some (.int .i64 x.cy) := hat.2.2.2.2.2.2.1
      have c7 : wr.cell? ⟨b, o + k * 13 + 7, none⟩ = some (.int .i64 x.r) := hat.2.2.2.2.2.2.2.1
      have c8 : wr.cell? ⟨b, o + k * 13 + 8, none⟩ = some (.int .i64 x.f) := hat.2.2.2.2.2.2.2.2.1
      have c9 : wr.cell? ⟨b, o + k * 13 + 9, none⟩ = some (.int .i64 x.s) := hat.2.2.2.2.2.2.2.2.2.1
      have c10 : wr.cell? ⟨b, o + k * 13 + 10, none⟩ = some (.int .i64 x.L) := hat.2.2.2.2.2.2.2.2.2.2.1
      have c11 : wr.cell? ⟨b, o + k * 13 + 11, none⟩ = some (.int .i64 x.n) := hat.2.2.2.2.2.2.2.2.2.2.2.1
      have c12 : wr.cell? ⟨b, o + k * 13 + 12, none⟩ = some (.bool x.g) := hat.2.2.2.2.2.2.2.2.2.2.2.2
      clear hat
      rcases hg : x.c with _ | _
      · rw [hg] at c0
        go_wp2_with fail
        go_roundw
        case rel => exact ⟨k + 1, by omega, by go_num, hide (fun j z hj hz => by
          rcases Nat.lt_or_ge j k with h | h
          · exact G.out j z h hz
          · obtain rfl : j = k := by omega
            have := HX.out.symm.trans hz
            injection this with this
            rw [← this]; exact hg), by (repeat (first | (with_reducible assumption) | ((with_reducible refine cell_set ?_ ?_ _); (· first | (simp; done) | (simp; omega) | omega)) | ((with_reducible refine cell_new ?_ ?_); (· (simp; done)); (· rfl)) | (with_reducible refine cell_alloc ?_ _) | (with_reducible refine cell_drew ?_) | (with_reducible refine cell_drewN ?_ _) | (with_reducible refine cell_below (by assumption) ?_))), by (repeat (first | (with_reducible assumption) | ((with_reducible refine cell_set ?_ ?_ _); (· first | (simp; done) | (simp; omega) | omega)) | ((with_reducible refine cell_new ?_ ?_); (· (simp; done)); (· rfl)) | (with_reducible refine cell_alloc ?_ _) | (with_reducible refine cell_drew ?_) | (with_reducible refine cell_drewN ?_ _) | (with_reducible refine cell_below (by assumption) ?_))), by (repeat (with_reducible (first | assumption | exact Below.refl _ _ | refine Below.drew ?_ | refine below_drewN ?_ _ | refine below_set ?_ (by simp; try omega) _ | refine below_alloc ?_ (Nat.le_refl _) _ | refine below_sub (by assumption) ?_)))⟩
        case measure => simp [intOf]; omega
      · rw [hg] at c0
        go_wp2_with fail
        go_ret
        exact ⟨rfl, by (repeat (with_reducible (first | assumption | exact Below.refl _ _ | refine Below.drew ?_ | refine below_drewN ?_ _ | refine below_set ?_ (by simp; try omega) _ | refine below_alloc ?_ (Nat.le_refl _) _ | refine below_sub (by assumption) ?_)))⟩
    · have hk3 : k = l.length := by omega
      subst hk3
      have hs := hide (fun (i : Nat) (y : El) (hy : l[i]? = some y) => G.out i y (List.getElem?_eq_some_iff.1 hy).1 hy)
      clear G hlt hk
      obtain ⟨wq, hwq⟩ : ∃ wq, wq = wr := ⟨_, rfl⟩
      subst hwq
      go_wp2_with fail
      go_loopw [29] (fun i W => ∃ (k : Nat) (el e0 : Int) (dn : Bool), k ≤ l.length ∧ i = .int .i64 (k : Int) ∧ Hid (∀ x : El, l[k]? = some x → 0 < k → x.g = false → el = k ∧ e0 = x.n ∧ dn = false) ∧ W.cell? ⟨w.heap.size, 0, none⟩ = some (.slice S l.length cap) ∧ W.cell? ⟨w.heap.size, 1, none⟩ = some (.int .i64 len) ∧ (W.cell? ⟨wq.heap.size, 0, none⟩ = some (.int .i64 el) ∧ W.frozen? ⟨wq.heap.size, 0, none⟩ = false) ∧ (W.cell? ⟨wq.heap.size, 1, none⟩ = some (.int .i64 e0) ∧ W.frozen? ⟨wq.heap.size, 1, none⟩ = false) ∧ (W.cell? ⟨wq.heap.size, 2, none⟩ = some (.bool dn) ∧ W.frozen? ⟨wq.heap.size, 2, none⟩ = false) ∧ Below w.heap.size w W) (fun i _ => l.length - (intOf i).toNat)
      case atStart => exact ⟨0, 0, 0, false, by omega, rfl, hide (fun x _ h => absurd h (Nat.lt_irrefl 0)), by (repeat (first | (with_reducible assumption) | ((with_reducible refine cell_set ?_ ?_ _); (· first | (simp; done) | (simp; omega) | omega)) | ((with_reducible refine cell_new ?_ ?_); (· (simp; done)); (· rfl)) | (with_reducible refine cell_alloc ?_ _) | (with_reducible refine cell_drew ?_) | (with_reducible refine cell_drewN ?_ _) | (with_reducible refine cell_below (by assumption) ?_))), by (repeat (first | (with_reducible assumption) | ((with_reducible refine cell_set ?_ ?_ _); (· first | (simp; done) | (simp; omega) | omega)) | ((with_reducible refine cell_new ?_ ?_); (· (simp; done)); (· rfl)) | (with_reducible refine cell_alloc ?_ _) | (with_reducible refine cell_drew ?_) | (with_reducible refine cell_drewN ?_ _) | (with_reducible refine cell_below (by assumption) ?_))), by (repeat (first | (refine ⟨?_, ?_⟩ <;> (with_reducible assumption)) | (with_reducible apply own_same) | ((with_reducible refine own_set ?_ ?_ _); (· first | (simp; done) | (simp; omega))) | ((with_reducible refine own_new ?_ ?_); (· (simp; done)); (· rfl)) | (with_reducible refine own_alloc ?_ _) | (with_reducible refine own_drew ?_) | (with_reducible refine own_drewN ?_ _) | (with_reducible refine own_below (by assumption) ?_))), by (repeat (first | (refine ⟨?_, ?_⟩ <;> (with_reducible assumption)) | (with_reducible apply own_same) | ((with_reducible refine own_set ?_ ?_ _); (· first | (simp; done) | (simp; omega))) | ((with_reducible refine own_new ?_ ?_); (· (simp; done)); (· rfl)) | (with_reducible refine own_alloc ?_ _) | (with_reducible refine own_drew ?_) | (with_reducible refine own_drewN ?_ _) | (with_reducible refine own_below (by assumption) ?_))), by (repeat (first | (refine ⟨?_, ?_⟩ <;> (with_reducible assumption)) | (with_reducible apply own_same) | ((with_reducible refine own_set ?_ ?_ _); (· first | (simp; done) | (simp; omega))) | ((with_reducible refine own_new ?_ ?_); (· (simp; done)); (· rfl)) | (with_reducible refine own_alloc ?_ _) | (with_reducible refine own_drew ?_) | (with_reducible refine own_drewN ?_ _) | (with_reducible refine own_below (by assumption) ?_))), by (repeat (with_reducible (first | assumption | exact Below.refl _ _ | refine Below.drew ?_ | refine below_drewN ?_ _ | refine below_set ?_ (by simp; try omega) _ | refine below_alloc ?_ (Nat.le_refl _) _ | refine below_sub (by assumption) ?_)))⟩
      case round =>
        obtain ⟨k, el, e0, dn, hk, rfl, G, p0, p1, ⟨g0a, g0b⟩, ⟨g1a, g1b⟩, ⟨g2a, g2b⟩, K⟩ := hrel
        have zp : w.heap.size < wr.heap.size := World.block_lt_of_cell? _ _ p0
        have zg : wq.heap.size < wr.heap.size := World.block_lt_of_cell? _ _ g0a
        have zq : w.heap.size < wq.heap.size := by assumption
        by_cases hlt : k < l.length
        rotate_left
        · go_wp2_with fail
          go_ret
          exact ⟨rfl, by (repeat (with_reducible (first | assumption | exact Below.refl _ _ | refine Below.drew ?_ | refine below_drewN ?_ _ | refine below_set ?_ (by simp; try omega) _ | refine below_alloc ?_ (Nat.le_refl _) _ | refine below_sub (by assumption) ?_)))⟩
        obtain ⟨b, o, rfl⟩ := pathAt_some hp.out (by omega)
        obtain ⟨x, hx⟩ : ∃ x, l[k]? = some x := ⟨_, List.getElem?_eq_getElem hlt⟩
        have zb0 : b < w.heap.size := World.block_lt_of_cell? _ _ (pathAt_get hp.out hx).2.1
        have zb1 : b < wq.heap.size := Nat.lt_trans zb0 zq
        have zb2 : wq.heap.size ≠ b := Nat.ne_of_gt zb1
        have hat := pathAt_get (pathAt_below K hp.out) hx
        have hcv := hs.out k x hx
        have hxe := ok.out.err k x hx
        unfold El.err at hxe
        rw [hcv] at hxe
        unfold elAt at hat
        rw [hcv] at hat
        have hV := (elem_straight hxe).2.1
        have SS := hide (straight_step ok.out hs.out hx)
        have ST := hide (fun G (e0 : Int) h => stepR_in (e0 := e0) (G := G) HC.out hx hV h)
        have SF : Hid ((((k : Nat) : Int), x.n, (0 : Int)) = startF l len k) := hide (by unfold startF; rw [if_neg (by simp [HC.out]), if_neg (by omega)]; simp [hx])
        have F0 := hide (fun (h : k = 0) => ok.out.first x (by rw [← h]; exact hx))
        have GG := hide (fun h1 h2 => G.out x hx h1 h2)
        have HX := hide hx
        clear hx hcv hxe hV G
        have c0 : wr.cell? ⟨b, o + k * 13, none⟩ = some (.bool false) := hat.1
        have c1 : wr.cell? ⟨b, o + k * 13 + 1, none⟩ = some (.int .i64 x.ax) := hat.2.1
        have c2 : wr.cell? ⟨b, o + k * 13 + 2, none⟩ = some (.int .i64 x.ay) := hat.2.2.1
        have c3 : wr.cell? ⟨b, o + k * 13 + 3, none⟩ = some (.int .i64 x.bx) := hat.2.2.2.1
        have c4 : wr.cell? ⟨b, o + k * 13 + 4, none⟩ = some (.int .i64 x.b_y) := hat.2.2.2.2.1
        have c5 : wr.cell? ⟨b, o + k * 13 + 5, none⟩ = some (.int .i64 x.cx) := hat.2.2.2.2.2.1
        have c6 : wr.cell? ⟨b, o + k * 13 + 6, none⟩ = some (.int .i64 x.cy) := hat.2.2.2.2.2.2.1
        have c7 : wr.cell? ⟨b, o + k * 13 + 7, none⟩ = some (.int .i64 x.r) := hat.2.2.2.2.2.2.2.1
        have c8 : wr.cell? ⟨b, o + k * 13 + 8, none⟩ = some (.int .i64 x.f) := hat.2.2.2.2.2.2.2.2.1
        have c9 : wr.cell? ⟨b, o + k * 13 + 9, none⟩ = some (.int .i64 x.s) := hat.2.2.2.2.2.2.2.2.2.1
        have c10 : wr.cell? ⟨b, o + k * 13 + 10, none⟩ = some (.int .i64 x.L) := hat.2.2.2.2.2.2.2.2.2.2.1
        have c11 : wr.cell? ⟨b, o + k * 13 + 11, none⟩ = some (.int .i64 x.n) := hat.2.2.2.2.2.2.2.2.2.2.2.1
        have c12 : wr.cell? ⟨b, o + k * 13 + 12, none⟩ = some (.bool x.g) := hat.2.2.2.2.2.2.2.2.2.2.2.2
        clear hat
        have zc : b < wr.heap.size := World.block_lt_of_cell? _ _ c0
        have wk := wi' (x := (k : Int) + 1) (by omega) (by omega)
        have u2 : (0 : Int) ≤ (k : Int) + 1 := by omega
        have u3 : ((k : Int) + 1).toNat = k + 1 := by omega
        have hb0 : Hid (pathAt w (some ⟨b, o, none⟩) l) := hp
        rcases hxg : x.g with _ | _
        · rw [hxg] at c12
          rcases Nat.eq_zero_or_pos k with hk0 | hk0
          · have TK : ((k : Int) == 0) = true := by rw [hk0]; rfl
            have TK2 : (k == 0) = true := by rw [hk0]; rfl
            clear hk0
            rcases Nat.lt_or_ge (k + 1) l.length with hk2 | hk2
            · obtain ⟨y, hy⟩ : ∃ y, l[k + 1]? = some y := ⟨_, List.getElem?_eq_getElem hk2⟩
              have hyt := pathAt_get (pathAt_below K hp.out) hy
              have d11 : wr.cell? ⟨b, o + (k + 1) * 13 + 11, none⟩ = some (.int .i64 y.n) := hyt.2.2.2.2.2.2.2.2.2.2.2.1
              have d12 : wr.cell? ⟨b, o + (k + 1) * 13 + 12, none⟩ = some (.bool y.g) := hyt.2.2.2.2.2.2.2.2.2.2.2.2
              clear hyt
              have TL : ((k : Int) + 1 == (l.length : Int)) = false := beq_eq_false_iff_ne.2 (by omega)
              have u1 : (k : Int) + 1 < (l.length : Int) := by omega
              rcases hyg : y.g with _ | _
              · rw [hyg] at d12
                by_cases hn : y.n = x.n
                · have TN : (x.n != x.n) = false := by simp
                  have G1 : Hid (((k : Int) + 1, x.n, false, ([] : List Int)) = stepR l len k x.n false x.bx x.b_y) := hide (by rw [ST.out _ x.n (SS.out.2 y hy hyg), if_pos hn, hn]; rfl)
                  have HN := hide hn
                  rw [hn] at d11
                  clear hn
                  go_wp2_with fail
                  refine (start_any (some ⟨b, o, none⟩) l cap len k _ h2 (hide (pathAt_below (show Below w.heap.size w _ by (repeat (with_reducible (first | assumption | exact Below.refl _ _ | refine Below.drew ?_ | refine below_drewN ?_ _ | refine below_set ?_ (by simp; try omega) _ | refine below_alloc ?_ (Nat.le_refl _) _ | refine below_sub (by assumption) ?_)))) hp.out)) ((k : Int), x.n, (0 : Int)) SF.out).mono ?_
                  rintro e w7 ⟨rfl, hb7⟩
                  obtain ⟨f61, f62, f63, f64, f65, f66, f67⟩ : w7.cell? ⟨w.heap.size, 0, none⟩ = some (.slice (some ⟨b, o, none⟩) l.length cap) ∧ w7.cell? ⟨w.heap.size, 1, none⟩ = some (.int .i64 len) ∧ w7.cell? ⟨wr.heap.size, 3, none⟩ = some (.int .i64 x.bx) ∧ w7.cell? ⟨wr.heap.size, 4, none⟩ = some (.int .i64 x.b_y) ∧ w7.cell? ⟨wr.heap.size, 11, none⟩ = some (.int .i64 x.n) ∧ w7.cell? ⟨b, o + (k + 1) * 13 + 11, none⟩ = some (.int .i64 x.n) ∧ w7.cell? ⟨b, o + (k + 1) * 13 + 12, none⟩ = some (.bool false) := by
                    refine ⟨?_, ?_, ?_, ?_, ?_, ?_, ?_⟩ <;> (refine cell_below hb7 ?_; repeat (first | (with_reducible assumption) | ((with_reducible refine cell_set ?_ ?_ _); (· first | (simp; done) | (simp; omega) | omega)) | ((with_reducible refine cell_new ?_ ?_); (· (simp; done)); (· rfl)) | (with_reducible refine cell_alloc ?_ _) | (with_reducible refine cell_drew ?_) | (with_reducible refine cell_drewN ?_ _) | (with_reducible refine cell_below (by assumption) ?_)))
                  have zf61 : w.heap.size < w7.heap.size := World.block_lt_of_cell? _ _ f61
                  have zf63 : wr.heap.size < w7.heap.size := World.block_lt_of_cell? _ _ f63
                  have zf66 : b < w7.heap.size := World.block_lt_of_cell? _ _ f66
                  obtain ⟨⟨o68a, o68b⟩, ⟨o69a, o69b⟩, ⟨o70a, o70b⟩⟩ : (w7.cell? ⟨wq.heap.size, 0, none⟩ = some (.int .i64 el) ∧ w7.frozen? ⟨wq.heap.size, 0, none⟩ = false) ∧ (w7.cell? ⟨wq.heap.size, 1, none⟩ = some (.int .i64 e0) ∧ w7.frozen? ⟨wq.heap.size, 1, none⟩ = false) ∧ (w7.cell? ⟨wq.heap.size, 2, none⟩ = some (.bool dn) ∧ w7.frozen? ⟨wq.heap.size, 2, none⟩ = false) := by
                    refine ⟨?_, ?_, ?_⟩ <;> (refine own_below hb7 ?_; repeat (first | (refine ⟨?_, ?_⟩ <;> (with_reducible assumption)) | (with_reducible apply own_same) | ((with_reducible refine own_set ?_ ?_ _); (· first | (simp; done) | (simp; omega))) | ((with_reducible refine own_new ?_ ?_); (· (simp; done)); (· rfl)) | (with_reducible refine own_alloc ?_ _) | (with_reducible refine own_drew ?_) | (with_reducible refine own_drewN ?_ _) | (with_reducible refine own_below (by assumption) ?_)))
                  have zo68 : wq.heap.size < w7.heap.size := World.block_lt_of_cell? _ _ o68a
                  clear p0 p1 d11 d12 g0a g0b g1a g1b g2a g2b
                  go_wp2_with fail
                  generalize hwwy : (((w7.setCell ⟨wq.heap.size, 0, none⟩ (.int .i64 (k : Int))).setCell ⟨wq.heap.size, 1, none⟩ (.int .i64 x.n)).setCell ⟨wq.heap.size, 2, none⟩ (.bool false)) = wy
                  have ne71 : wq.heap.size ≠ w.heap.size := by omega
                  have ne72 : wq.heap.size ≠ wr.heap.size := by omega
                  have ne73 : wq.heap.size ≠ b := by omega
                  have x74 : wy.cell? ⟨w.heap.size, 0, none⟩ = some (.slice (some ⟨b, o, none⟩) l.length cap) := by
                    rw [← hwwy]; exact (cell_set ne71 (cell_set ne71 (cell_set ne71 f61 _) _) _)
                  have zzx74 : w.heap.size < wy.heap.size := World.block_lt_of_cell? _ _ x74
                  have x75 : wy.cell? ⟨w.heap.size, 1, none⟩ = some (.int .i64 len) := by
                    rw [← hwwy]; exact (cell_set ne71 (cell_set ne71 (cell_set ne71 f62 _) _) _)
                  have x76 : wy.cell? ⟨wr.heap.size, 3, none⟩ = some (.int .i64 x.bx) := by
                    rw [← hwwy]; exact (cell_set ne72 (cell_set ne72 (cell_set ne72 f63 _) _) _)
                  have zzx76 : wr.heap.size < wy.heap.size := World.block_lt_of_cell? _ _ x76
                  have x77 : wy.cell? ⟨wr.heap.size, 4, none⟩ = some (.int .i64 x.b_y) := by
                    rw [← hwwy]; exact (cell_set ne72 (cell_set ne72 (cell_set ne72 f64 _) _) _)
                  have x78 : wy.cell? ⟨wr.heap.size, 11, none⟩ = some (.int .i64 x.n) := by
                    rw [← hwwy]; exact (cell_set ne72 (cell_set ne72 (cell_set ne72 f65 _) _) _)
                  have x79 : wy.cell? ⟨b, o + (k + 1) * 13 + 11, none⟩ = some (.int .i64 x.n) := by
                    rw [← hwwy]; exact (cell_set ne73 (cell_set ne73 (cell_set ne73 f66 _) _) _)
                  have zzx79 : b < wy.heap.size := World.block_lt_of_cell? _ _ x79
                  have x80 : wy.cell? ⟨b, o + (k + 1) * 13 + 12, none⟩ = some (.bool false) := by
                    rw [← hwwy]; exact (cell_set ne73 (cell_set ne73 (cell_set ne73 f67 _) _) _)
                  obtain ⟨x81a, x81b⟩ : wy.cell? ⟨wq.heap.size, 0, none⟩ = some (.int .i64 (k : Int)) ∧ wy.frozen? ⟨wq.heap.size, 0, none⟩ = false := by
                    rw [← hwwy]; exact (own_set (by simp) (own_set (by simp) (own_same ⟨o68a, o68b⟩ _) _) _)
                  have zzx81a : wq.heap.size < wy.heap.size := World.block_lt_of_cell? _ _ x81a
                  obtain ⟨x82a, x82b⟩ : wy.cell? ⟨wq.heap.size, 1, none⟩ = some (.int .i64 x.n) ∧ wy.frozen? ⟨wq.heap.size, 1, none⟩ = false := by
                    rw [← hwwy]; exact (own_set (by simp) (own_same (own_set (by simp) ⟨o69a, o69b⟩ _) _) _)
                  obtain ⟨x83a, x83b⟩ : wy.cell? ⟨wq.heap.size, 2, none⟩ = some (.bool false) ∧ wy.frozen? ⟨wq.heap.size, 2, none⟩ = false := by
                    rw [← hwwy]; exact (own_same (own_set (by simp) (own_set (by simp) ⟨o70a, o70b⟩ _) _) _)
                  have Bwy : Below w.heap.size w wy := by
                    rw [← hwwy]
                    (repeat (with_reducible (first | assumption | exact Below.refl _ _ | refine Below.drew ?_ | refine below_drewN ?_ _ | refine below_set ?_ (by simp; try omega) _ | refine below_alloc ?_ (Nat.le_refl _) _ | refine below_sub (by assumption) ?_)))
                  clear f61 zf61 f62 f63 zf63 f64 f65 f66 zf66 f67 o68a o68b zo68 o69a o69b o70a o70b
                  clear hwwy
                  refine (step_any (some ⟨b, o, none⟩) l cap len k x.n false x.bx x.b_y _ h2 (hide (pathAt_below (show Below w.heap.size w _ by (repeat (with_reducible (first | assumption | exact Below.refl _ _ | refine Below.drew ?_ | refine below_drewN ?_ _ | refine below_set ?_ (by simp; try omega) _ | refine below_alloc ?_ (Nat.le_refl _) _ | refine below_sub (by assumption) ?_)))) hp.out)) (((k : Int) + 1), x.n, false, ([] : List Int)) G1.out).mono ?_
                  rintro e w8 ⟨S1, cp1, rfl, hi1, hn1, hb8⟩
                  have hn2 : Hid (∀ a, S1 = some a → wq.heap.size < a.block) := hide (fun a ha => Nat.lt_of_lt_of_le (by first | assumption | omega | (simp; omega)) (hn1.out a ha))
                  obtain ⟨f84, f85, f86, f87, f88, f89, f90⟩ : w8.cell? ⟨w.heap.size, 0, none⟩ = some (.slice (some ⟨b, o, none⟩) l.length cap) ∧ w8.cell? ⟨w.heap.size, 1, none⟩ = some (.int .i64 len) ∧ w8.cell? ⟨wr.heap.size, 3, none⟩ = some (.int .i64 x.bx) ∧ w8.cell? ⟨wr.heap.size, 4, none⟩ = some (.int .i64 x.b_y) ∧ w8.cell? ⟨wr.heap.size, 11, none⟩ = some (.int .i64 x.n) ∧ w8.cell? ⟨b, o + (k + 1) * 13 + 11, none⟩ = some (.int .i64 x.n) ∧ w8.cell? ⟨b, o + (k + 1) * 13 + 12, none⟩ = some (.bool false) := by
                    refine ⟨?_, ?_, ?_, ?_, ?_, ?_, ?_⟩ <;> (refine cell_below hb8 ?_; repeat (first | (with_reducible assumption) | ((with_reducible refine cell_set ?_ ?_ _); (· first | (simp; done) | (simp; omega) | omega)) | ((with_reducible refine cell_new ?_ ?_); (· (simp; done)); (· rfl)) | (with_reducible refine cell_alloc ?_ _) | (with_reducible refine cell_drew ?_) | (with_reducible refine cell_drewN ?_ _) | (with_reducible refine cell_below (by assumption) ?_)))
                  have zf84 : w.heap.size < w8.heap.size := World.block_lt_of_cell? _ _ f84
                  have zf86 : wr.heap.size < w8.heap.size := World.block_lt_of_cell? _ _ f86
                  have zf89 : b < w8.heap.size := World.block_lt_of_cell? _ _ f89
                  obtain ⟨⟨o91a, o91b⟩, ⟨o92a, o92b⟩, ⟨o93a, o93b⟩⟩ : (w8.cell? ⟨wq.heap.size, 0, none⟩ = some (.int .i64 (k : Int)) ∧ w8.frozen? ⟨wq.heap.size, 0, none⟩ = false) ∧ (w8.cell? ⟨wq.heap.size, 1, none⟩ = some (.int .i64 x.n) ∧ w8.frozen? ⟨wq.heap.size, 1, none⟩ = false) ∧ (w8.cell? ⟨wq.heap.size, 2, none⟩ = some (.bool false) ∧ w8.frozen? ⟨wq.heap.size, 2, none⟩ = false) := by
                    refine ⟨?_, ?_, ?_⟩ <;> (refine own_below hb8 ?_; repeat (first | (refine ⟨?_, ?_⟩ <;> (with_reducible assumption)) | (with_reducible apply own_same) | ((with_reducible refine own_set ?_ ?_ _); (· first | (simp; done) | (simp; omega))) | ((with_reducible refine own_new ?_ ?_); (· (simp; done)); (· rfl)) | (with_reducible refine own_alloc ?_ _) | (with_reducible refine own_drew ?_) | (with_reducible refine own_drewN ?_ _) | (with_reducible refine own_below (by assumption) ?_)))
                  have zo91 : wq.heap.size < w8.heap.size := World.block_lt_of_cell? _ _ o91a
                  clear x74 zzx74 x75 x76 zzx76 x77 x78 x79 zzx79 x80 x81a x81b zzx81a x82a x82b x83a x83b
                  go_wp2_with fail
                  have hiz : Hid (intsAt ((((w8.setCell ⟨wq.heap.size, 0, none⟩ (.int .i64 ((k : Int) + 1))).setCell ⟨wq.heap.size, 1, none⟩ (.int .i64 x.n)).setCell ⟨wq.heap.size, 2, none⟩ (.bool false))) S1 ([] : List Int)) := hide (intsAt_set3b hn2.out hi1.out)
                  generalize hwwz : (((w8.setCell ⟨wq.heap.size, 0, none⟩ (.int .i64 ((k : Int) + 1))).setCell ⟨wq.heap.size, 1, none⟩ (.int .i64 x.n)).setCell ⟨wq.heap.size, 2, none⟩ (.bool false)) = wz
                  have ne94 : wq.heap.size ≠ w.heap.size := by omega
                  have ne95 : wq.heap.size ≠ wr.heap.size := by omega
                  have ne96 : wq.heap.size ≠ b := by omega
                  have x97 : wz.cell? ⟨w.heap.size, 0, none⟩ = some (.slice (some ⟨b, o, none⟩) l.length cap) := by
                    rw [← hwwz]; exact (cell_set ne94 (cell_set ne94 (cell_set ne94 f84 _) _) _)
                  have zzx97 : w.heap.size < wz.heap.size := World.block_lt_of_cell? _ _ x97
                  have x98 : wz.cell? ⟨w.heap.size, 1, none⟩ = some (.int .i64 len) := by
                    rw [← hwwz]; exact (cell_set ne94 (cell_set ne94 (cell_set ne94 f85 _) _) _)
                  have x99 : wz.cell? ⟨wr.heap.size, 3, none⟩ = some (.int .i64 x.bx) := by
                    rw [← hwwz]; exact (cell_set ne95 (cell_set ne95 (cell_set ne95 f86 _) _) _)
                  have zzx99 : wr.heap.size < wz.heap.size := World.block_lt_of_cell? _ _ x99
                  have x100 : wz.cell? ⟨wr.heap.size, 4, none⟩ = some (.int .i64 x.b_y) := by
                    rw [← hwwz]; exact (cell_set ne95 (cell_set ne95 (cell_set ne95 f87 _) _) _)
                  have x101 : wz.cell? ⟨wr.heap.size, 11, none⟩ = some (.int .i64 x.n) := by
                    rw [← hwwz]; exact (cell_set ne95 (cell_set ne95 (cell_set ne95 f88 _) _) _)
                  have x102 : wz.cell? ⟨b, o + (k + 1) * 13 + 11, none⟩ = some (.int .i64 x.n) := by
                    rw [← hwwz]; exact (cell_set ne96 (cell_set ne96 (cell_set ne96 f89 _) _) _)
                  have zzx102 : b < wz.heap.size := World.block_lt_of_cell? _ _ x102
                  have x103 : wz.cell? ⟨b, o + (k + 1) * 13 + 12, none⟩ = some (.bool false) := by
                    rw [← hwwz]; exact (cell_set ne96 (cell_set ne96 (cell_set ne96 f90 _) _) _)
                  obtain ⟨x104a, x104b⟩ : wz.cell? ⟨wq.heap.size, 0, none⟩ = some (.int .i64 ((k : Int) + 1)) ∧ wz.frozen? ⟨wq.heap.size, 0, none⟩ = false := by
                    rw [← hwwz]; exact (own_set (by simp) (own_set (by simp) (own_same ⟨o91a, o91b⟩ _) _) _)
                  have zzx104a : wq.heap.size < wz.heap.size := World.block_lt_of_cell? _ _ x104a
                  obtain ⟨x105a, x105b⟩ : wz.cell? ⟨wq.heap.size, 1, none⟩ = some (.int .i64 x.n) ∧ wz.frozen? ⟨wq.heap.size, 1, none⟩ = false := by
                    rw [← hwwz]; exact (own_set (by simp) (own_same (own_set (by simp) ⟨o92a, o92b⟩ _) _) _)
                  obtain ⟨x106a, x106b⟩ : wz.cell? ⟨wq.heap.size, 2, none⟩ = some (.bool false) ∧ wz.frozen? ⟨wq.heap.size, 2, none⟩ = false := by
                    rw [← hwwz]; exact (own_same (own_set (by simp) (own_set (by simp) ⟨o93a, o93b⟩ _) _) _)
                  have Bwz : Below w.heap.size w wz := by
                    rw [← hwwz]
                    (repeat (with_reducible (first | assumption | exact Below.refl _ _ | refine Below.drew ?_ | refine below_drewN ?_ _ | refine below_set ?_ (by simp; try omega) _ | refine below_alloc ?_ (Nat.le_refl _) _ | refine below_sub (by assumption) ?_)))
                  clear f84 zf84 f85 f86 zf86 f87 f88 f89 zf89 f90 o91a o91b zo91 o92a o92b o93a o93b
                  rw [hwwz] at hiz
                  clear hwwz
                  skip
                  go_wp2_with fail
                  go_quiet (fail)
                  go_wp2_with fail
                  go_roundw
                  case rel => exact ⟨k + 1, ((k : Int) + 1), x.n, false, by omega, by go_num, hide (fun z hz _ hg => by rw [hy] at hz; injection hz with hz; subst hz; exact ⟨rfl, HN.out.symm, rfl⟩), by (repeat (first | (with_reducible assumption) | ((with_reducible refine cell_set ?_ ?_ _); (· first | (simp; done) | (simp; omega) | omega)) | ((with_reducible refine cell_new ?_ ?_); (· (simp; done)); (· rfl)) | (with_reducible refine cell_alloc ?_ _) | (with_reducible refine cell_drew ?_) | (with_reducible refine cell_drewN ?_ _) | (with_reducible refine cell_below (by assumption) ?_))), by (repeat (first | (with_reducible assumption) | ((with_reducible refine cell_set ?_ ?_ _); (· first | (simp; done) | (simp; omega) | omega)) | ((with_reducible refine cell_new ?_ ?_); (· (simp; done)); (· rfl)) | (with_reducible refine cell_alloc ?_ _) | (with_reducible refine cell_drew ?_) | (with_reducible refine cell_drewN ?_ _) | (with_reducible refine cell_below (by assumption) ?_))), by (repeat (first | (refine ⟨?_, ?_⟩ <;> (with_reducible assumption)) | (with_reducible apply own_same) | ((with_reducible refine own_set ?_ ?_ _); (· first | (simp; done) | (simp; omega))) | ((with_reducible refine own_new ?_ ?_); (· (simp; done)); (· rfl)) | (with_reducible refine own_alloc ?_ _) | (with_reducible refine own_drew ?_) | (with_reducible refine own_drewN ?_ _) | (with_reducible refine own_below (by assumption) ?_))), by (repeat (first | (refine ⟨?_, ?_⟩ <;> (with_reducible assumption)) | (with_reducible apply own_same) | ((with_reducible refine own_set ?_ ?_ _); (· first | (simp; done) | (simp; omega))) | ((with_reducible refine own_new ?_ ?_); (· (simp; done)); (· rfl)) | (with_reducible refine own_alloc ?_ _) | (with_reducible refine own_drew ?_) | (with_reducible refine own_drewN ?_ _) | (with_reducible refine own_below (by assumption) ?_))), by (repeat (first | (refine ⟨?_, ?_⟩ <;> (with_reducible assumption)) | (with_reducible apply own_same) | ((with_reducible refine own_set ?_ ?_ _); (· first | (simp; done) | (simp; omega))) | ((with_reducible refine own_new ?_ ?_); (· (simp; done)); (· rfl)) | (with_reducible refine own_alloc ?_ _) | (with_reducible refine own_drew ?_) | (with_reducible refine own_drewN ?_ _) | (with_reducible refine own_below (by assumption) ?_))), by (repeat (with_reducible (first | assumption | exact Below.refl _ _ | refine Below.drew ?_ | refine below_drewN ?_ _ | refine below_set ?_ (by simp; try omega) _ | refine below_alloc ?_ (Nat.le_refl _) _ | refine below_sub (by assumption) ?_)))⟩
                  case measure => simp [intOf]; omega
                · have TN : (y.n != x.n) = true := bne_iff_ne.2 hn
                  have G1 : Hid (((k : Int) + 1, y.n, false, [x.n]) = stepR l len k x.n false x.bx x.b_y) := hide (by rw [ST.out _ x.n (SS.out.2 y hy hyg), if_neg hn]; rfl)
                  go_wp2_with fail
                  refine (start_any (some ⟨b, o, none⟩) l cap len k _ h2 (hide (pathAt_below (show Below w.heap.size w _ by (repeat (with_reducible (first | assumption | exact Below.refl _ _ | refine Below.drew ?_ | refine below_drewN ?_ _ | refine below_set ?_ (by simp; try omega) _ | refine below_alloc ?_ (Nat.le_refl _) _ | refine below_sub (by assumption) ?_)))) hp.out)) ((k : Int), x.n, (0 : Int)) SF.out).mono ?_
                  rintro e w7 ⟨rfl, hb7⟩
                  obtain ⟨f61, f62, f63, f64, f65, f66, f67⟩ : w7.cell? ⟨w.heap.size, 0, none⟩ = some (.slice (some ⟨b, o, none⟩) l.length cap) ∧ w7.cell? ⟨w.heap.size, 1, none⟩ = some (.int .i64 len) ∧ w7.cell? ⟨wr.heap.size, 3, none⟩ = some (.int .i64 x.bx) ∧ w7.cell? ⟨wr.heap.size, 4, none⟩ = some (.int .i64 x.b_y) ∧ w7.cell? ⟨wr.heap.size, 11, none⟩ = some (.int .i64 x.n) ∧ w7.cell? ⟨b, o + (k + 1) * 13 + 11, none⟩ = some (.int .i64 y.n) ∧ w7.cell? ⟨b, o + (k + 1) * 13 + 12, none⟩ = some (.bool false) := by
                    refine ⟨?_, ?_, ?_, ?_, ?_, ?_, ?_⟩ <;> (refine cell_below hb7 ?_; repeat (first | (with_reducible assumption) | ((with_reducible refine cell_set ?_ ?_ _); (· first | (simp; done) | (simp; omega) | omega)) | ((with_reducible refine cell_new ?_ ?_); (· (simp; done)); (· rfl)) | (with_reducible refine cell_alloc ?_ _) | (with_reducible refine cell_drew ?_) | (with_reducible refine cell_drewN ?_ _) | (with_reducible refine cell_below (by assumption) ?_)))
                  have zf61 : w.heap.size < w7.heap.size := World.block_lt_of_cell? _ _ f61
                  have zf63 : wr.heap.size < w7.heap.size := World.block_lt_of_cell? _ _ f63
                  have zf66 : b < w7.heap.size := World.block_lt_of_cell? _ _ f66
                  obtain ⟨⟨o68a, o68b⟩, ⟨o69a, o69b⟩, ⟨o70a, o70b⟩⟩ : (w7.cell? ⟨wq.heap.size, 0, none⟩ = some (.int .i64 el) ∧ w7.frozen? ⟨wq.heap.size, 0, none⟩ = false) ∧ (w7.cell? ⟨wq.heap.size, 1, none⟩ = some (.int .i64 e0) ∧ w7.frozen? ⟨wq.heap.size, 1, none⟩ = false) ∧ (w7.cell? ⟨wq.heap.size, 2, none⟩ = some (.bool dn) ∧ w7.frozen? ⟨wq.heap.size, 2, none⟩ = false) := by
                    refine ⟨?_, ?_, ?_⟩ <;> (refine own_below hb7 ?_; repeat (first | (refine ⟨?_, ?_⟩ <;> (with_reducible assumption)) | (with_reducible apply own_same) | ((with_reducible refine own_set ?_ ?_ _); (· first | (simp; done) | (simp; omega))) | ((with_reducible refine own_new ?_ ?_); (· (simp; done)); (· rfl)) | (with_reducible refine own_alloc ?_ _) | (with_reducible refine own_drew ?_) | (with_reducible refine own_drewN ?_ _) | (with_reducible refine own_below (by assumption) ?_)))
                  have zo68 : wq.heap.size < w7.heap.size := World.block_lt_of_cell? _ _ o68a
                  clear p0 p1 d11 d12 g0a g0b g1a g1b g2a g2b
                  go_wp2_with fail
                  generalize hwwy : (((w7.setCell ⟨wq.heap.size, 0, none⟩ (.int .i64 (k : Int))).setCell ⟨wq.heap.size, 1, none⟩ (.int .i64 x.n)).setCell ⟨wq.heap.size, 2, none⟩ (.bool false)) = wy
                  have ne71 : wq.heap.size ≠ w.heap.size := by omega
                  have ne72 : wq.heap.size ≠ wr.heap.size := by omega
                  have ne73 : wq.heap.size ≠ b := by omega
                  have x74 : wy.cell? ⟨w.heap.size, 0, none⟩ = some (.slice (some ⟨b, o, none⟩) l.length cap) := by
                    rw [← hwwy]; exact (cell_set ne71 (cell_set ne71 (cell_set ne71 f61 _) _) _)
                  have zzx74 : w.heap.size < wy.heap.size := World.block_lt_of_cell? _ _ x74
                  have x75 : wy.cell? ⟨w.heap.size, 1, none⟩ = some (.int .i64 len) := by
                    rw [← hwwy]; exact (cell_set ne71 (cell_set ne71 (cell_set ne71 f62 _) _) _)
                  have x76 : wy.cell? ⟨wr.heap.size, 3, none⟩ = some (.int .i64 x.bx) := by
                    rw [← hwwy]; exact (cell_set ne72 (cell_set ne72 (cell_set ne72 f63 _) _) _)
                  have zzx76 : wr.heap.size < wy.heap.size := World.block_lt_of_cell? _ _ x76
                  have x77 : wy.cell? ⟨wr.heap.size, 4, none⟩ = some (.int .i64 x.b_y) := by
                    rw [← hwwy]; exact (cell_set ne72 (cell_set ne72 (cell_set ne72 f64 _) _) _)
                  have x78 : wy.cell? ⟨wr.heap.size, 11, none⟩ = some (.int .i64 x.n) := by
                    rw [← hwwy]; exact (cell_set ne72 (cell_set ne72 (cell_set ne72 f65 _) _) _)
                  have x79 : wy.cell? ⟨b, o + (k + 1) * 13 + 11, none⟩ = some (.int .i64 y.n) := by
                    rw [← hwwy]; exact (cell_set ne73 (cell_set ne73 (cell_set ne73 f66 _) _) _)
                  have zzx79 : b < wy.heap.size := World.block_lt_of_cell? _ _ x79
                  have x80 : wy.cell? ⟨b, o + (k + 1) * 13 + 12, none⟩ = some (.bool false) := by
                    rw [← hwwy]; exact (cell_set ne73 (cell_set ne73 (cell_set ne73 f67 _) _) _)
                  obtain ⟨x81a, x81b⟩ : wy.cell? ⟨wq.heap.size, 0, none⟩ = some (.int .i64 (k : Int)) ∧ wy.frozen? ⟨wq.heap.size, 0, none⟩ = false := by
                    rw [← hwwy]; exact (own_set (by simp) (own_set (by simp) (own_same ⟨o68a, o68b⟩ _) _) _)
                  have zzx81a : wq.heap.size < wy.heap.size := World.block_lt_of_cell? _ _ x81a
                  obtain ⟨x82a, x82b⟩ : wy.cell? ⟨wq.heap.size, 1, none⟩ = some (.int .i64 x.n) ∧ wy.frozen? ⟨wq.heap.size, 1, none⟩ = false := by
                    rw [← hwwy]; exact (own_set (by simp) (own_same (own_set (by simp) ⟨o69a, o69b⟩ _) _) _)
                  obtain ⟨x83a, x83b⟩ : wy.cell? ⟨wq.heap.size, 2, none⟩ = some (.bool false) ∧ wy.frozen? ⟨wq.heap.size, 2, none⟩ = false := by
                    rw [← hwwy]; exact (own_same (own_set (by simp) (own_set (by simp) ⟨o70a, o70b⟩ _) _) _)
                  have Bwy : Below w.heap.size w wy := by
                    rw [← hwwy]
                    (repeat (with_reducible (first | assumption | exact Below.refl _ _ | refine Below.drew ?_ | refine below_drewN ?_ _ | refine below_set ?_ (by simp; try omega) _ | refine below_alloc ?_ (Nat.le_refl _) _ | refine below_sub (by assumption) ?_)))
                  clear f61 zf61 f62 f63 zf63 f64 f65 f66 zf66 f67 o68a o68b zo68 o69a o69b o70a o70b
                  clear hwwy
                  refine (step_any (some ⟨b, o, none⟩) l cap len k x.n false x.bx x.b_y _ h2 (hide (pathAt_below (show Below w.heap.size w _ by (repeat (with_reducible (first | assumption | exact Below.refl _ _ | refine Below.drew ?_ | refine below_drewN ?_ _ | refine below_set ?_ (by simp; try omega) _ | refine below_alloc ?_ (Nat.le_refl _) _ | refine below_sub (by assumption) ?_)))) hp.out)) (((k : Int) + 1), y.n, false, [x.n]) G1.out).mono ?_
                  rintro e w8 ⟨S1, cp1, rfl, hi1, hn1, hb8⟩
                  have hn2 : Hid (∀ a, S1 = some a → wq.heap.size < a.block) := hide (fun a ha => Nat.lt_of_lt_of_le (by first | assumption | omega | (simp; omega)) (hn1.out a ha))
                  obtain ⟨f84, f85, f86, f87, f88, f89, f90⟩ : w8.cell? ⟨w.heap.size, 0, none⟩ = some (.slice (some ⟨b, o, none⟩) l.length cap) ∧ w8.cell? ⟨w.heap.size, 1, none⟩ = some (.int .i64 len) ∧ w8.cell? ⟨wr.heap.size, 3, none⟩ = some (.int .i64 x.bx) ∧ w8.cell? ⟨wr.heap.size, 4, none⟩ = some (.int .i64 x.b_y) ∧ w8.cell? ⟨wr.heap.size, 11, none⟩ = some (.int .i64 x.n) ∧ w8.cell? ⟨b, o + (k + 1) * 13 + 11, none⟩ = some (.int .i64 y.n) ∧ w8.cell? ⟨b, o + (k + 1) * 13 + 12, none⟩ = some (.bool false) := by
                    refine ⟨?_, ?_, ?_, ?_, ?_, ?_, ?_⟩ <;> (refine cell_below hb8 ?_; repeat (first | (with_reducible assumption) | ((with_reducible refine cell_set ?_ ?_ _); (· first | (simp; done) | (simp; omega) | omega)) | ((with_reducible refine cell_new ?_ ?_); (· (simp; done)); (· rfl)) | (with_reducible refine cell_alloc ?_ _) | (with_reducible refine cell_drew ?_) | (with_reducible refine cell_drewN ?_ _) | (with_reducible refine cell_below (by assumption) ?_)))
                  have zf84 : w.heap.size < w8.heap.size := World.block_lt_of_cell? _ _ f84
                  have zf86 : wr.heap.size < w8.heap.size := World.block_lt_of_cell? _ _ f86
                  have zf89 : b < w8.heap.size := World.block_lt_of_cell? _ _ f89
                  obtain ⟨⟨o91a, o91b⟩, ⟨o92a, o92b⟩, ⟨o93a, o93b⟩⟩ : (w8.cell? ⟨wq.heap.size, 0, none⟩ = some (.int .i64 (k : Int)) ∧ w8.frozen? ⟨wq.heap.size, 0, none⟩ = false) ∧ (w8.cell? ⟨wq.heap.size, 1, none⟩ = some (.int .i64 x.n) ∧ w8.frozen? ⟨wq.heap.size, 1, none⟩ = false) ∧ (w8.cell? ⟨wq.heap.size, 2, none⟩ = some (.bool false) ∧ w8.frozen? ⟨wq.heap.size, 2, none⟩ = false) := by
                    refine ⟨?_, ?_, ?_⟩ <;> (refine own_below hb8 ?_; repeat (first | (refine ⟨?_, ?_⟩ <;> (with_reducible assumption)) | (with_reducible apply own_same) | ((with_reducible refine own_set ?_ ?_ _); (· first | (simp; done) | (simp; omega))) | ((with_reducible refine own_new ?_ ?_); (· (simp; done)); (· rfl)) | (with_reducible refine own_alloc ?_ _) | (with_reducible refine own_drew ?_) | (with_reducible refine own_drewN ?_ _) | (with_reducible refine own_below (by assumption) ?_)))
                  have zo91 : wq.heap.size < w8.heap.size := World.block_lt_of_cell? _ _ o91a
                  clear x74 zzx74 x75 x76 zzx76 x77 x78 x79 zzx79 x80 x81a x81b zzx81a x82a x82b x83a x83b
                  go_wp2_with fail
                  have hiz : Hid (intsAt ((((w8.setCell ⟨wq.heap.size, 0, none⟩ (.int .i64 ((k : Int) + 1))).setCell ⟨wq.heap.size, 1, none⟩ (.int .i64 y.n)).setCell ⟨wq.heap.size, 2, none⟩ (.bool false))) S1 [x.n]) := hide (intsAt_set3b hn2.out hi1.out)
                  generalize hwwz : (((w8.setCell ⟨wq.heap.size, 0, none⟩ (.int .i64 ((k : Int) + 1))).setCell ⟨wq.heap.size, 1, none⟩ (.int .i64 y.n)).setCell ⟨wq.heap.size, 2, none⟩ (.bool false)) = wz
                  have ne94 : wq.heap.size ≠ w.heap.size := by omega
                  have ne95 : wq.heap.size ≠ wr.heap.size := by omega
                  have ne96 : wq.heap.size ≠ b := by omega
                  have x97 : wz.cell? ⟨w.heap.size, 0, none⟩ = some (.slice (some ⟨b, o, none⟩) l.length cap) := by
                    rw [← hwwz]; exact (cell_set ne94 (cell_set ne94 (cell_set ne94 f84 _) _) _)
                  have zzx97 : w.heap.size < wz.heap.size := World.block_lt_of_cell? _ _ x97
                  have x98 : wz.cell? ⟨w.heap.size, 1, none⟩ = some (.int .i64 len) := by
                    rw [← hwwz]; exact (cell_set ne94 (cell_set ne94 (cell_set ne94 f85 _) _) _)
                  have x99 : wz.cell? ⟨wr.heap.size, 3, none⟩ = some (.int .i64 x.bx) := by
                    rw [← hwwz]; exact (cell_set ne95 (cell_set ne95 (cell_set ne95 f86 _) _) _)
                  have zzx99 : wr.heap.size < wz.heap.size := World.block_lt_of_cell? _ _ x99
                  have x100 : wz.cell? ⟨wr.heap.size, 4, none⟩ = some (.int .i64 x.b_y) := by
                    rw [← hwwz]; exact (cell_set ne95 (cell_set ne95 (cell_set ne95 f87 _) _) _)
                  have x101 : wz.cell? ⟨wr.heap.size, 11, none⟩ = some (.int .i64 x.n) := by
                    rw [← hwwz]; exact (cell_set ne95 (cell_set ne95 (cell_set ne95 f88 _) _) _)
                  have x102 : wz.cell? ⟨b, o + (k + 1) * 13 + 11, none⟩ = some (.int .i64 y.n) := by
                    rw [← hwwz]; exact (cell_set ne96 (cell_set ne96 (cell_set ne96 f89 _) _) _)
                  have zzx102 : b < wz.heap.size := World.block_lt_of_cell? _ _ x102
                  have x103 : wz.cell? ⟨b, o + (k + 1) * 13 + 12, none⟩ = some (.bool false) := by
                    rw [← hwwz]; exact (cell_set ne96 (cell_set ne96 (cell_set ne96 f90 _) _) _)
                  obtain ⟨x104a, x104b⟩ : wz.cell? ⟨wq.heap.size, 0, none⟩ = some (.int .i64 ((k : Int) + 1)) ∧ wz.frozen? ⟨wq.heap.size, 0, none⟩ = false := by
                    rw [← hwwz]; exact (own_set (by simp) (own_set (by simp) (own_same ⟨o91a, o91b⟩ _) _) _)
                  have zzx104a : wq.heap.size < wz.heap.size := World.block_lt_of_cell? _ _ x104a
                  obtain ⟨x105a, x105b⟩ : wz.cell? ⟨wq.heap.size, 1, none⟩ = some (.int .i64 y.n) ∧ wz.frozen? ⟨wq.heap.size, 1, none⟩ = false := by
                    rw [← hwwz]; exact (own_set (by simp) (own_same (own_set (by simp) ⟨o92a, o92b⟩ _) _) _)
                  obtain ⟨x106a, x106b⟩ : wz.cell? ⟨wq.heap.size, 2, none⟩ = some (.bool false) ∧ wz.frozen? ⟨wq.heap.size, 2, none⟩ = false := by
                    rw [← hwwz]; exact (own_same (own_set (by simp) (own_set (by simp) ⟨o93a, o93b⟩ _) _) _)
                  have Bwz : Below w.heap.size w wz := by
                    rw [← hwwz]
                    (repeat (with_reducible (first | assumption | exact Below.refl _ _ | refine Below.drew ?_ | refine below_drewN ?_ _ | refine below_set ?_ (by simp; try omega) _ | refine below_alloc ?_ (Nat.le_refl _) _ | refine below_sub (by assumption) ?_)))
                  clear f84 zf84 f85 f86 zf86 f87 f88 f89 zf89 f90 o91a o91b zo91 o92a o92b o93a o93b
                  rw [hwwz] at hiz
                  clear hwwz
                  skip
                  go_wp2_with fail
                  go_quiet (fail)
                  go_wp2_with fail
                  refine (same_eq S1 (some ⟨wz.heap.size, 0, none⟩) cp1 1 [x.n] _ (by simp) (hide (intsAt_below (show Below wz.heap.size wz _ by (repeat (with_reducible (first | assumption | exact Below.refl _ _ | refine Below.drew ?_ | refine below_drewN ?_ _ | refine below_set ?_ (by simp; try omega) _ | refine below_alloc ?_ (Nat.le_refl _) _ | refine below_sub (by assumption) ?_)))) hiz.out)) (hide (intsAt_one (by (repeat (first | (with_reducible assumption) | ((with_reducible refine cell_set ?_ ?_ _); (· first | (simp; done) | (simp; omega) | omega)) | ((with_reducible refine cell_new ?_ ?_); (· (simp; done)); (· rfl)) | (with_reducible refine cell_alloc ?_ _) | (with_reducible refine cell_drew ?_) | (with_reducible refine cell_drewN ?_ _) | (with_reducible refine cell_below (by assumption) ?_))))))).mono ?_
                  rintro e w9 ⟨rfl, hb9⟩
                  obtain ⟨f107, f108, f109, f110, f111, f112, f113⟩ : w9.cell? ⟨w.heap.size, 0, none⟩ = some (.slice (some ⟨b, o, none⟩) l.length cap) ∧ w9.cell? ⟨w.heap.size, 1, none⟩ = some (.int .i64 len) ∧ w9.cell? ⟨wr.heap.size, 3, none⟩ = some (.int .i64 x.bx) ∧ w9.cell? ⟨wr.heap.size, 4, none⟩ = some (.int .i64 x.b_y) ∧ w9.cell? ⟨wr.heap.size, 11, none⟩ = some (.int .i64 x.n) ∧ w9.cell? ⟨b, o + (k + 1) * 13 + 11, none⟩ = some (.int .i64 y.n) ∧ w9.cell? ⟨b, o + (k + 1) * 13 + 12, none⟩ = some (.bool false) := by
                    refine ⟨?_, ?_, ?_, ?_, ?_, ?_, ?_⟩ <;> (refine cell_below hb9 ?_; repeat (first | (with_reducible assumption) | ((with_reducible refine cell_set ?_ ?_ _); (· first | (simp; done) | (simp; omega) | omega)) | ((with_reducible refine cell_new ?_ ?_); (· (simp; done)); (· rfl)) | (with_reducible refine cell_alloc ?_ _) | (with_reducible refine cell_drew ?_) | (with_reducible refine cell_drewN ?_ _) | (with_reducible refine cell_below (by assumption) ?_)))
                  have zf107 : w.heap.size < w9.heap.size := World.block_lt_of_cell? _ _ f107
                  have zf109 : wr.heap.size < w9.heap.size := World.block_lt_of_cell? _ _ f109
                  have zf112 : b < w9.heap.size := World.block_lt_of_cell? _ _ f112
                  obtain ⟨⟨o114a, o114b⟩, ⟨o115a, o115b⟩, ⟨o116a, o116b⟩⟩ : (w9.cell? ⟨wq.heap.size, 0, none⟩ = some (.int .i64 ((k : Int) + 1)) ∧ w9.frozen? ⟨wq.heap.size, 0, none⟩ = false) ∧ (w9.cell? ⟨wq.heap.size, 1, none⟩ = some (.int .i64 y.n) ∧ w9.frozen? ⟨wq.heap.size, 1, none⟩ = false) ∧ (w9.cell? ⟨wq.heap.size, 2, none⟩ = some (.bool false) ∧ w9.frozen? ⟨wq.heap.size, 2, none⟩ = false) := by
                    refine ⟨?_, ?_, ?_⟩ <;> (refine own_below hb9 ?_; repeat (first | (refine ⟨?_, ?_⟩ <;> (with_reducible assumption)) | (with_reducible apply own_same) | ((with_reducible refine own_set ?_ ?_ _); (· first | (simp; done) | (simp; omega))) | ((with_reducible refine own_new ?_ ?_); (· (simp; done)); (· rfl)) | (with_reducible refine own_alloc ?_ _) | (with_reducible refine own_drew ?_) | (with_reducible refine own_drewN ?_ _) | (with_reducible refine own_below (by assumption) ?_)))
                  have zo114 : wq.heap.size < w9.heap.size := World.block_lt_of_cell? _ _ o114a
                  clear x97 zzx97 x98 x99 zzx99 x100 x101 x102 zzx102 x103 x104a x104b zzx104a x105a x105b x106a x106b
                  go_wp2_with fail
                  go_roundw
                  case rel => exact ⟨k + 1, ((k : Int) + 1), y.n, false, by omega, by go_num, hide (fun z hz _ hg => by rw [hy] at hz; injection hz with hz; subst hz; exact ⟨rfl, rfl, rfl⟩), by (repeat (first | (with_reducible assumption) | ((with_reducible refine cell_set ?_ ?_ _); (· first | (simp; done) | (simp; omega) | omega)) | ((with_reducible refine cell_new ?_ ?_); (· (simp; done)); (· rfl)) | (with_reducible refine cell_alloc ?_ _) | (with_reducible refine cell_drew ?_) | (with_reducible refine cell_drewN ?_ _) | (with_reducible refine cell_below (by assumption) ?_))), by (repeat (first | (with_reducible assumption) | ((with_reducible refine cell_set ?_ ?_ _); (· first | (simp; done) | (simp; omega) | omega)) | ((with_reducible refine cell_new ?_ ?_); (· (simp; done)); (· rfl)) | (with_reducible refine cell_alloc ?_ _) | (with_reducible refine cell_drew ?_) | (with_reducible refine cell_drewN ?_ _) | (with_reducible refine cell_below (by assumption) ?_))), by (repeat (first | (refine ⟨?_, ?_⟩ <;> (with_reducible assumption)) | (with_reducible apply own_same) | ((with_reducible refine own_set ?_ ?_ _); (· first | (simp; done) | (simp; omega))) | ((with_reducible refine own_new ?_ ?_); (· (simp; done)); (· rfl)) | (with_reducible refine own_alloc ?_ _) | (with_reducible refine own_drew ?_) | (with_reducible refine own_drewN ?_ _) | (with_reducible refine own_below (by assumption) ?_))), by (repeat (first | (refine ⟨?_, ?_⟩ <;> (with_reducible assumption)) | (with_reducible apply own_same) | ((with_reducible refine own_set ?_ ?_ _); (· first | (simp; done) | (simp; omega))) | ((with_reducible refine own_new ?_ ?_); (· (simp; done)); (· rfl)) | (with_reducible refine own_alloc ?_ _) | (with_reducible refine own_drew ?_) | (with_reducible refine own_drewN ?_ _) | (with_reducible refine own_below (by assumption) ?_))), by (repeat (first | (refine ⟨?_, ?_⟩ <;> (with_reducible assumption)) | (with_reducible apply own_same) | ((with_reducible refine own_set ?_ ?_ _); (· first | (simp; done) | (simp; omega))) | ((with_reducible refine own_new ?_ ?_); (· (simp; done)); (· rfl)) | (with_reducible refine own_alloc ?_ _) | (with_reducible refine own_drew ?_) | (with_reducible refine own_drewN ?_ _) | (with_reducible refine own_below (by assumption) ?_))), by (repeat (with_reducible (first | assumption | exact Below.refl _ _ | refine Below.drew ?_ | refine below_drewN ?_ _ | refine below_set ?_ (by simp; try omega) _ | refine below_alloc ?_ (Nat.le_refl _) _ | refine below_sub (by assumption) ?_)))⟩
                  case measure => simp [intOf]; omega
              · rw [hyg] at d12
                have hl : lastB l k = true := by unfold lastB; rw [hy]; exact hyg
                have G1 : Hid (((k : Int), x.n, true, [x.n]) = stepR l len k x.n false x.bx x.b_y) := hide (by rw [ST.out _ x.n (SS.out.1 hl)])
                go_wp2_with fail
                refine (start_any (some ⟨b, o, none⟩) l cap len k _ h2 (hide (pathAt_below (show Below w.heap.size w _ by (repeat (with_reducible (first | assumption | exact Below.refl _ _ | refine Below.drew ?_ | refine below_drewN ?_ _ | refine below_set ?_ (by simp; try omega) _ | refine below_alloc ?_ (Nat.le_refl _) _ | refine below_sub (by assumption) ?_)))) hp.out)) ((k : Int), x.n, (0 : Int)) SF.out).mono ?_
                rintro e w7 ⟨rfl, hb7⟩
                obtain ⟨f61, f62, f63, f64, f65, f66, f67⟩ : w7.cell? ⟨w.heap.size, 0, none⟩ = some (.slice (some ⟨b, o, none⟩) l.length cap) ∧ w7.cell? ⟨w.heap.size, 1, none⟩ = some (.int .i64 len) ∧ w7.cell? ⟨wr.heap.size, 3, none⟩ = some (.int .i64 x.bx) ∧ w7.cell? ⟨wr.heap.size, 4, none⟩ = some (.int .i64 x.b_y) ∧ w7.cell? ⟨wr.heap.size, 11, none⟩ = some (.int .i64 x.n) ∧ w7.cell? ⟨b, o + (k + 1) * 13 + 11, none⟩ = some (.int .i64 y.n) ∧ w7.cell? ⟨b, o + (k + 1) * 13 + 12, none⟩ = some (.bool true) := by
                  refine ⟨?_, ?_, ?_, ?_, ?_, ?_, ?_⟩ <;> (refine cell_below hb7 ?_; repeat (first | (with_reducible assumption) | ((with_reducible refine cell_set ?_ ?_ _); (· first | (simp; done) | (simp; omega) | omega)) | ((with_reducible refine cell_new ?_ ?_); (· (simp; done)); (· rfl)) | (with_reducible refine cell_alloc ?_ _) | (with_reducible refine cell_drew ?_) | (with_reducible refine cell_drewN ?_ _) | (with_reducible refine cell_below (by assumption) ?_)))
                have zf61 : w.heap.size < w7.heap.size := World.block_lt_of_cell? _ _ f61
                have zf63 : wr.heap.size < w7.heap.size := World.block_lt_of_cell? _ _ f63
                have zf66 : b < w7.heap.size := World.block_lt_of_cell? _ _ f66
                obtain ⟨⟨o68a, o68b⟩, ⟨o69a, o69b⟩, ⟨o70a, o70b⟩⟩ : (w7.cell? ⟨wq.heap.size, 0, none⟩ = some (.int .i64 el) ∧ w7.frozen? ⟨wq.heap.size, 0, none⟩ = false) ∧ (w7.cell? ⟨wq.heap.size, 1, none⟩ = some (.int .i64 e0) ∧ w7.frozen? ⟨wq.heap.size, 1, none⟩ = false) ∧ (w7.cell? ⟨wq.heap.size, 2, none⟩ = some (.bool dn) ∧ w7.frozen? ⟨wq.heap.size, 2, none⟩ = false) := by
                  refine ⟨?_, ?_, ?_⟩ <;> (refine own_below hb7 ?_; repeat (first | (refine ⟨?_, ?_⟩ <;> (with_reducible assumption)) | (with_reducible apply own_same) | ((with_reducible refine own_set ?_ ?_ _); (· first | (simp; done) | (simp; omega))) | ((with_reducible refine own_new ?_ ?_); (· (simp; done)); (· rfl)) | (with_reducible refine own_alloc ?_ _) | (with_reducible refine own_drew ?_) | (with_reducible refine own_drewN ?_ _) | (with_reducible refine own_below (by assumption) ?_)))
                have zo68 : wq.heap.size < w7.heap.size := World.block_lt_of_cell? _ _ o68a
                clear p0 p1 d11 d12 g0a g0b g1a g1b g2a g2b
                go_wp2_with fail
                generalize hwwy : (((w7.setCell ⟨wq.heap.size, 0, none⟩ (.int .i64 (k : Int))).setCell ⟨wq.heap.size, 1, none⟩ (.int .i64 x.n)).setCell ⟨wq.heap.size, 2, none⟩ (.bool false)) = wy
                have ne71 : wq.heap.size ≠ w.heap.size := by omega
                have ne72 : wq.heap.size ≠ wr.heap.size := by omega
                have ne73 : wq.heap.size ≠ b := by omega
                have x74 : wy.cell? ⟨w.heap.size, 0, none⟩ = some (.slice (some ⟨b, o, none⟩) l.length cap) := by
                  rw [← hwwy]; exact (cell_set ne71 (cell_set ne71 (cell_set ne71 f61 _) _) _)
                have zzx74 : w.heap.size < wy.heap.size := World.block_lt_of_cell? _ _ x74
                have x75 : wy.cell? ⟨w.heap.size, 1, none⟩ = some (.int .i64 len) := by
                  rw [← hwwy]; exact (cell_set ne71 (cell_set ne71 (cell_set ne71 f62 _) _) _)
                have x76 : wy.cell? ⟨wr.heap.size, 3, none⟩ = some (.int .i64 x.bx) := by
                  rw [← hwwy]; exact (cell_set ne72 (cell_set ne72 (cell_set ne72 f63 _) _) _)
                have zzx76 : wr.heap.size < wy.heap.size := World.block_lt_of_cell? _ _ x76
                have x77 : wy.cell? ⟨wr.heap.size, 4, none⟩ = some (.int .i64 x.b_y) := by
                  rw [← hwwy]; exact (cell_set ne72 (cell_set ne72 (cell_set ne72 f64 _) _) _)
                have x78 : wy.cell? ⟨wr.heap.size, 11, none⟩ = some (.int .i64 x.n) := by
                  rw [← hwwy]; exact (cell_set ne72 (cell_set ne72 (cell_set ne72 f65 _) _) _)
                have x79 : wy.cell? ⟨b, o + (k + 1) * 13 + 11, none⟩ = some (.int .i64 y.n) := by
                  rw [← hwwy]; exact (cell_set ne73 (cell_set ne73 (cell_set ne73 f66 _) _) _)
                have zzx79 : b < wy.heap.size := World.block_lt_of_cell? _ _ x79
                have x80 : wy.cell? ⟨b, o + (k + 1) * 13 + 12, none⟩ = some (.bool true) := by
                  rw [← hwwy]; exact (cell_set ne73 (cell_set ne73 (cell_set ne73 f67 _) _) _)
                obtain ⟨x81a, x81b⟩ : wy.cell? ⟨wq.heap.size, 0, none⟩ = some (.int .i64 (k : Int)) ∧ wy.frozen? ⟨wq.heap.size, 0, none⟩ = false := by
                  rw [← hwwy]; exact (own_set (by simp) (own_set (by simp) (own_same ⟨o68a, o68b⟩ _) _) _)
                have zzx81a : wq.heap.size < wy.heap.size := World.block_lt_of_cell? _ _ x81a
                obtain ⟨x82a, x82b⟩ : wy.cell? ⟨wq.heap.size, 1, none⟩ = some (.int .i64 x.n) ∧ wy.frozen? ⟨wq.heap.size, 1, none⟩ = false := by
                  rw [← hwwy]; exact (own_set (by simp) (own_same (own_set (by simp) ⟨o69a, o69b⟩ _) _) _)
                obtain ⟨x83a, x83b⟩ : wy.cell? ⟨wq.heap.size, 2, none⟩ = some (.bool false) ∧ wy.frozen? ⟨wq.heap.size, 2, none⟩ = false := by
                  rw [← hwwy]; exact (own_same (own_set (by simp) (own_set (by simp) ⟨o70a, o70b⟩ _) _) _)
                have Bwy : Below w.heap.size w wy := by
                  rw [← hwwy]
                  (repeat (with_reducible (first | assumption | exact Below.refl _ _ | refine Below.drew ?_ | refine below_drewN ?_ _ | refine below_set ?_ (by simp; try omega) _ | refine below_alloc ?_ (Nat.le_refl _) _ | refine below_sub (by assumption) ?_)))
                clear f61 zf61 f62 f63 zf63 f64 f65 f66 zf66 f67 o68a o68b zo68 o69a o69b o70a o70b
                clear hwwy
                refine (step_any (some ⟨b, o, none⟩) l cap len k x.n false x.bx x.b_y _ h2 (hide (pathAt_below (show Below w.heap.size w _ by (repeat (with_reducible (first | assumption | exact Below.refl _ _ | refine Below.drew ?_ | refine below_drewN ?_ _ | refine below_set ?_ (by simp; try omega) _ | refine below_alloc ?_ (Nat.le_refl _) _ | refine below_sub (by assumption) ?_)))) hp.out)) ((k : Int), x.n, true, [x.n]) G1.out).mono ?_
                rintro e w8 ⟨S1, cp1, rfl, hi1, hn1, hb8⟩
                have hn2 : Hid (∀ a, S1 = some a → wq.heap.size < a.block) := hide (fun a ha => Nat.lt_of_lt_of_le (by first | assumption | omega | (simp; omega)) (hn1.out a ha))
                obtain ⟨f84, f85, f86, f87, f88, f89, f90⟩ : w8.cell? ⟨w.heap.size, 0, none⟩ = some (.slice (some ⟨b, o, none⟩) l.length cap) ∧ w8.cell? ⟨w.heap.size, 1, none⟩ = some (.int .i64 len) ∧ w8.cell? ⟨wr.heap.size, 3, none⟩ = some (.int .i64 x.bx) ∧ w8.cell? ⟨wr.heap.size, 4, none⟩ = some (.int .i64 x.b_y) ∧ w8.cell? ⟨wr.heap.size, 11, none⟩ = some (.int .i64 x.n) ∧ w8.cell? ⟨b, o + (k + 1) * 13 + 11, none⟩ = some (.int .i64 y.n) ∧ w8.cell? ⟨b, o + (k + 1) * 13 + 12, none⟩ = some (.bool true) := by
                  refine ⟨?_, ?_, ?_, ?_, ?_, ?_, ?_⟩ <;> (refine cell_below hb8 ?_; repeat (first | (with_reducible assumption) | ((with_reducible refine cell_set ?_ ?_ _); (· first | (simp; done) | (simp; omega) | omega)) | ((with_reducible refine cell_new ?_ ?_); (· (simp; done)); (· rfl)) | (with_reducible refine cell_alloc ?_ _) | (with_reducible refine cell_drew ?_) | (with_reducible refine cell_drewN ?_ _) | (with_reducible refine cell_below (by assumption) ?_)))
                have zf84 : w.heap.size < w8.heap.size := World.block_lt_of_cell? _ _ f84
                have zf86 : wr.heap.size < w8.heap.size := World.block_lt_of_cell? _ _ f86
                have zf89 : b < w8.heap.size := World.block_lt_of_cell? _ _ f89
                obtain ⟨⟨o91a, o91b⟩, ⟨o92a, o92b⟩, ⟨o93a, o93b⟩⟩ : (w8.cell? ⟨wq.heap.size, 0, none⟩ = some (.int .i64 (k : Int)) ∧ w8.frozen? ⟨wq.heap.size, 0, none⟩ = false) ∧ (w8.cell? ⟨wq.heap.size, 1, none⟩ = some (.int .i64 x.n) ∧ w8.frozen? ⟨wq.heap.size, 1, none⟩ = false) ∧ (w8.cell? ⟨wq.heap.size, 2, none⟩ = some (.bool false) ∧ w8.frozen? ⟨wq.heap.size, 2, none⟩ = false) := by
                  refine ⟨?_, ?_, ?_⟩ <;> (refine own_below hb8 ?_; repeat (first | (refine ⟨?_, ?_⟩ <;> (with_reducible assumption)) | (with_reducible apply own_same) | ((with_reducible refine own_set ?_ ?_ _); (· first | (simp; done) | (simp; omega))) | ((with_reducible refine own_new ?_ ?_); (· (simp; done)); (· rfl)) | (with_reducible refine own_alloc ?_ _) | (with_reducible refine own_drew ?_) | (with_reducible refine own_drewN ?_ _) | (with_reducible refine own_below (by assumption) ?_)))
                have zo91 : wq.heap.size < w8.heap.size := World.block_lt_of_cell? _ _ o91a
                clear x74 zzx74 x75 x76 zzx76 x77 x78 x79 zzx79 x80 x81a x81b zzx81a x82a x82b x83a x83b
                go_wp2_with fail
                have hiz : Hid (intsAt ((((w8.setCell ⟨wq.heap.size, 0, none⟩ (.int .i64 (k : Int))).setCell ⟨wq.heap.size, 1, none⟩ (.int .i64 x.n)).setCell ⟨wq.heap.size, 2, none⟩ (.bool true))) S1 [x.n]) := hide (intsAt_set3b hn2.out hi1.out)
                generalize hwwz : (((w8.setCell ⟨wq.heap.size, 0, none⟩ (.int .i64 (k : Int))).setCell ⟨wq.heap.size, 1, none⟩ (.int .i64 x.n)).setCell ⟨wq.heap.size, 2, none⟩ (.bool true)) = wz
                have ne94 : wq.heap.size ≠ w.heap.size := by omega
                have ne95 : wq.heap.size ≠ wr.heap.size := by omega
                have ne96 : wq.heap.size ≠ b := by omega
                have x97 : wz.cell? ⟨w.heap.size, 0, none⟩ = some (.slice (some ⟨b, o, none⟩) l.length cap) := by
                  rw [← hwwz]; exact (cell_set ne94 (cell_set ne94 (cell_set ne94 f84 _) _) _)
                have zzx97 : w.heap.size < wz.heap.size := World.block_lt_of_cell? _ _ x97
                have x98 : wz.cell? ⟨w.heap.size, 1, none⟩ = some (.int .i64 len) := by
                  rw [← hwwz]; exact (cell_set ne94 (cell_set ne94 (cell_set ne94 f85 _) _) _)
                have x99 : wz.cell? ⟨wr.heap.size, 3, none⟩ = some (.int .i64 x.bx) := by
                  rw [← hwwz]; exact (cell_set ne95 (cell_set ne95 (cell_set ne95 f86 _) _) _)
                have zzx99 : wr.heap.size < wz.heap.size := World.block_lt_of_cell? _ _ x99
                have x100 : wz.cell? ⟨wr.heap.size, 4, none⟩ = some (.int .i64 x.b_y) := by
                  rw [← hwwz]; exact (cell_set ne95 (cell_set ne95 (cell_set ne95 f87 _) _) _)
                have x101 : wz.cell? ⟨wr.heap.size, 11, none⟩ = some (.int .i64 x.n) := by
                  rw [← hwwz]; exact (cell_set ne95 (cell_set ne95 (cell_set ne95 f88 _) _) _)
                have x102 : wz.cell? ⟨b, o + (k + 1) * 13 + 11, none⟩ = some (.int .i64 y.n) := by
                  rw [← hwwz]; exact (cell_set ne96 (cell_set ne96 (cell_set ne96 f89 _) _) _)
                have zzx102 : b < wz.heap.size := World.block_lt_of_cell? _ _ x102
                have x103 : wz.cell? ⟨b, o + (k + 1) * 13 + 12, none⟩ = some (.bool true) := by
                  rw [← hwwz]; exact (cell_set ne96 (cell_set ne96 (cell_set ne96 f90 _) _) _)
                obtain ⟨x104a, x104b⟩ : wz.cell? ⟨wq.heap.size, 0, none⟩ = some (.int .i64 (k : Int)) ∧ wz.frozen? ⟨wq.heap.size, 0, none⟩ = false := by
                  rw [← hwwz]; exact (own_set (by simp) (own_set (by simp) (own_same ⟨o91a, o91b⟩ _) _) _)
                have zzx104a : wq.heap.size < wz.heap.size := World.block_lt_of_cell? _ _ x104a
                obtain ⟨x105a, x105b⟩ : wz.cell? ⟨wq.heap.size, 1, none⟩ = some (.int .i64 x.n) ∧ wz.frozen? ⟨wq.heap.size, 1, none⟩ = false := by
                  rw [← hwwz]; exact (own_set (by simp) (own_same (own_set (by simp) ⟨o92a, o92b⟩ _) _) _)
                obtain ⟨x106a, x106b⟩ : wz.cell? ⟨wq.heap.size, 2, none⟩ = some (.bool true) ∧ wz.frozen? ⟨wq.heap.size, 2, none⟩ = false := by
                  rw [← hwwz]; exact (own_same (own_set (by simp) (own_set (by simp) ⟨o93a, o93b⟩ _) _) _)
                have Bwz : Below w.heap.size w wz := by
                  rw [← hwwz]
                  (repeat (with_reducible (first | assumption | exact Below.refl _ _ | refine Below.drew ?_ | refine below_drewN ?_ _ | refine below_set ?_ (by simp; try omega) _ | refine below_alloc ?_ (Nat.le_refl _) _ | refine below_sub (by assumption) ?_)))
                clear f84 zf84 f85 f86 zf86 f87 f88 f89 zf89 f90 o91a o91b zo91 o92a o92b o93a o93b
                rw [hwwz] at hiz
                clear hwwz
                skip
                go_wp2_with fail
                go_quiet (fail)
                go_wp2_with fail
                refine (same_eq S1 (some ⟨wz.heap.size, 0, none⟩) cp1 1 [x.n] _ (by simp) (hide (intsAt_below (show Below wz.heap.size wz _ by (repeat (with_reducible (first | assumption | exact Below.refl _ _ | refine Below.drew ?_ | refine below_drewN ?_ _ | refine below_set ?_ (by simp; try omega) _ | refine below_alloc ?_ (Nat.le_refl _) _ | refine below_sub (by assumption) ?_)))) hiz.out)) (hide (intsAt_one (by (repeat (first | (with_reducible assumption) | ((with_reducible refine cell_set ?_ ?_ _); (· first | (simp; done) | (simp; omega) | omega)) | ((with_reducible refine cell_new ?_ ?_); (· (simp; done)); (· rfl)) | (with_reducible refine cell_alloc ?_ _) | (with_reducible refine cell_drew ?_) | (with_reducible refine cell_drewN ?_ _) | (with_reducible refine cell_below (by assumption) ?_))))))).mono ?_
                rintro e w9 ⟨rfl, hb9⟩
                obtain ⟨f107, f108, f109, f110, f111, f112, f113⟩ : w9.cell? ⟨w.heap.size, 0, none⟩ = some (.slice (some ⟨b, o, none⟩) l.length cap) ∧ w9.cell? ⟨w.heap.size, 1, none⟩ = some (.int .i64 len) ∧ w9.cell? ⟨wr.heap.size, 3, none⟩ = some (.int .i64 x.bx) ∧ w9.cell? ⟨wr.heap.size, 4, none⟩ = some (.int .i64 x.b_y) ∧ w9.cell? ⟨wr.heap.size, 11, none⟩ = some (.int .i64 x.n) ∧ w9.cell? ⟨b, o + (k + 1) * 13 + 11, none⟩ = some (.int .i64 y.n) ∧ w9.cell? ⟨b, o + (k + 1) * 13 + 12, none⟩ = some (.bool true) := by
                  refine ⟨?_, ?_, ?_, ?_, ?_, ?_, ?_⟩ <;> (refine cell_below hb9 ?_; repeat (first | (with_reducible assumption) | ((with_reducible refine cell_set ?_ ?_ _); (· first | (simp; done) | (simp; omega) | omega)) | ((with_reducible refine cell_new ?_ ?_); (· (simp; done)); (· rfl)) | (with_reducible refine cell_alloc ?_ _) | (with_reducible refine cell_drew ?_) | (with_reducible refine cell_drewN ?_ _) | (with_reducible refine cell_below (by assumption) ?_)))
                have zf107 : w.heap.size < w9.heap.size := World.block_lt_of_cell? _ _ f107
                have zf109 : wr.heap.size < w9.heap.size := World.block_lt_of_cell? _ _ f109
                have zf112 : b < w9.heap.size := World.block_lt_of_cell? _ _ f112
                obtain ⟨⟨o114a, o114b⟩, ⟨o115a, o115b⟩, ⟨o116a, o116b⟩⟩ : (w9.cell? ⟨wq.heap.size, 0, none⟩ = some (.int .i64 (k : Int)) ∧ w9.frozen? ⟨wq.heap.size, 0, none⟩ = false) ∧ (w9.cell? ⟨wq.heap.size, 1, none⟩ = some (.int .i64 x.n) ∧ w9.frozen? ⟨wq.heap.size, 1, none⟩ = false) ∧ (w9.cell? ⟨wq.heap.size, 2, none⟩ = some (.bool true) ∧ w9.frozen? ⟨wq.heap.size, 2, none⟩ = false) := by
                  refine ⟨?_, ?_, ?_⟩ <;> (refine own_below hb9 ?_; repeat (first | (refine ⟨?_, ?_⟩ <;> (with_reducible assumption)) | (with_reducible apply own_same) | ((with_reducible refine own_set ?_ ?_ _); (· first | (simp; done) | (simp; omega))) | ((with_reducible refine own_new ?_ ?_); (· (simp; done)); (· rfl)) | (with_reducible refine own_alloc ?_ _) | (with_reducible refine own_drew ?_) | (with_reducible refine own_drewN ?_ _) | (with_reducible refine own_below (by assumption) ?_)))
                have zo114 : wq.heap.size < w9.heap.size := World.block_lt_of_cell? _ _ o114a
                clear x97 zzx97 x98 x99 zzx99 x100 x101 x102 zzx102 x103 x104a x104b zzx104a x105a x105b x106a x106b
                go_wp2_with fail
                go_roundw
                case rel => exact ⟨k + 1, (k : Int), x.n, true, by omega, by go_num, hide (fun z hz _ hg => by rw [hy] at hz; injection hz with hz; subst hz; rw [hyg] at hg; cases hg), by (repeat (first | (with_reducible assumption) | ((with_reducible refine cell_set ?_ ?_ _); (· first | (simp; done) | (simp; omega) | omega)) | ((with_reducible refine cell_new ?_ ?_); (· (simp; done)); (· rfl)) | (with_reducible refine cell_alloc ?_ _) | (with_reducible refine cell_drew ?_) | (with_reducible refine cell_drewN ?_ _) | (with_reducible refine cell_below (by assumption) ?_))), by (repeat (first | (with_reducible assumption) | ((with_reducible refine cell_set ?_ ?_ _); (· first | (simp; done) | (simp; omega) | omega)) | ((with_reducible refine cell_new ?_ ?_); (· (simp; done)); (· rfl)) | (with_reducible refine cell_alloc ?_ _) | (with_reducible refine cell_drew ?_) | (with_reducible refine cell_drewN ?_ _) | (with_reducible refine cell_below (by assumption) ?_))), by (repeat (first | (refine ⟨?_, ?_⟩ <;> (with_reducible assumption)) | (with_reducible apply own_same) | ((with_reducible refine own_set ?_ ?_ _); (· first | (simp; done) | (simp; omega))) | ((with_reducible refine own_new ?_ ?_); (· (simp; done)); (· rfl)) | (with_reducible refine own_alloc ?_ _) | (with_reducible refine own_drew ?_) | (with_reducible refine own_drewN ?_ _) | (with_reducible refine own_below (by assumption) ?_))), by (repeat (first | (refine ⟨?_, ?_⟩ <;> (with_reducible assumption)) | (with_reducible apply own_same) | ((with_reducible refine own_set ?_ ?_ _); (· first | (simp; done) | (simp; omega))) | ((with_reducible refine own_new ?_ ?_); (· (simp; done)); (· rfl)) | (with_reducible refine own_alloc ?_ _) | (with_reducible refine own_drew ?_) | (with_reducible refine own_drewN ?_ _) | (with_reducible refine own_below (by assumption) ?_))), by (repeat (first | (refine ⟨?_, ?_⟩ <;> (with_reducible assumption)) | (with_reducible apply own_same) | ((with_reducible refine own_set ?_ ?_ _); (· first | (simp; done) | (simp; omega))) | ((with_reducible refine own_new ?_ ?_); (· (simp; done)); (· rfl)) | (with_reducible refine own_alloc ?_ _) | (with_reducible refine own_drew ?_) | (with_reducible refine own_drewN ?_ _) | (with_reducible refine own_below (by assumption) ?_))), by (repeat (with_reducible (first | assumption | exact Below.refl _ _ | refine Below.drew ?_ | refine below_drewN ?_ _ | refine below_set ?_ (by simp; try omega) _ | refine below_alloc ?_ (Nat.le_refl _) _ | refine below_sub (by assumption) ?_)))⟩
                case measure => simp [intOf]; omega
            · have TL : ((k : Int) + 1 == (l.length : Int)) = true := by rw [beq_iff_eq]; omega
              have hy : l[k + 1]? = none := List.getElem?_eq_none (by omega)
              have hl : lastB l k = true := by unfold lastB; rw [hy]
              have G1 : Hid (((k : Int), x.n, true, [x.n]) = stepR l len k x.n false x.bx x.b_y) := hide (by rw [ST.out _ x.n (SS.out.1 hl)])
              go_wp2_with fail
              refine (start_any (some ⟨b, o, none⟩) l cap len k _ h2 (hide (pathAt_below (show Below w.heap.size w _ by (repeat (with_reducible (first | assumption | exact Below.refl _ _ | refine Below.drew ?_ | refine below_drewN ?_ _ | refine below_set ?_ (by simp; try omega) _ | refine below_alloc ?_ (Nat.le_refl _) _ | refine below_sub (by assumption) ?_)))) hp.out)) ((k : Int), x.n, (0 : Int)) SF.out).mono ?_
              rintro e w7 ⟨rfl, hb7⟩
              obtain ⟨f61, f62, f63, f64, f65⟩ : w7.cell? ⟨w.heap.size, 0, none⟩ = some (.slice (some ⟨b, o, none⟩) l.length cap) ∧ w7.cell? ⟨w.heap.size, 1, none⟩ = some (.int .i64 len) ∧ w7.cell? ⟨wr.heap.size, 3, none⟩ = some (.int .i64 x.bx) ∧ w7.cell? ⟨wr.heap.size, 4, none⟩ = some (.int .i64 x.b_y) ∧ w7.cell? ⟨wr.heap.size, 11, none⟩ = some (.int .i64 x.n) := by
                refine ⟨?_, ?_, ?_, ?_, ?_⟩ <;> (refine cell_below hb7 ?_; repeat (first | (with_reducible assumption) | ((with_reducible refine cell_set ?_ ?_ _); (· first | (simp; done) | (simp; omega) | omega)) | ((with_reducible refine cell_new ?_ ?_); (· (simp; done)); (· rfl)) | (with_reducible refine cell_alloc ?_ _) | (with_reducible refine cell_drew ?_) | (with_reducible refine cell_drewN ?_ _) | (with_reducible refine cell_below (by assumption) ?_)))
              have zf61 : w.heap.size < w7.heap.size := World.block_lt_of_cell? _ _ f61
              have zf63 : wr.heap.size < w7.heap.size := World.block_lt_of_cell? _ _ f63
              obtain ⟨⟨o66a, o66b⟩, ⟨o67a, o67b⟩, ⟨o68a, o68b⟩⟩ : (w7.cell? ⟨wq.heap.size, 0, none⟩ = some (.int .i64 el) ∧ w7.frozen? ⟨wq.heap.size, 0, none⟩ = false) ∧ (w7.cell? ⟨wq.heap.size, 1, none⟩ = some (.int .i64 e0) ∧ w7.frozen? ⟨wq.heap.size, 1, none⟩ = false) ∧ (w7.cell? ⟨wq.heap.size, 2, none⟩ = some (.bool dn) ∧ w7.frozen? ⟨wq.heap.size, 2, none⟩ = false) := by
                refine ⟨?_, ?_, ?_⟩ <;> (refine own_below hb7 ?_; repeat (first | (refine ⟨?_, ?_⟩ <;> (with_reducible assumption)) | (with_reducible apply own_same) | ((with_reducible refine own_set ?_ ?_ _); (· first | (simp; done) | (simp; omega))) | ((with_reducible refine own_new ?_ ?_); (· (simp; done)); (· rfl)) | (with_reducible refine own_alloc ?_ _) | (with_reducible refine own_drew ?_) | (with_reducible refine own_drewN ?_ _) | (with_reducible refine own_below (by assumption) ?_)))
              have zo66 : wq.heap.size < w7.heap.size := World.block_lt_of_cell? _ _ o66a
              clear p0 p1 g0a g0b g1a g1b g2a g2b
              go_wp2_with fail
              generalize hwwy : (((w7.setCell ⟨wq.heap.size, 0, none⟩ (.int .i64 (k : Int))).setCell ⟨wq.heap.size, 1, none⟩ (.int .i64 x.n)).setCell ⟨wq.heap.size, 2, none⟩ (.bool false)) = wy
              have ne69 : wq.heap.size ≠ w.heap.size := by omega
              have ne70 : wq.heap.size ≠ wr.heap.size := by omega
              have x71 : wy.cell? ⟨w.heap.size, 0, none⟩ = some (.slice (some ⟨b, o, none⟩) l.length cap) := by
                rw [← hwwy]; exact (cell_set ne69 (cell_set ne69 (cell_set ne69 f61 _) _) _)
              have zzx71 : w.heap.size < wy.heap.size := World.block_lt_of_cell? _ _ x71
              have x72 : wy.cell? ⟨w.heap.size, 1, none⟩ = some (.int .i64 len) := by
                rw [← hwwy]; exact (cell_set ne69 (cell_set ne69 (cell_set ne69 f62 _) _) _)
              have x73 : wy.cell? ⟨wr.heap.size, 3, none⟩ = some (.int .i64 x.bx) := by
                rw [← hwwy]; exact (cell_set ne70 (cell_set ne70 (cell_set ne70 f63 _) _) _)
              have zzx73 : wr.heap.size < wy.heap.size := World.block_lt_of_cell? _ _ x73
              have x74 : wy.cell? ⟨wr.heap.size, 4, none⟩ = some (.int .i64 x.b_y) := by
                rw [← hwwy]; exact (cell_set ne70 (cell_set ne70 (cell_set ne70 f64 _) _) _)
              have x75 : wy.cell? ⟨wr.heap.size, 11, none⟩ = some (.int .i64 x.n) := by
                rw [← hwwy]; exact (cell_set ne70 (cell_set ne70 (cell_set ne70 f65 _) _) _)
              obtain ⟨x76a, x76b⟩ : wy.cell? ⟨wq.heap.size, 0, none⟩ = some (.int .i64 (k : Int)) ∧ wy.frozen? ⟨wq.heap.size, 0, none⟩ = false := by
                rw [← hwwy]; exact (own_set (by simp) (own_set (by simp) (own_same ⟨o66a, o66b⟩ _) _) _)
              have zzx76a : wq.heap.size < wy.heap.size := World.block_lt_of_cell? _ _ x76a
              obtain ⟨x77a, x77b⟩ : wy.cell? ⟨wq.heap.size, 1, none⟩ = some (.int .i64 x.n) ∧ wy.frozen? ⟨wq.heap.size, 1, none⟩ = false := by
                rw [← hwwy]; exact (own_set (by simp) (own_same (own_set (by simp) ⟨o67a, o67b⟩ _) _) _)
              obtain ⟨x78a, x78b⟩ : wy.cell? ⟨wq.heap.size, 2, none⟩ = some (.bool false) ∧ wy.frozen? ⟨wq.heap.size, 2, none⟩ = false := by
                rw [← hwwy]; exact (own_same (own_set (by simp) (own_set (by simp) ⟨o68a, o68b⟩ _) _) _)
              have Bwy : Below w.heap.size w wy := by
                rw [← hwwy]
                (repeat (with_reducible (first | assumption | exact Below.refl _ _ | refine Below.drew ?_ | refine below_drewN ?_ _ | refine below_set ?_ (by simp; try omega) _ | refine below_alloc ?_ (Nat.le_refl _) _ | refine below_sub (by assumption) ?_)))
              clear f61 zf61 f62 f63 zf63 f64 f65 o66a o66b zo66 o67a o67b o68a o68b
              clear hwwy
              refine (step_any (some ⟨b, o, none⟩) l cap len k x.n false x.bx x.b_y _ h2 (hide (pathAt_below (show Below w.heap.size w _ by (repeat (with_reducible (first | assumption | exact Below.refl _ _ | refine Below.drew ?_ | refine below_drewN ?_ _ | refine below_set ?_ (by simp; try omega) _ | refine below_alloc ?_ (Nat.le_refl _) _ | refine below_sub (by assumption) ?_)))) hp.out)) ((k : Int), x.n, true, [x.n]) G1.out).mono ?_
              rintro e w8 ⟨S1, cp1, rfl, hi1, hn1, hb8⟩
              have hn2 : Hid (∀ a, S1 = some a → wq.heap.size < a.block) := hide (fun a ha => Nat.lt_of_lt_of_le (by first | assumption | omega | (simp; omega)) (hn1.out a ha))
              obtain ⟨f79, f80, f81, f82, f83⟩ : w8.cell? ⟨w.heap.size, 0, none⟩ = some (.slice (some ⟨b, o, none⟩) l.length cap) ∧ w8.cell? ⟨w.heap.size, 1, none⟩ = some (.int .i64 len) ∧ w8.cell? ⟨wr.heap.size, 3, none⟩ = some (.int .i64 x.bx) ∧ w8.cell? ⟨wr.heap.size, 4, none⟩ = some (.int .i64 x.b_y) ∧ w8.cell? ⟨wr.heap.size, 11, none⟩ = some (.int .i64 x.n) := by
                refine ⟨?_, ?_, ?_, ?_, ?_⟩ <;> (refine cell_below hb8 ?_; repeat (first | (with_reducible assumption) | ((with_reducible refine cell_set ?_ ?_ _); (· first | (simp; done) | (simp; omega) | omega)) | ((with_reducible refine cell_new ?_ ?_); (· (simp; done)); (· rfl)) | (with_reducible refine cell_alloc ?_ _) | (with_reducible refine cell_drew ?_) | (with_reducible refine cell_drewN ?_ _) | (with_reducible refine cell_below (by assumption) ?_)))
              have zf79 : w.heap.size < w8.heap.size := World.block_lt_of_cell? _ _ f79
              have zf81 : wr.heap.size < w8.heap.size := World.block_lt_of_cell? _ _ f81
              obtain ⟨⟨o84a, o84b⟩, ⟨o85a, o85b⟩, ⟨o86a, o86b⟩⟩ : (w8.cell? ⟨wq.heap.size, 0, none⟩ = some (.int .i64 (k : Int)) ∧ w8.frozen? ⟨wq.heap.size, 0, none⟩ = false) ∧ (w8.cell? ⟨wq.heap.size, 1, none⟩ = some (.int .i64 x.n) ∧ w8.frozen? ⟨wq.heap.size, 1, none⟩ = false) ∧ (w8.cell? ⟨wq.heap.size, 2, none⟩ = some (.bool false) ∧ w8.frozen? ⟨wq.heap.size, 2, none⟩ = false) := by
                refine ⟨?_, ?_, ?_⟩ <;> (refine own_below hb8 ?_; repeat (first | (refine ⟨?_, ?_⟩ <;> (with_reducible assumption)) | (with_reducible apply own_same) | ((with_reducible refine own_set ?_ ?_ _); (· first | (simp; done) | (simp; omega))) | ((with_reducible refine own_new ?_ ?_); (· (simp; done)); (· rfl)) | (with_reducible refine own_alloc ?_ _) | (with_reducible refine own_drew ?_) | (with_reducible refine own_drewN ?_ _) | (with_reducible refine own_below (by assumption) ?_)))
              have zo84 : wq.heap.size < w8.heap.size := World.block_lt_of_cell? _ _ o84a
              clear x71 zzx71 x72 x73 zzx73 x74 x75 x76a x76b zzx76a x77a x77b x78a x78b
              go_wp2_with fail
              have hiz : Hid (intsAt ((((w8.setCell ⟨wq.heap.size, 0, none⟩ (.int .i64 (k : Int))).setCell ⟨wq.heap.size, 1, none⟩ (.int .i64 x.n)).setCell ⟨wq.heap.size, 2, none⟩ (.bool true))) S1 [x.n]) := hide (intsAt_set3b hn2.out hi1.out)
              generalize hwwz : (((w8.setCell ⟨wq.heap.size, 0, none⟩ (.int .i64 (k : Int))).setCell ⟨wq.heap.size, 1, none⟩ (.int .i64 x.n)).setCell ⟨wq.heap.size, 2, none⟩ (.bool true)) = wz
              have ne87 : wq.heap.size ≠ w.heap.size := by omega
              have ne88 : wq.heap.size ≠ wr.heap.size := by omega
              have x89 : wz.cell? ⟨w.heap.size, 0, none⟩ = some (.slice (some ⟨b, o, none⟩) l.length cap) := by
                rw [← hwwz]; exact (cell_set ne87 (cell_set ne87 (cell_set ne87 f79 _) _) _)
              have zzx89 : w.heap.size < wz.heap.size := World.block_lt_of_cell? _ _ x89
              have x90 : wz.cell? ⟨w.heap.size, 1, none⟩ = some (.int .i64 len) := by
                rw [← hwwz]; exact (cell_set ne87 (cell_set ne87 (cell_set ne87 f80 _) _) _)
              have x91 : wz.cell? ⟨wr.heap.size, 3, none⟩ = some (.int .i64 x.bx) := by
                rw [← hwwz]; exact (cell_set ne88 (cell_set ne88 (cell_set ne88 f81 _) _) _)
              have zzx91 : wr.heap.size < wz.heap.size := World.block_lt_of_cell? _ _ x91
              have x92 : wz.cell? ⟨wr.heap.size, 4, none⟩ = some (.int .i64 x.b_y) := by
                rw [← hwwz]; exact (cell_set ne88 (cell_set ne88 (cell_set ne88 f82 _) _) _)
              have x93 : wz.cell? ⟨wr.heap.size, 11, none⟩ = some (.int .i64 x.n) := by
                rw [← hwwz]; exact (cell_set ne88 (cell_set ne88 (cell_set ne88 f83 _) _) _)
              obtain ⟨x94a, x94b⟩ : wz.cell? ⟨wq.heap.size, 0, none⟩ = some (.int .i64 (k : Int)) ∧ wz.frozen? ⟨wq.heap.size, 0, none⟩ = false := by
                rw [← hwwz]; exact (own_set (by simp) (own_set (by simp) (own_same ⟨o84a, o84b⟩ _) _) _)
              have zzx94a : wq.heap.size < wz.heap.size := World.block_lt_of_cell? _ _ x94a
              obtain ⟨x95a, x95b⟩ : wz.cell? ⟨wq.heap.size, 1, none⟩ = some (.int .i64 x.n) ∧ wz.frozen? ⟨wq.heap.size, 1, none⟩ = false := by
                rw [← hwwz]; exact (own_set (by simp) (own_same (own_set (by simp) ⟨o85a, o85b⟩ _) _) _)
              obtain ⟨x96a, x96b⟩ : wz.cell? ⟨wq.heap.size, 2, none⟩ = some (.bool true) ∧ wz.frozen? ⟨wq.heap.size, 2, none⟩ = false := by
                rw [← hwwz]; exact (own_same (own_set (by simp) (own_set (by simp) ⟨o86a, o86b⟩ _) _) _)
              have Bwz : Below w.heap.size w wz := by
                rw [← hwwz]
                (repeat (with_reducible (first | assumption | exact Below.refl _ _ | refine Below.drew ?_ | refine below_drewN ?_ _ | refine below_set ?_ (by simp; try omega) _ | refine below_alloc ?_ (Nat.le_refl _) _ | refine below_sub (by assumption) ?_)))
              clear f79 zf79 f80 f81 zf81 f82 f83 o84a o84b zo84 o85a o85b o86a o86b
              rw [hwwz] at hiz
              clear hwwz
              skip
              go_wp2_with fail
              go_quiet (fail)
              go_wp2_with fail
              refine (same_eq S1 (some ⟨wz.heap.size, 0, none⟩) cp1 1 [x.n] _ (by simp) (hide (intsAt_below (show Below wz.heap.size wz _ by (repeat (with_reducible (first | assumption | exact Below.refl _ _ | refine Below.drew ?_ | refine below_drewN ?_ _ | refine below_set ?_ (by simp; try omega) _ | refine below_alloc ?_ (Nat.le_refl _) _ | refine below_sub (by assumption) ?_)))) hiz.out)) (hide (intsAt_one (by (repeat (first | (with_reducible assumption) | ((with_reducible refine cell_set ?_ ?_ _); (· first | (simp; done) | (simp; omega) | omega)) | ((with_reducible refine cell_new ?_ ?_); (· (simp; done)); (· rfl)) | (with_reducible refine cell_alloc ?_ _) | (with_reducible refine cell_drew ?_) | (with_reducible refine cell_drewN ?_ _) | (with_reducible refine cell_below (by assumption) ?_))))))).mono ?_
              rintro e w9 ⟨rfl, hb9⟩
              obtain ⟨f97, f98, f99, f100, f101⟩ : w9.cell? ⟨w.heap.size, 0, none⟩ = some (.slice (some ⟨b, o, none⟩) l.length cap) ∧ w9.cell? ⟨w.heap.size, 1, none⟩ = some (.int .i64 len) ∧ w9.cell? ⟨wr.heap.size, 3, none⟩ = some (.int .i64 x.bx) ∧ w9.cell? ⟨wr.heap.size, 4, none⟩ = some (.int .i64 x.b_y) ∧ w9.cell? ⟨wr.heap.size, 11, none⟩ = some (.int .i64 x.n) := by
                refine ⟨?_, ?_, ?_, ?_, ?_⟩ <;> (refine cell_below hb9 ?_; repeat (first | (with_reducible assumption) | ((with_reducible refine cell_set ?_ ?_ _); (· first | (simp; done) | (simp; omega) | omega)) | ((with_reducible refine cell_new ?_ ?_); (· (simp; done)); (· rfl)) | (with_reducible refine cell_alloc ?_ _) | (with_reducible refine cell_drew ?_) | (with_reducible refine cell_drewN ?_ _) | (with_reducible refine cell_below (by assumption) ?_)))
              have zf97 : w.heap.size < w9.heap.size := World.block_lt_of_cell? _ _ f97
              have zf99 : wr.heap.size < w9.heap.size := World.block_lt_of_cell? _ _ f99
              obtain ⟨⟨o102a, o102b⟩, ⟨o103a, o103b⟩, ⟨o104a, o104b⟩⟩ : (w9.cell? ⟨wq.heap.size, 0, none⟩ = some (.int .i64 (k : Int)) ∧ w9.frozen? ⟨wq.heap.size, 0, none⟩ = false) ∧ (w9.cell? ⟨wq.heap.size, 1, none⟩ = some (.int .i64 x.n) ∧ w9.frozen? ⟨wq.heap.size, 1, none⟩ = false) ∧ (w9.cell? ⟨wq.heap.size, 2, none⟩ = some (.bool true) ∧ w9.frozen? ⟨wq.heap.size, 2, none⟩ = false) := by
                refine ⟨?_, ?_, ?_⟩ <;> (refine own_below hb9 ?_; repeat (first | (refine ⟨?_, ?_⟩ <;> (with_reducible assumption)) | (with_reducible apply own_same) | ((with_reducible refine own_set ?_ ?_ _); (· first | (simp; done) | (simp; omega))) | ((with_reducible refine own_new ?_ ?_); (· (simp; done)); (· rfl)) | (with_reducible refine own_alloc ?_ _) | (with_reducible refine own_drew ?_) | (with_reducible refine own_drewN ?_ _) | (with_reducible refine own_below (by assumption) ?_)))
              have zo102 : wq.heap.size < w9.heap.size := World.block_lt_of_cell? _ _ o102a
              clear x89 zzx89 x90 x91 zzx91 x92 x93 x94a x94b zzx94a x95a x95b x96a x96b
              go_wp2_with fail
              go_roundw
              case rel => exact ⟨k + 1, (k : Int), x.n, true, by omega, by go_num, hide (fun z hz _ hg => by rw [hy] at hz; cases hz), by (repeat (first | (with_reducible assumption) | ((with_reducible refine cell_set ?_ ?_ _); (· first | (simp; done) | (simp; omega) | omega)) | ((with_reducible refine cell_new ?_ ?_); (· (simp; done)); (· rfl)) | (with_reducible refine cell_alloc ?_ _) | (with_reducible refine cell_drew ?_) | (with_reducible refine cell_drewN ?_ _) | (with_reducible refine cell_below (by assumption) ?_))), by (repeat (first | (with_reducible assumption) | ((with_reducible refine cell_set ?_ ?_ _); (· first | (simp; done) | (simp; omega) | omega)) | ((with_reducible refine cell_new ?_ ?_); (· (simp; done)); (· rfl)) | (with_reducible refine cell_alloc ?_ _) | (with_reducible refine cell_drew ?_) | (with_reducible refine cell_drewN ?_ _) | (with_reducible refine cell_below (by assumption) ?_))), by (repeat (first | (refine ⟨?_, ?_⟩ <;> (with_reducible assumption)) | (with_reducible apply own_same) | ((with_reducible refine own_set ?_ ?_ _); (· first | (simp; done) | (simp; omega))) | ((with_reducible refine own_new ?_ ?_); (· (simp; done)); (· rfl)) | (with_reducible refine own_alloc ?_ _) | (with_reducible refine own_drew ?_) | (with_reducible refine own_drewN ?_ _) | (with_reducible refine own_below (by assumption) ?_))), by (repeat (first | (refine ⟨?_, ?_⟩ <;> (with_reducible assumption)) | (with_reducible apply own_same) | ((with_reducible refine own_set ?_ ?_ _); (· first | (simp; done) | (simp; omega))) | ((with_reducible refine own_new ?_ ?_); (· (simp; done)); (· rfl)) | (with_reducible refine own_alloc ?_ _) | (with_reducible refine own_drew ?_) | (with_reducible refine own_drewN ?_ _) | (with_reducible refine own_below (by assumption) ?_))), by (repeat (first | (refine ⟨?_, ?_⟩ <;> (with_reducible assumption)) | (with_reducible apply own_same) | ((with_reducible refine own_set ?_ ?_ _); (· first | (simp; done) | (simp; omega))) | ((with_reducible refine own_new ?_ ?_); (· (simp; done)); (· rfl)) | (with_reducible refine own_alloc ?_ _) | (with_reducible refine own_drew ?_) | (with_reducible refine own_drewN ?_ _) | (with_reducible refine own_below (by assumption) ?_))), by (repeat (with_reducible (first | assumption | exact Below.refl _ _ | refine Below.drew ?_ | refine below_drewN ?_ _ | refine below_set ?_ (by simp; try omega) _ | refine below_alloc ?_ (Nat.le_refl _) _ | refine below_sub (by assumption) ?_)))⟩
              case measure => simp [intOf]; omega
          · have TK : ((k : Int) == 0) = false := beq_eq_false_iff_ne.2 (by omega)
            have TK2 : (k == 0) = false := beq_eq_false_iff_ne.2 (by omega)
            obtain ⟨rfl, rfl, rfl⟩ := GG.out hk0 hxg
            rcases Nat.lt_or_ge (k + 1) l.length with hk2 | hk2
            · obtain ⟨y, hy⟩ : ∃ y, l[k + 1]? = some y := ⟨_, List.getElem?_eq_getElem hk2⟩
              have hyt := pathAt_get (pathAt_below K hp.out) hy
              have d11 : wr.cell? ⟨b, o + (k + 1) * 13 + 11, none⟩ = some (.int .i64 y.n) := hyt.2.2.2.2.2.2.2.2.2.2.2.1
              have d12 : wr.cell? ⟨b, o + (k + 1) * 13 + 12, none⟩ = some (.bool y.g) := hyt.2.2.2.2.2.2.2.2.2.2.2.2
              clear hyt
              have TL : ((k : Int) + 1 == (l.length : Int)) = false := beq_eq_false_iff_ne.2 (by omega)
              have u1 : (k : Int) + 1 < (l.length : Int) := by omega
              rcases hyg : y.g with _ | _
              · rw [hyg] at d12
                by_cases hn : y.n = x.n
                · have TN : (x.n != x.n) = false := by simp
                  have G1 : Hid (((k : Int) + 1, x.n, false, ([] : List Int)) = stepR l len k x.n false x.bx x.b_y) := hide (by rw [ST.out _ x.n (SS.out.2 y hy hyg), if_pos hn, hn]; rfl)
                  have HN := hide hn
                  rw [hn] at d11
                  clear hn
                  go_wp2_with fail
                  refine (step_any (some ⟨b, o, none⟩) l cap len k x.n false x.bx x.b_y _ h2 (hide (pathAt_below (show Below w.heap.size w _ by (repeat (with_reducible (first | assumption | exact Below.refl _ _ | refine Below.drew ?_ | refine below_drewN ?_ _ | refine below_set ?_ (by simp; try omega) _ | refine below_alloc ?_ (Nat.le_refl _) _ | refine below_sub (by assumption) ?_)))) hp.out)) (((k : Int) + 1), x.n, false, ([] : List Int)) G1.out).mono ?_
                  rintro e w7 ⟨S1, cp1, rfl, hi1, hn1, hb7⟩
                  have hn2 : Hid (∀ a, S1 = some a → wq.heap.size < a.block) := hide (fun a ha => Nat.lt_of_lt_of_le (by first | assumption | omega | (simp; omega)) (hn1.out a ha))
                  obtain ⟨f61, f62, f63, f64, f65, f66, f67⟩ : w7.cell? ⟨w.heap.size, 0, none⟩ = some (.slice (some ⟨b, o, none⟩) l.length cap) ∧ w7.cell? ⟨w.heap.size, 1, none⟩ = some (.int .i64 len) ∧ w7.cell? ⟨wr.heap.size, 3, none⟩ = some (.int .i64 x.bx) ∧ w7.cell? ⟨wr.heap.size, 4, none⟩ = some (.int .i64 x.b_y) ∧ w7.cell? ⟨wr.heap.size, 11, none⟩ = some (.int .i64 x.n) ∧ w7.cell? ⟨b, o + (k + 1) * 13 + 11, none⟩ = some (.int .i64 x.n) ∧ w7.cell? ⟨b, o + (k + 1) * 13 + 12, none⟩ = some (.bool false) := by
                    refine ⟨?_, ?_, ?_, ?_, ?_, ?_, ?_⟩ <;> (refine cell_below hb7 ?_; repeat (first | (with_reducible assumption) | ((with_reducible refine cell_set ?_ ?_ _); (· first | (simp; done) | (simp; omega) | omega)) | ((with_reducible refine cell_new ?_ ?_); (· (simp; done)); (· rfl)) | (with_reducible refine cell_alloc ?_ _) | (with_reducible refine cell_drew ?_) | (with_reducible refine cell_drewN ?_ _) | (with_reducible refine cell_below (by assumption) ?_)))
                  have zf61 : w.heap.size < w7.heap.size := World.block_lt_of_cell? _ _ f61
                  have zf63 : wr.heap.size < w7.heap.size := World.block_lt_of_cell? _ _ f63
                  have zf66 : b < w7.heap.size := World.block_lt_of_cell? _ _ f66
                  obtain ⟨⟨o68a, o68b⟩, ⟨o69a, o69b⟩, ⟨o70a, o70b⟩⟩ : (w7.cell? ⟨wq.heap.size, 0, none⟩ = some (.int .i64 (k : Int)) ∧ w7.frozen? ⟨wq.heap.size, 0, none⟩ = false) ∧ (w7.cell? ⟨wq.heap.size, 1, none⟩ = some (.int .i64 x.n) ∧ w7.frozen? ⟨wq.heap.size, 1, none⟩ = false) ∧ (w7.cell? ⟨wq.heap.size, 2, none⟩ = some (.bool false) ∧ w7.frozen? ⟨wq.heap.size, 2, none⟩ = false) := by
                    refine ⟨?_, ?_, ?_⟩ <;> (refine own_below hb7 ?_; repeat (first | (refine ⟨?_, ?_⟩ <;> (with_reducible assumption)) | (with_reducible apply own_same) | ((with_reducible refine own_set ?_ ?_ _); (· first | (simp; done) | (simp; omega))) | ((with_reducible refine own_new ?_ ?_); (· (simp; done)); (· rfl)) | (with_reducible refine own_alloc ?_ _) | (with_reducible refine own_drew ?_) | (with_reducible refine own_drewN ?_ _) | (with_reducible refine own_below (by assumption) ?_)))
                  have zo68 : wq.heap.size < w7.heap.size := World.block_lt_of_cell? _ _ o68a
                  clear p0 p1 d11 d12 g0a g0b g1a g1b g2a g2b
                  go_wp2_with fail
                  have hiz : Hid (intsAt ((((w7.setCell ⟨wq.heap.size, 0, none⟩ (.int .i64 ((k : Int) + 1))).setCell ⟨wq.heap.size, 1, none⟩ (.int .i64 x.n)).setCell ⟨wq.heap.size, 2, none⟩ (.bool false))) S1 ([] : List Int)) := hide (intsAt_set3b hn2.out hi1.out)
                  generalize hwwz : (((w7.setCell ⟨wq.heap.size, 0, none⟩ (.int .i64 ((k : Int) + 1))).setCell ⟨wq.heap.size, 1, none⟩ (.int .i64 x.n)).setCell ⟨wq.heap.size, 2, none⟩ (.bool false)) = wz
                  have ne71 : wq.heap.size ≠ w.heap.size := by omega
                  have ne72 : wq.heap.size ≠ wr.heap.size := by omega
                  have ne73 : wq.heap.size ≠ b := by omega
                  have x74 : wz.cell? ⟨w.heap.size, 0, none⟩ = some (.slice (some ⟨b, o, none⟩) l.length cap) := by
                    rw [← hwwz]; exact (cell_set ne71 (cell_set ne71 (cell_set ne71 f61 _) _) _)
                  have zzx74 : w.heap.size < wz.heap.size := World.block_lt_of_cell? _ _ x74
                  have x75 : wz.cell? ⟨w.heap.size, 1, none⟩ = some (.int .i64 len) := by
                    rw [← hwwz]; exact (cell_set ne71 (cell_set ne71 (cell_set ne71 f62 _) _) _)
                  have x76 : wz.cell? ⟨wr.heap.size, 3, none⟩ = some (.int .i64 x.bx) := by
                    rw [← hwwz]; exact (cell_set ne72 (cell_set ne72 (cell_set ne72 f63 _) _) _)
                  have zzx76 : wr.heap.size < wz.heap.size := World.block_lt_of_cell? _ _ x76
                  have x77 : wz.cell? ⟨wr.heap.size, 4, none⟩ = some (.int .i64 x.b_y) := by
                    rw [← hwwz]; exact (cell_set ne72 (cell_set ne72 (cell_set ne72 f64 _) _) _)
                  have x78 : wz.cell? ⟨wr.heap.size, 11, none⟩ = some (.int .i64 x.n) := by
                    rw [← hwwz]; exact (cell_set ne72 (cell_set ne72 (cell_set ne72 f65 _) _) _)
                  have x79 : wz.cell? ⟨b, o + (k + 1) * 13 + 11, none⟩ = some (.int .i64 x.n) := by
                    rw [← hwwz]; exact (cell_set ne73 (cell_set ne73 (cell_set ne73 f66 _) _) _)
                  have zzx79 : b < wz.heap.size := World.block_lt_of_cell? _ _ x79
                  have x80 : wz.cell? ⟨b, o + (k + 1) * 13 + 12, none⟩ = some (.bool false) := by
                    rw [← hwwz]; exact (cell_set ne73 (cell_set ne73 (cell_set ne73 f67 _) _) _)
                  obtain ⟨x81a, x81b⟩ : wz.cell? ⟨wq.heap.size, 0, none⟩ = some (.int .i64 ((k : Int) + 1)) ∧ wz.frozen? ⟨wq.heap.size, 0, none⟩ = false := by
                    rw [← hwwz]; exact (own_set (by simp) (own_set (by simp) (own_same ⟨o68a, o68b⟩ _) _) _)
                  have zzx81a : wq.heap.size < wz.heap.size := World.block_lt_of_cell? _ _ x81a
                  obtain ⟨x82a, x82b⟩ : wz.cell? ⟨wq.heap.size, 1, none⟩ = some (.int .i64 x.n) ∧ wz.frozen? ⟨wq.heap.size, 1, none⟩ = false := by
                    rw [← hwwz]; exact (own_set (by simp) (own_same (own_set (by simp) ⟨o69a, o69b⟩ _) _) _)
                  obtain ⟨x83a, x83b⟩ : wz.cell? ⟨wq.heap.size, 2, none⟩ = some (.bool false) ∧ wz.frozen? ⟨wq.heap.size, 2, none⟩ = false := by
                    rw [← hwwz]; exact (own_same (own_set (by simp) (own_set (by simp) ⟨o70a, o70b⟩ _) _) _)
                  have Bwz : Below w.heap.size w wz := by
                    rw [← hwwz]
                    (repeat (with_reducible (first | assumption | exact Below.refl _ _ | refine Below.drew ?_ | refine below_drewN ?_ _ | refine below_set ?_ (by simp; try omega) _ | refine below_alloc ?_ (Nat.le_refl _) _ | refine below_sub (by assumption) ?_)))
                  clear f61 zf61 f62 f63 zf63 f64 f65 f66 zf66 f67 o68a o68b zo68 o69a o69b o70a o70b
                  rw [hwwz] at hiz
                  clear hwwz
                  skip
                  go_wp2_with fail
                  go_quiet (fail)
                  go_wp2_with fail
                  go_roundw
                  case rel => exact ⟨k + 1, ((k : Int) + 1), x.n, false, by omega, by go_num, hide (fun z hz _ hg => by rw [hy] at hz; injection hz with hz; subst hz; exact ⟨rfl, HN.out.symm, rfl⟩), by (repeat (first | (with_reducible assumption) | ((with_reducible refine cell_set ?_ ?_ _); (· first | (simp; done) | (simp; omega) | omega)) | ((with_reducible refine cell_new ?_ ?_); (· (simp; done)); (· rfl)) | (with_reducible refine cell_alloc ?_ _) | (with_reducible refine cell_drew ?_) | (with_reducible refine cell_drewN ?_ _) | (with_reducible refine cell_below (by assumption) ?_))), by (repeat (first | (with_reducible assumption) | ((with_reducible refine cell_set ?_ ?_ _); (· first | (simp; done) | (simp; omega) | omega)) | ((with_reducible refine cell_new ?_ ?_); (· (simp; done)); (· rfl)) | (with_reducible refine cell_alloc ?_ _) | (with_reducible refine cell_drew ?_) | (with_reducible refine cell_drewN ?_ _) | (with_reducible refine cell_below (by assumption) ?_))), by (repeat (first | (refine ⟨?_, ?_⟩ <;> (with_reducible assumption)) | (with_reducible apply own_same) | ((with_reducible refine own_set ?_ ?_ _); (· first | (simp; done) | (simp; omega))) | ((with_reducible refine own_new ?_ ?_); (· (simp; done)); (· rfl)) | (with_reducible refine own_alloc ?_ _) | (with_reducible refine own_drew ?_) | (with_reducible refine own_drewN ?_ _) | (with_reducible refine own_below (by assumption) ?_))), by (repeat (first | (refine ⟨?_, ?_⟩ <;> (with_reducible assumption)) | (with_reducible apply own_same) | ((with_reducible refine own_set ?_ ?_ _); (· first | (simp; done) | (simp; omega))) | ((with_reducible refine own_new ?_ ?_); (· (simp; done)); (· rfl)) | (with_reducible refine own_alloc ?_ _) | (with_reducible refine own_drew ?_) | (with_reducible refine own_drewN ?_ _) | (with_reducible refine own_below (by assumption) ?_))), by (repeat (first | (refine ⟨?_, ?_⟩ <;> (with_reducible assumption)) | (with_reducible apply own_same) | ((with_reducible refine own_set ?_ ?_ _); (· first | (simp; done) | (simp; omega))) | ((with_reducible refine own_new ?_ ?_); (· (simp; done)); (· rfl)) | (with_reducible refine own_alloc ?_ _) | (with_reducible refine own_drew ?_) | (with_reducible refine own_drewN ?_ _) | (with_reducible refine own_below (by assumption) ?_))), by (repeat (with_reducible (first | assumption | exact Below.refl _ _ | refine Below.drew ?_ | refine below_drewN ?_ _ | refine below_set ?_ (by simp; try omega) _ | refine below_alloc ?_ (Nat.le_refl _) _ | refine below_sub (by assumption) ?_)))⟩
                  case measure => simp [intOf]; omega
                · have TN : (y.n != x.n) = true := bne_iff_ne.2 hn
                  have G1 : Hid (((k : Int) + 1, y.n, false, [x.n]) = stepR l len k x.n false x.bx x.b_y) := hide (by rw [ST.out _ x.n (SS.out.2 y hy hyg), if_neg hn]; rfl)
                  go_wp2_with fail
                  refine (step_any (some ⟨b, o, none⟩) l cap len k x.n false x.bx x.b_y _ h2 (hide (pathAt_below (show Below w.heap.size w _ by (repeat (with_reducible (first | assumption | exact Below.refl _ _ | refine Below.drew ?_ | refine below_drewN ?_ _ | refine below_set ?_ (by simp; try omega) _ | refine below_alloc ?_ (Nat.le_refl _) _ | refine below_sub (by assumption) ?_)))) hp.out)) (((k : Int) + 1), y.n, false, [x.n]) G1.out).mono ?_
                  rintro e w7 ⟨S1, cp1, rfl, hi1, hn1, hb7⟩
                  have hn2 : Hid (∀ a, S1 = some a → wq.heap.size < a.block) := hide (fun a ha => Nat.lt_of_lt_of_le (by first | assumption | omega | (simp; omega)) (hn1.out a ha))
                  obtain ⟨f61, f62, f63, f64, f65, f66, f67⟩ : w7.cell? ⟨w.heap.size, 0, none⟩ = some (.slice (some ⟨b, o, none⟩) l.length cap) ∧ w7.cell? ⟨w.heap.size, 1, none⟩ = some (.int .i64 len) ∧ w7.cell? ⟨wr.heap.size, 3, none⟩ = some (.int .i64 x.bx) ∧ w7.cell? ⟨wr.heap.size, 4, none⟩ = some (.int .i64 x.b_y) ∧ w7.cell? ⟨wr.heap.size, 11, none⟩ = some (.int .i64 x.n) ∧ w7.cell? ⟨b, o + (k + 1) * 13 + 11, none⟩ = some (.int .i64 y.n) ∧ w7.cell? ⟨b, o + (k + 1) * 13 + 12, none⟩ = some (.bool false) := by
                    refine ⟨?_, ?_, ?_, ?_, ?_, ?_, ?_⟩ <;> (refine cell_below hb7 ?_; repeat (first | (with_reducible assumption) | ((with_reducible refine cell_set ?_ ?_ _); (· first | (simp; done) | (simp; omega) | omega)) | ((with_reducible refine cell_new ?_ ?_); (· (simp; done)); (· rfl)) | (with_reducible refine cell_alloc ?_ _) | (with_reducible refine cell_drew ?_) | (with_reducible refine cell_drewN ?_ _) | (with_reducible refine cell_below (by assumption) ?_)))
                  have zf61 : w.heap.size < w7.heap.size := World.block_lt_of_cell? _ _ f61
                  have zf63 : wr.heap.size < w7.heap.size := World.block_lt_of_cell? _ _ f63
                  have zf66 : b < w7.heap.size := World.block_lt_of_cell? _ _ f66
                  obtain ⟨⟨o68a, o68b⟩, ⟨o69a, o69b⟩, ⟨o70a, o70b⟩⟩ : (w7.cell? ⟨wq.heap.size, 0, none⟩ = some (.int .i64 (k : Int)) ∧ w7.frozen? ⟨wq.heap.size, 0, none⟩ = false) ∧ (w7.cell? ⟨wq.heap.size, 1, none⟩ = some (.int .i64 x.n) ∧ w7.frozen? ⟨wq.heap.size, 1, none⟩ = false) ∧ (w7.cell? ⟨wq.heap.size, 2, none⟩ = some (.bool false) ∧ w7.frozen? ⟨wq.heap.size, 2, none⟩ = false) := by
                    refine ⟨?_, ?_, ?_⟩ <;> (refine own_below hb7 ?_; repeat (first | (refine ⟨?_, ?_⟩ <;> (with_reducible assumption)) | (with_reducible apply own_same) | ((with_reducible refine own_set ?_ ?_ _); (· first | (simp; done) | (simp; omega))) | ((with_reducible refine own_new ?_ ?_); (· (simp; done)); (· rfl)) | (with_reducible refine own_alloc ?_ _) | (with_reducible refine own_drew ?_) | (with_reducible refine own_drewN ?_ _) | (with_reducible refine own_below (by assumption) ?_)))
                  have zo68 : wq.heap.size < w7.heap.size := World.block_lt_of_cell? _ _ o68a
                  clear p0 p1 d11 d12 g0a g0b g1a g1b g2a g2b
                  go_wp2_with fail
                  have hiz : Hid (intsAt ((((w7.setCell ⟨wq.heap.size, 0, none⟩ (.int .i64 ((k : Int) + 1))).setCell ⟨wq.heap.size, 1, none⟩ (.int .i64 y.n)).setCell ⟨wq.heap.size, 2, none⟩ (.bool false))) S1 [x.n]) := hide (intsAt_set3b hn2.out hi1.out)
                  generalize hwwz : (((w7.setCell ⟨wq.heap.size, 0, none⟩ (.int .i64 ((k : Int) + 1))).setCell ⟨wq.heap.size, 1, none⟩ (.int .i64 y.n)).setCell ⟨wq.heap.size, 2, none⟩ (.bool false)) = wz
                  have ne71 : wq.heap.size ≠ w.heap.size := by omega
                  have ne72 : wq.heap.size ≠ wr.heap.size := by omega
                  have ne73 : wq.heap.size ≠ b := by omega
                  have x74 : wz.cell? ⟨w.heap.size, 0, none⟩ = some (.slice (some ⟨b, o, none⟩) l.length cap) := by
                    rw [← hwwz]; exact (cell_set ne71 (cell_set ne71 (cell_set ne71 f61 _) _) _)
                  have zzx74 : w.heap.size < wz.heap.size := World.block_lt_of_cell? _ _ x74
                  have x75 : wz.cell? ⟨w.heap.size, 1, none⟩ = some (.int .i64 len) := by
                    rw [← hwwz]; exact (cell_set ne71 (cell_set ne71 (cell_set ne71 f62 _) _) _)
                  have x76 : wz.cell? ⟨wr.heap.size, 3, none⟩ = some (.int .i64 x.bx) := by
                    rw [← hwwz]; exact (cell_set ne72 (cell_set ne72 (cell_set ne72 f63 _) _) _)
                  have zzx76 : wr.heap.size < wz.heap.size := World.block_lt_of_cell? _ _ x76
                  have x77 : wz.cell? ⟨wr.heap.size, 4, none⟩ = some (.int .i64 x.b_y) := by
                    rw [← hwwz]; exact (cell_set ne72 (cell_set ne72 (cell_set ne72 f64 _) _) _)
                  have x78 : wz.cell? ⟨wr.heap.size, 11, none⟩ = some (.int .i64 x.n) := by
                    rw [← hwwz]; exact (cell_set ne72 (cell_set ne72 (cell_set ne72 f65 _) _) _)
                  have x79 : wz.cell? ⟨b, o + (k + 1) * 13 + 11, none⟩ = some (.int .i64 y.n) := by
                    rw [← hwwz]; exact (cell_set ne73 (cell_set ne73 (cell_set ne73 f66 _) _) _)
                  have zzx79 : b < wz.heap.size := World.block_lt_of_cell? _ _ x79
                  have x80 : wz.cell? ⟨b, o + (k + 1) * 13 + 12, none⟩ = some (.bool false) := by
                    rw [← hwwz]; exact (cell_set ne73 (cell_set ne73 (cell_set ne73 f67 _) _) _)
                  obtain ⟨x81a, x81b⟩ : wz.cell? ⟨wq.heap.size, 0, none⟩ = some (.int .i64 ((k : Int) + 1)) ∧ wz.frozen? ⟨wq.heap.size, 0, none⟩ = false := by
                    rw [← hwwz]; exact (own_set (by simp) (own_set (by simp) (own_same ⟨o68a, o68b⟩ _) _) _)
                  have zzx81a : wq.heap.size < wz.heap.size := World.block_lt_of_cell? _ _ x81a
                  obtain ⟨x82a, x82b⟩ : wz.cell? ⟨wq.heap.size, 1, none⟩ = some (.int .i64 y.n) ∧ wz.frozen? ⟨wq.heap.size, 1, none⟩ = false := by
                    rw [← hwwz]; exact (own_set (by simp) (own_same (own_set (by simp) ⟨o69a, o69b⟩ _) _) _)
                  obtain ⟨x83a, x83b⟩ : wz.cell? ⟨wq.heap.size, 2, none⟩ = some (.bool false) ∧ wz.frozen? ⟨wq.heap.size, 2, none⟩ = false := by
                    rw [← hwwz]; exact (own_same (own_set (by simp) (own_set (by simp) ⟨o70a, o70b⟩ _) _) _)
                  have Bwz : Below w.heap.size w wz := by
                    rw [← hwwz]
                    (repeat (with_reducible (first | assumption | exact Below.refl _ _ | refine Below.drew ?_ | refine below_drewN ?_ _ | refine below_set ?_ (by simp; try omega) _ | refine below_alloc ?_ (Nat.le_refl _) _ | refine below_sub (by assumption) ?_)))
                  clear f61 zf61 f62 f63 zf63 f64 f65 f66 zf66 f67 o68a o68b zo68 o69a o69b o70a o70b
                  rw [hwwz] at hiz
                  clear hwwz
                  skip
                  go_wp2_with fail
                  go_quiet (fail)
                  go_wp2_with fail
                  refine (same_eq S1 (some ⟨wz.heap.size, 0, none⟩) cp1 1 [x.n] _ (by simp) (hide (intsAt_below (show Below wz.heap.size wz _ by (repeat (with_reducible (first | assumption | exact Below.refl _ _ | refine Below.drew ?_ | refine below_drewN ?_ _ | refine below_set ?_ (by simp; try omega) _ | refine below_alloc ?_ (Nat.le_refl _) _ | refine below_sub (by assumption) ?_)))) hiz.out)) (hide (intsAt_one (by (repeat (first | (with_reducible assumption) | ((with_reducible refine cell_set ?_ ?_ _); (· first | (simp; done) | (simp; omega) | omega)) | ((with_reducible refine cell_new ?_ ?_); (· (simp; done)); (· rfl)) | (with_reducible refine cell_alloc ?_ _) | (with_reducible refine cell_drew ?_) | (with_reducible refine cell_drewN ?_ _) | (with_reducible refine cell_below (by assumption) ?_))))))).mono ?_
                  rintro e w8 ⟨rfl, hb8⟩
                  obtain ⟨f84, f85, f86, f87, f88, f89, f90⟩ : w8.cell? ⟨w.heap.size, 0, none⟩ = some (.slice (some ⟨b, o, none⟩) l.length cap) ∧ w8.cell? ⟨w.heap.size, 1, none⟩ = some (.int .i64 len) ∧ w8.cell? ⟨wr.heap.size, 3, none⟩ = some (.int .i64 x.bx) ∧ w8.cell? ⟨wr.heap.size, 4, none⟩ = some (.int .i64 x.b_y) ∧ w8.cell? ⟨wr.heap.size, 11, none⟩ = some (.int .i64 x.n) ∧ w8.cell? ⟨b, o + (k + 1) * 13 + 11, none⟩ = some (.int .i64 y.n) ∧ w8.cell? ⟨b, o + (k + 1) * 13 + 12, none⟩ = some (.bool false) := by
                    refine ⟨?_, ?_, ?_, ?_, ?_, ?_, ?_⟩ <;> (refine cell_below hb8 ?_; repeat (first | (with_reducible assumption) | ((with_reducible refine cell_set ?_ ?_ _); (· first | (simp; done) | (simp; omega) | omega)) | ((with_reducible refine cell_new ?_ ?_); (· (simp; done)); (· rfl)) | (with_reducible refine cell_alloc ?_ _) | (with_reducible refine cell_drew ?_) | (with_reducible refine cell_drewN ?_ _) | (with_reducible refine cell_below (by assumption) ?_)))
                  have zf84 : w.heap.size < w8.heap.size := World.block_lt_of_cell? _ _ f84
                  have zf86 : wr.heap.size < w8.heap.size := World.block_lt_of_cell? _ _ f86
                  have zf89 : b < w8.heap.size := World.block_lt_of_cell? _ _ f89
                  obtain ⟨⟨o91a, o91b⟩, ⟨o92a, o92b⟩, ⟨o93a, o93b⟩⟩ : (w8.cell? ⟨wq.heap.size, 0, none⟩ = some (.int .i64 ((k : Int) + 1)) ∧ w8.frozen? ⟨wq.heap.size, 0, none⟩ = false) ∧ (w8.cell? ⟨wq.heap.size, 1, none⟩ = some (.int .i64 y.n) ∧ w8.frozen? ⟨wq.heap.size, 1, none⟩ = false) ∧ (w8.cell? ⟨wq.heap.size, 2, none⟩ = some (.bool false) ∧ w8.frozen? ⟨wq.heap.size, 2, none⟩ = false) := by
                    refine ⟨?_, ?_, ?_⟩ <;> (refine own_below hb8 ?_; repeat (first | (refine ⟨?_, ?_⟩ <;> (with_reducible assumption)) | (with_reducible apply own_same) | ((with_reducible refine own_set ?_ ?_ _); (· first | (simp; done) | (simp; omega))) | ((with_reducible refine own_new ?_ ?_); (· (simp; done)); (· rfl)) | (with_reducible refine own_alloc ?_ _) | (with_reducible refine own_drew ?_) | (with_reducible refine own_drewN ?_ _) | (with_reducible refine own_below (by assumption) ?_)))
                  have zo91 : wq.heap.size < w8.heap.size := World.block_lt_of_cell? _ _ o91a
                  clear x74 zzx74 x75 x76 zzx76 x77 x78 x79 zzx79 x80 x81a x81b zzx81a x82a x82b x83a x83b
                  go_wp2_with fail
                  go_roundw
                  case rel => exact ⟨k + 1, ((k : Int) + 1), y.n, false, by omega, by go_num, hide (fun z hz _ hg => by rw [hy] at hz; injection hz with hz; subst hz; exact ⟨rfl, rfl, rfl⟩), by (repeat (first | (with_reducible assumption) | ((with_reducible refine cell_set ?_ ?_ _); (· first | (simp; done) | (simp; omega) | omega)) | ((with_reducible refine cell_new ?_ ?_); (· (simp; done)); (· rfl)) | (with_reducible refine cell_alloc ?_ _) | (with_reducible refine cell_drew ?_) | (with_reducible refine cell_drewN ?_ _) | (with_reducible refine cell_below (by assumption) ?_))), by (repeat (first | (with_reducible assumption) | ((with_reducible refine cell_set ?_ ?_ _); (· first | (simp; done) | (simp; omega) | omega)) | ((with_reducible refine cell_new ?_ ?_); (· (simp; done)); (· rfl)) | (with_reducible refine cell_alloc ?_ _) | (with_reducible refine cell_drew ?_) | (with_reducible refine cell_drewN ?_ _) | (with_reducible refine cell_below (by assumption) ?_))), by (repeat (first | (refine ⟨?_, ?_⟩ <;> (with_reducible assumption)) | (with_reducible apply own_same) | ((with_reducible refine own_set ?_ ?_ _); (· first | (simp; done) | (simp; omega))) | ((with_reducible refine own_new ?_ ?_); (· (simp; done)); (· rfl)) | (with_reducible refine own_alloc ?_ _) | (with_reducible refine own_drew ?_) | (with_reducible refine own_drewN ?_ _) | (with_reducible refine own_below (by assumption) ?_))), by (repeat (first | (refine ⟨?_, ?_⟩ <;> (with_reducible assumption)) | (with_reducible apply own_same) | ((with_reducible refine own_set ?_ ?_ _); (· first | (simp; done) | (simp; omega))) | ((with_reducible refine own_new ?_ ?_); (· (simp; done)); (· rfl)) | (with_reducible refine own_alloc ?_ _) | (with_reducible refine own_drew ?_) | (with_reducible refine own_drewN ?_ _) | (with_reducible refine own_below (by assumption) ?_))), by (repeat (first | (refine ⟨?_, ?_⟩ <;> (with_reducible assumption)) | (with_reducible apply own_same) | ((with_reducible refine own_set ?_ ?_ _); (· first | (simp; done) | (simp; omega))) | ((with_reducible refine own_new ?_ ?_); (· (simp; done)); (· rfl)) | (with_reducible refine own_alloc ?_ _) | (with_reducible refine own_drew ?_) | (with_reducible refine own_drewN ?_ _) | (with_reducible refine own_below (by assumption) ?_))), by (repeat (with_reducible (first | assumption | exact Below.refl _ _ | refine Below.drew ?_ | refine below_drewN ?_ _ | refine below_set ?_ (by simp; try omega) _ | refine below_alloc ?_ (Nat.le_refl _) _ | refine below_sub (by assumption) ?_)))⟩
                  case measure => simp [intOf]; omega
              · rw [hyg] at d12
                have hl : lastB l k = true := by unfold lastB; rw [hy]; exact hyg
                have G1 : Hid (((k : Int), x.n, true, [x.n]) = stepR l len k x.n false x.bx x.b_y) := hide (by rw [ST.out _ x.n (SS.out.1 hl)])
                go_wp2_with fail
                refine (step_any (some ⟨b, o, none⟩) l cap len k x.n false x.bx x.b_y _ h2 (hide (pathAt_below (show Below w.heap.size w _ by (repeat (with_reducible (first | assumption | exact Below.refl _ _ | refine Below.drew ?_ | refine below_drewN ?_ _ | refine below_set ?_ (by simp; try omega) _ | refine below_alloc ?_ (Nat.le_refl _) _ | refine below_sub (by assumption) ?_)))) hp.out)) ((k : Int), x.n, true, [x.n]) G1.out).mono ?_
                rintro e w7 ⟨S1, cp1, rfl, hi1, hn1, hb7⟩
                have hn2 : Hid (∀ a, S1 = some a → wq.heap.size < a.block) := hide (fun a ha => Nat.lt_of_lt_of_le (by first | assumption | omega | (simp; omega)) (hn1.out a ha))
                obtain ⟨f61, f62, f63, f64, f65, f66, f67⟩ : w7.cell? ⟨w.heap.size, 0, none⟩ = some (.slice (some ⟨b, o, none⟩) l.length cap) ∧ w7.cell? ⟨w.heap.size, 1, none⟩ = some (.int .i64 len) ∧ w7.cell? ⟨wr.heap.size, 3, none⟩ = some (.int .i64 x.bx) ∧ w7.cell? ⟨wr.heap.size, 4, none⟩ = some (.int .i64 x.b_y) ∧ w7.cell? ⟨wr.heap.size, 11, none⟩ = some (.int .i64 x.n) ∧ w7.cell? ⟨b, o + (k + 1) * 13 + 11, none⟩ = some (.int .i64 y.n) ∧ w7.cell? ⟨b, o + (k + 1) * 13 + 12, none⟩ = some (.bool true) := by
                  refine ⟨?_, ?_, ?_, ?_, ?_, ?_, ?_⟩ <;> (refine cell_below hb7 ?_; repeat (first | (with_reducible assumption) | ((with_reducible refine cell_set ?_ ?_ _); (· first | (simp; done) | (simp; omega) | omega)) | ((with_reducible refine cell_new ?_ ?_); (· (simp; done)); (· rfl)) | (with_reducible refine cell_alloc ?_ _) | (with_reducible refine cell_drew ?_) | (with_reducible refine cell_drewN ?_ _) | (with_reducible refine cell_below (by assumption) ?_)))
                have zf61 : w.heap.size < w7.heap.size := World.block_lt_of_cell? _ _ f61
                have zf63 : wr.heap.size < w7.heap.size := World.block_lt_of_cell? _ _ f63
                have zf66 : b < w7.heap.size := World.block_lt_of_cell? _ _ f66
                obtain ⟨⟨o68a, o68b⟩, ⟨o69a, o69b⟩, ⟨o70a, o70b⟩⟩ : (w7.cell? ⟨wq.heap.size, 0, none⟩ = some (.int .i64 (k : Int)) ∧ w7.frozen? ⟨wq.heap.size, 0, none⟩ = false) ∧ (w7.cell? ⟨wq.heap.size, 1, none⟩ = some (.int .i64 x.n) ∧ w7.frozen? ⟨wq.heap.size, 1, none⟩ = false) ∧ (w7.cell? ⟨wq.heap.size, 2, none⟩ = some (.bool false) ∧ w7.frozen? ⟨wq.heap.size, 2, none⟩ = false) := by
                  refine ⟨?_, ?_, ?_⟩ <;> (refine own_below hb7 ?_; repeat (first | (refine ⟨?_, ?_⟩ <;> (with_reducible assumption)) | (with_reducible apply own_same) | ((with_reducible refine own_set ?_ ?_ _); (· first | (simp; done) | (simp; omega))) | ((with_reducible refine own_new ?_ ?_); (· (simp; done)); (· rfl)) | (with_reducible refine own_alloc ?_ _) | (with_reducible refine own_drew ?_) | (with_reducible refine own_drewN ?_ _) | (with_reducible refine own_below (by assumption) ?_)))
                have zo68 : wq.heap.size < w7.heap.size := World.block_lt_of_cell? _ _ o68a
                clear p0 p1 d11 d12 g0a g0b g1a g1b g2a g2b
                go_wp2_with fail
                have hiz : Hid (intsAt ((((w7.setCell ⟨wq.heap.size, 0, none⟩ (.int .i64 (k : Int))).setCell ⟨wq.heap.size, 1, none⟩ (.int .i64 x.n)).setCell ⟨wq.heap.size, 2, none⟩ (.bool true))) S1 [x.n]) := hide (intsAt_set3b hn2.out hi1.out)
                generalize hwwz : (((w7.setCell ⟨wq.heap.size, 0, none⟩ (.int .i64 (k : Int))).setCell ⟨wq.heap.size, 1, none⟩ (.int .i64 x.n)).setCell ⟨wq.heap.size, 2, none⟩ (.bool true)) = wz
                have ne71 : wq.heap.size ≠ w.heap.size := by omega
                have ne72 : wq.heap.size ≠ wr.heap.size := by omega
                have ne73 : wq.heap.size ≠ b := by omega
                have x74 : wz.cell? ⟨w.heap.size, 0, none⟩ = some (.slice (some ⟨b, o, none⟩) l.length cap) := by
                  rw [← hwwz]; exact (cell_set ne71 (cell_set ne71 (cell_set ne71 f61 _) _) _)
                have zzx74 : w.heap.size < wz.heap.size := World.block_lt_of_cell? _ _ x74
                have x75 : wz.cell? ⟨w.heap.size, 1, none⟩ = some (.int .i64 len) := by
                  rw [← hwwz]; exact (cell_set ne71 (cell_set ne71 (cell_set ne71 f62 _) _) _)
                have x76 : wz.cell? ⟨wr.heap.size, 3, none⟩ = some (.int .i64 x.bx) := by
                  rw [← hwwz]; exact (cell_set ne72 (cell_set ne72 (cell_set ne72 f63 _) _) _)
                have zzx76 : wr.heap.size < wz.heap.size := World.block_lt_of_cell? _ _ x76
                have x77 : wz.cell? ⟨wr.heap.size, 4, none⟩ = some (.int .i64 x.b_y) := by
                  rw [← hwwz]; exact (cell_set ne72 (cell_set ne72 (cell_set ne72 f64 _) _) _)
                have x78 : wz.cell? ⟨wr.heap.size, 11, none⟩ = some (.int .i64 x.n) := by
                  rw [← hwwz]; exact (cell_set ne72 (cell_set ne72 (cell_set ne72 f65 _) _) _)
                have x79 : wz.cell? ⟨b, o + (k + 1) * 13 + 11, none⟩ = some (.int .i64 y.n) := by
                  rw [← hwwz]; exact (cell_set ne73 (cell_set ne73 (cell_set ne73 f66 _) _) _)
                have zzx79 : b < wz.heap.size := World.block_lt_of_cell? _ _ x79
                have x80 : wz.cell? ⟨b, o + (k + 1) * 13 + 12, none⟩ = some (.bool true) := by
                  rw [← hwwz]; exact (cell_set ne73 (cell_set ne73 (cell_set ne73 f67 _) _) _)
                obtain ⟨x81a, x81b⟩ : wz.cell? ⟨wq.heap.size, 0, none⟩ = some (.int .i64 (k : Int)) ∧ wz.frozen? ⟨wq.heap.size, 0, none⟩ = false := by
                  rw [← hwwz]; exact (own_set (by simp) (own_set (by simp) (own_same ⟨o68a, o68b⟩ _) _) _)
                have zzx81a : wq.heap.size < wz.heap.size := World.block_lt_of_cell? _ _ x81a
                obtain ⟨x82a, x82b⟩ : wz.cell? ⟨wq.heap.size, 1, none⟩ = some (.int .i64 x.n) ∧ wz.frozen? ⟨wq.heap.size, 1, none⟩ = false := by
                  rw [← hwwz]; exact (own_set (by simp) (own_same (own_set (by simp) ⟨o69a, o69b⟩ _) _) _)
                obtain ⟨x83a, x83b⟩ : wz.cell? ⟨wq.heap.size, 2, none⟩ = some (.bool true) ∧ wz.frozen? ⟨wq.heap.size, 2, none⟩ = false := by
                  rw [← hwwz]; exact (own_same (own_set (by simp) (own_set (by simp) ⟨o70a, o70b⟩ _) _) _)
                have Bwz : Below w.heap.size w wz := by
                  rw [← hwwz]
                  (repeat (with_reducible (first | assumption | exact Below.refl _ _ | refine Below.drew ?_ | refine below_drewN ?_ _ | refine below_set ?_ (by simp; try omega) _ | refine below_alloc ?_ (Nat.le_refl _) _ | refine below_sub (by assumption) ?_)))
                clear f61 zf61 f62 f63 zf63 f64 f65 f66 zf66 f67 o68a o68b zo68 o69a o69b o70a o70b
                rw [hwwz] at hiz
                clear hwwz
                skip
                go_wp2_with fail
                go_quiet (fail)
                go_wp2_with fail
                refine (same_eq S1 (some ⟨wz.heap.size, 0, none⟩) cp1 1 [x.n] _ (by simp) (hide (intsAt_below (show Below wz.heap.size wz _ by (repeat (with_reducible (first | assumption | exact Below.refl _ _ | refine Below.drew ?_ | refine below_drewN ?_ _ | refine below_set ?_ (by simp; try omega) _ | refine below_alloc ?_ (Nat.le_refl _) _ | refine below_sub (by assumption) ?_)))) hiz.out)) (hide (intsAt_one (by (repeat (first | (with_reducible assumption) | ((with_reducible refine cell_set ?_ ?_ _); (· first | (simp; done) | (simp; omega) | omega)) | ((with_reducible refine cell_new ?_ ?_); (· (simp; done)); (· rfl)) | (with_reducible refine cell_alloc ?_ _) | (with_reducible refine cell_drew ?_) | (with_reducible refine cell_drewN ?_ _) | (with_reducible refine cell_below (by assumption) ?_))))))).mono ?_
                rintro e w8 ⟨rfl, hb8⟩
                obtain ⟨f84, f85, f86, f87, f88, f89, f90⟩ : w8.cell? ⟨w.heap.size, 0, none⟩ = some (.slice (some ⟨b, o, none⟩) l.length cap) ∧ w8.cell? ⟨w.heap.size, 1, none⟩ = some (.int .i64 len) ∧ w8.cell? ⟨wr.heap.size, 3, none⟩ = some (.int .i64 x.bx) ∧ w8.cell? ⟨wr.heap.size, 4, none⟩ = some (.int .i64 x.b_y) ∧ w8.cell? ⟨wr.heap.size, 11, none⟩ = some (.int .i64 x.n) ∧ w8.cell? ⟨b, o + (k + 1) * 13 + 11, none⟩ = some (.int .i64 y.n) ∧ w8.cell? ⟨b, o + (k + 1) * 13 + 12, none⟩ = some (.bool true) := by
                  refine ⟨?_, ?_, ?_, ?_, ?_, ?_, ?_⟩ <;> (refine cell_below hb8 ?_; repeat (first | (with_reducible assumption) | ((with_reducible refine cell_set ?_ ?_ _); (· first | (simp; done) | (simp; omega) | omega)) | ((with_reducible refine cell_new ?_ ?_); (· (simp; done)); (· rfl)) | (with_reducible refine cell_alloc ?_ _) | (with_reducible refine cell_drew ?_) | (with_reducible refine cell_drewN ?_ _) | (with_reducible refine cell_below (by assumption) ?_)))
                have zf84 : w.heap.size < w8.heap.size := World.block_lt_of_cell? _ _ f84
                have zf86 : wr.heap.size < w8.heap.size := World.block_lt_of_cell? _ _ f86
                have zf89 : b < w8.heap.size := World.block_lt_of_cell? _ _ f89
                obtain ⟨⟨o91a, o91b⟩, ⟨o92a, o92b⟩, ⟨o93a, o93b⟩⟩ : (w8.cell? ⟨wq.heap.size, 0, none⟩ = some (.int .i64 (k : Int)) ∧ w8.frozen? ⟨wq.heap.size, 0, none⟩ = false) ∧ (w8.cell? ⟨wq.heap.size, 1, none⟩ = some (.int .i64 x.n) ∧ w8.frozen? ⟨wq.heap.size, 1, none⟩ = false) ∧ (w8.cell? ⟨wq.heap.size, 2, none⟩ = some (.bool true) ∧ w8.frozen? ⟨wq.heap.size, 2, none⟩ = false) := by
                  refine ⟨?_, ?_, ?_⟩ <;> (refine own_below hb8 ?_; repeat (first | (refine ⟨?_, ?_⟩ <;> (with_reducible assumption)) | (with_reducible apply own_same) | ((with_reducible refine own_set ?_ ?_ _); (· first | (simp; done) | (simp; omega))) | ((with_reducible refine own_new ?_ ?_); (· (simp; done)); (· rfl)) | (with_reducible refine own_alloc ?_ _) | (with_reducible refine own_drew ?_) | (with_reducible refine own_drewN ?_ _) | (with_reducible refine own_below (by assumption) ?_)))
                have zo91 : wq.heap.size < w8.heap.size := World.block_lt_of_cell? _ _ o91a
                clear x74 zzx74 x75 x76 zzx76 x77 x78 x79 zzx79 x80 x81a x81b zzx81a x82a x82b x83a x83b
                go_wp2_with fail
                go_roundw
                case rel => exact ⟨k + 1, (k : Int), x.n, true, by omega, by go_num, hide (fun z hz _ hg => by rw [hy] at hz; injection hz with hz; subst hz; rw [hyg] at hg; cases hg), by (repeat (first | (with_reducible assumption) | ((with_reducible refine cell_set ?_ ?_ _); (· first | (simp; done) | (simp; omega) | omega)) | ((with_reducible refine cell_new ?_ ?_); (· (simp; done)); (· rfl)) | (with_reducible refine cell_alloc ?_ _) | (with_reducible refine cell_drew ?_) | (with_reducible refine cell_drewN ?_ _) | (with_reducible refine cell_below (by assumption) ?_))), by (repeat (first | (with_reducible assumption) | ((with_reducible refine cell_set ?_ ?_ _); (· first | (simp; done) | (simp; omega) | omega)) | ((with_reducible refine cell_new ?_ ?_); (· (simp; done)); (· rfl)) | (with_reducible refine cell_alloc ?_ _) | (with_reducible refine cell_drew ?_) | (with_reducible refine cell_drewN ?_ _) | (with_reducible refine cell_below (by assumption) ?_))), by (repeat (first | (refine ⟨?_, ?_⟩ <;> (with_reducible assumption)) | (with_reducible apply own_same) | ((with_reducible refine own_set ?_ ?_ _); (· first | (simp; done) | (simp; omega))) | ((with_reducible refine own_new ?_ ?_); (· (simp; done)); (· rfl)) | (with_reducible refine own_alloc ?_ _) | (with_reducible refine own_drew ?_) | (with_reducible refine own_drewN ?_ _) | (with_reducible refine own_below (by assumption) ?_))), by (repeat (first | (refine ⟨?_, ?_⟩ <;> (with_reducible assumption)) | (with_reducible apply own_same) | ((with_reducible refine own_set ?_ ?_ _); (· first | (simp; done) | (simp; omega))) | ((with_reducible refine own_new ?_ ?_); (· (simp; done)); (· rfl)) | (with_reducible refine own_alloc ?_ _) | (with_reducible refine own_drew ?_) | (with_reducible refine own_drewN ?_ _) | (with_reducible refine own_below (by assumption) ?_))), by (repeat (first | (refine ⟨?_, ?_⟩ <;> (with_reducible assumption)) | (with_reducible apply own_same) | ((with_reducible refine own_set ?_ ?_ _); (· first | (simp; done) | (simp; omega))) | ((with_reducible refine own_new ?_ ?_); (· (simp; done)); (· rfl)) | (with_reducible refine own_alloc ?_ _) | (with_reducible refine own_drew ?_) | (with_reducible refine own_drewN ?_ _) | (with_reducible refine own_below (by assumption) ?_))), by (repeat (with_reducible (first | assumption | exact Below.refl _ _ | refine Below.drew ?_ | refine below_drewN ?_ _ | refine below_set ?_ (by simp; try omega) _ | refine below_alloc ?_ (Nat.le_refl _) _ | refine below_sub (by assumption) ?_)))⟩
                case measure => simp [intOf]; omega
            · have TL : ((k : Int) + 1 == (l.length : Int)) = true := by rw [beq_iff_eq]; omega
              have hy : l[k + 1]? = none := List.getElem?_eq_none (by omega)
              have hl : lastB l k = true := by unfold lastB; rw [hy]
              have G1 : Hid (((k : Int), x.n, true, [x.n]) = stepR l len k x.n false x.bx x.b_y) := hide (by rw [ST.out _ x.n (SS.out.1 hl)])
              go_wp2_with fail
              refine (step_any (some ⟨b, o, none⟩) l cap len k x.n false x.bx x.b_y _ h2 (hide (pathAt_below (show Below w.heap.size w _ by (repeat (with_reducible (first | assumption | exact Below.refl _ _ | refine Below.drew ?_ | refine below_drewN ?_ _ | refine below_set ?_ (by simp; try omega) _ | refine below_alloc ?_ (Nat.le_refl _) _ | refine below_sub (by assumption) ?_)))) hp.out)) ((k : Int), x.n, true, [x.n]) G1.out).mono ?_
              rintro e w7 ⟨S1, cp1, rfl, hi1, hn1, hb7⟩
              have hn2 : Hid (∀ a, S1 = some a → wq.heap.size < a.block) := hide (fun a ha => Nat.lt_of_lt_of_le (by first | assumption | omega | (simp; omega)) (hn1.out a ha))
              obtain ⟨f61, f62, f63, f64, f65⟩ : w7.cell? ⟨w.heap.size, 0, none⟩ = some (.slice (some ⟨b, o, none⟩) l.length cap) ∧ w7.cell? ⟨w.heap.size, 1, none⟩ = some (.int .i64 len) ∧ w7.cell? ⟨wr.heap.size, 3, none⟩ = some (.int .i64 x.bx) ∧ w7.cell? ⟨wr.heap.size, 4, none⟩ = some (.int .i64 x.b_y) ∧ w7.cell? ⟨wr.heap.size, 11, none⟩ = some (.int .i64 x.n) := by
                refine ⟨?_, ?_, ?_, ?_, ?_⟩ <;> (refine cell_below hb7 ?_; repeat (first | (with_reducible assumption) | ((with_reducible refine cell_set ?_ ?_ _); (· first | (simp; done) | (simp; omega) | omega)) | ((with_reducible refine cell_new ?_ ?_); (· (simp; done)); (· rfl)) | (with_reducible refine cell_alloc ?_ _) | (with_reducible refine cell_drew ?_) | (with_reducible refine cell_drewN ?_ _) | (with_reducible refine cell_below (by assumption) ?_)))
              have zf61 : w.heap.size < w7.heap.size := World.block_lt_of_cell? _ _ f61
              have zf63 : wr.heap.size < w7.heap.size := World.block_lt_of_cell? _ _ f63
              obtain ⟨⟨o66a, o66b⟩, ⟨o67a, o67b⟩, ⟨o68a, o68b⟩⟩ : (w7.cell? ⟨wq.heap.size, 0, none⟩ = some (.int .i64 (k : Int)) ∧ w7.frozen? ⟨wq.heap.size, 0, none⟩ = false) ∧ (w7.cell? ⟨wq.heap.size, 1, none⟩ = some (.int .i64 x.n) ∧ w7.frozen? ⟨wq.heap.size, 1, none⟩ = false) ∧ (w7.cell? ⟨wq.heap.size, 2, none⟩ = some (.bool false) ∧ w7.frozen? ⟨wq.heap.size, 2, none⟩ = false) := by
                refine ⟨?_, ?_, ?_⟩ <;> (refine own_below hb7 ?_; repeat (first | (refine ⟨?_, ?_⟩ <;> (with_reducible assumption)) | (with_reducible apply own_same) | ((with_reducible refine own_set ?_ ?_ _); (· first | (simp; done) | (simp; omega))) | ((with_reducible refine own_new ?_ ?_); (· (simp; done)); (· rfl)) | (with_reducible refine own_alloc ?_ _) | (with_reducible refine own_drew ?_) | (with_reducible refine own_drewN ?_ _) | (with_reducible refine own_below (by assumption) ?_)))
              have zo66 : wq.heap.size < w7.heap.size := World.block_lt_of_cell? _ _ o66a
              clear p0 p1 g0a g0b g1a g1b g2a g2b
              go_wp2_with fail
              have hiz : Hid (intsAt ((((w7.setCell ⟨wq.heap.size, 0, none⟩ (.int .i64 (k : Int))).setCell ⟨wq.heap.size, 1, none⟩ (.int .i64 x.n)).setCell ⟨wq.heap.size, 2, none⟩ (.bool true))) S1 [x.n]) := hide (intsAt_set3b hn2.out hi1.out)
              generalize hwwz : (((w7.setCell ⟨wq.heap.size, 0, none⟩ (.int .i64 (k : Int))).setCell ⟨wq.heap.size, 1, none⟩ (.int .i64 x.n)).setCell ⟨wq.heap.size, 2, none⟩ (.bool true)) = wz
              have ne69 : wq.heap.size ≠ w.heap.size := by omega
              have ne70 : wq.heap.size ≠ wr.heap.size := by omega
              have x71 : wz.cell? ⟨w.heap.size, 0, none⟩ = some (.slice (some ⟨b, o, none⟩) l.length cap) := by
                rw [← hwwz]; exact (cell_set ne69 (cell_set ne69 (cell_set ne69 f61 _) _) _)
              have zzx71 : w.heap.size < wz.heap.size := World.block_lt_of_cell? _ _ x71
              have x72 : wz.cell? ⟨w.heap.size, 1, none⟩ = some (.int .i64 len) := by
                rw [← hwwz]; exact (cell_set ne69 (cell_set ne69 (cell_set ne69 f62 _) _) _)
              have x73 : wz.cell? ⟨wr.heap.size, 3, none⟩ = some (.int .i64 x.bx) := by
                rw [← hwwz]; exact (cell_set ne70 (cell_set ne70 (cell_set ne70 f63 _) _) _)
              have zzx73 : wr.heap.size < wz.heap.size := World.block_lt_of_cell? _ _ x73
              have x74 : wz.cell? ⟨wr.heap.size, 4, none⟩ = some (.int .i64 x.b_y) := by
                rw [← hwwz]; exact (cell_set ne70 (cell_set ne70 (cell_set ne70 f64 _) _) _)
              have x75 : wz.cell? ⟨wr.heap.size, 11, none⟩ = some (.int .i64 x.n) := by
                rw [← hwwz]; exact (cell_set ne70 (cell_set ne70 (cell_set ne70 f65 _) _) _)
              obtain ⟨x76a, x76b⟩ : wz.cell? ⟨wq.heap.size, 0, none⟩ = some (.int .i64 (k : Int)) ∧ wz.frozen? ⟨wq.heap.size, 0, none⟩ = false := by
                rw [← hwwz]; exact (own_set (by simp) (own_set (by simp) (own_same ⟨o66a, o66b⟩ _) _) _)
              have zzx76a : wq.heap.size < wz.heap.size := World.block_lt_of_cell? _ _ x76a
              obtain ⟨x77a, x77b⟩ : wz.cell? ⟨wq.heap.size, 1, none⟩ = some (.int .i64 x.n) ∧ wz.frozen? ⟨wq.heap.size, 1, none⟩ = false := by
                rw [← hwwz]; exact (own_set (by simp) (own_same (own_set (by simp) ⟨o67a, o67b⟩ _) _) _)
              obtain ⟨x78a, x78b⟩ : wz.cell? ⟨wq.heap.size, 2, none⟩ = some (.bool true) ∧ wz.frozen? ⟨wq.heap.size, 2, none⟩ = false := by
                rw [← hwwz]; exact (own_same (own_set (by simp) (own_set (by simp) ⟨o68a, o68b⟩ _) _) _)
              have Bwz : Below w.heap.size w wz := by
                rw [← hwwz]
                (repeat (with_reducible (first | assumption | exact Below.refl _ _ | refine Below.drew ?_ | refine below_drewN ?_ _ | refine below_set ?_ (by simp; try omega) _ | refine below_alloc ?_ (Nat.le_refl _) _ | refine below_sub (by assumption) ?_)))
              clear f61 zf61 f62 f63 zf63 f64 f65 o66a o66b zo66 o67a o67b o68a o68b
              rw [hwwz] at hiz
              clear hwwz
              skip
              go_wp2_with fail
              go_quiet (fail)
              go_wp2_with fail
              refine (same_eq S1 (some ⟨wz.heap.size, 0, none⟩) cp1 1 [x.n] _ (by simp) (hide (intsAt_below (show Below wz.heap.size wz _ by (repeat (with_reducible (first | assumption | exact Below.refl _ _ | refine Below.drew ?_ | refine below_drewN ?_ _ | refine below_set ?_ (by simp; try omega) _ | refine below_alloc ?_ (Nat.le_refl _) _ | refine below_sub (by assumption) ?_)))) hiz.out)) (hide (intsAt_one (by (repeat (first | (with_reducible assumption) | ((with_reducible refine cell_set ?_ ?_ _); (· first | (simp; done) | (simp; omega) | omega)) | ((with_reducible refine cell_new ?_ ?_); (· (simp; done)); (· rfl)) | (with_reducible refine cell_alloc ?_ _) | (with_reducible refine cell_drew ?_) | (with_reducible refine cell_drewN ?_ _) | (with_reducible refine cell_below (by assumption) ?_))))))).mono ?_
              rintro e w8 ⟨rfl, hb8⟩
              obtain ⟨f79, f80, f81, f82, f83⟩ : w8.cell? ⟨w.heap.size, 0, none⟩ = some (.slice (some ⟨b, o, none⟩) l.length cap) ∧ w8.cell? ⟨w.heap.size, 1, none⟩ = some (.int .i64 len) ∧ w8.cell? ⟨wr.heap.size, 3, none⟩ = some (.int .i64 x.bx) ∧ w8.cell? ⟨wr.heap.size, 4, none⟩ = some (.int .i64 x.b_y) ∧ w8.cell? ⟨wr.heap.size, 11, none⟩ = some (.int .i64 x.n) := by
                refine ⟨?_, ?_, ?_, ?_, ?_⟩ <;> (refine cell_below hb8 ?_; repeat (first | (with_reducible assumption) | ((with_reducible refine cell_set ?_ ?_ _); (· first | (simp; done) | (simp; omega) | omega)) | ((with_reducible refine cell_new ?_ ?_); (· (simp; done)); (· rfl)) | (with_reducible refine cell_alloc ?_ _) | (with_reducible refine cell_drew ?_) | (with_reducible refine cell_drewN ?_ _) | (with_reducible refine cell_below (by assumption) ?_)))
              have zf79 : w.heap.size < w8.heap.size := World.block_lt_of_cell? _ _ f79
              have zf81 : wr.heap.size < w8.heap.size := World.block_lt_of_cell? _ _ f81
              obtain ⟨⟨o84a, o84b⟩, ⟨o85a, o85b⟩, ⟨o86a, o86b⟩⟩ : (w8.cell? ⟨wq.heap.size, 0, none⟩ = some (.int .i64 (k : Int)) ∧ w8.frozen? ⟨wq.heap.size, 0, none⟩ = false) ∧ (w8.cell? ⟨wq.heap.size, 1, none⟩ = some (.int .i64 x.n) ∧ w8.frozen? ⟨wq.heap.size, 1, none⟩ = false) ∧ (w8.cell? ⟨wq.heap.size, 2, none⟩ = some (.bool true) ∧ w8.frozen? ⟨wq.heap.size, 2, none⟩ = false) := by
                refine ⟨?_, ?_, ?_⟩ <;> (refine own_below hb8 ?_; repeat (first | (refine ⟨?_, ?_⟩ <;> (with_reducible assumption)) | (with_reducible apply own_same) | ((with_reducible refine own_set ?_ ?_ _); (· first | (simp; done) | (simp; omega))) | ((with_reducible refine own_new ?_ ?_); (· (simp; done)); (· rfl)) | (with_reducible refine own_alloc ?_ _) | (with_reducible refine own_drew ?_) | (with_reducible refine own_drewN ?_ _) | (with_reducible refine own_below (by assumption) ?_)))
              have zo84 : wq.heap.size < w8.heap.size := World.block_lt_of_cell? _ _ o84a
              clear x71 zzx71 x72 x73 zzx73 x74 x75 x76a x76b zzx76a x77a x77b x78a x78b
              go_wp2_with fail
              go_roundw
              case rel => exact ⟨k + 1, (k : Int), x.n, true, by omega, by go_num, hide (fun z hz _ hg => by rw [hy] at hz; cases hz), by (repeat (first | (with_reducible assumption) | ((with_reducible refine cell_set ?_ ?_ _); (· first | (simp; done) | (simp; omega) | omega)) | ((with_reducible refine cell_new ?_ ?_); (· (simp; done)); (· rfl)) | (with_reducible refine cell_alloc ?_ _) | (with_reducible refine cell_drew ?_) | (with_reducible refine cell_drewN ?_ _) | (with_reducible refine cell_below (by assumption) ?_))), by (repeat (first | (with_reducible assumption) | ((with_reducible refine cell_set ?_ ?_ _); (· first | (simp; done) | (simp; omega) | omega)) | ((with_reducible refine cell_new ?_ ?_); (· (simp; done)); (· rfl)) | (with_reducible refine cell_alloc ?_ _) | (with_reducible refine cell_drew ?_) | (with_reducible refine cell_drewN ?_ _) | (with_reducible refine cell_below (by assumption) ?_))), by (repeat (first | (refine ⟨?_, ?_⟩ <;> (with_reducible assumption)) | (with_reducible apply own_same) | ((with_reducible refine own_set ?_ ?_ _); (· first | (simp; done) | (simp; omega))) | ((with_reducible refine own_new ?_ ?_); (· (simp; done)); (· rfl)) | (with_reducible refine own_alloc ?_ _) | (with_reducible refine own_drew ?_) | (with_reducible refine own_drewN ?_ _) | (with_reducible refine own_below (by assumption) ?_))), by (repeat (first | (refine ⟨?_, ?_⟩ <;> (with_reducible assumption)) | (with_reducible apply own_same) | ((with_reducible refine own_set ?_ ?_ _); (· first | (simp; done) | (simp; omega))) | ((with_reducible refine own_new ?_ ?_); (· (simp; done)); (· rfl)) | (with_reducible refine own_alloc ?_ _) | (with_reducible refine own_drew ?_) | (with_reducible refine own_drewN ?_ _) | (with_reducible refine own_below (by assumption) ?_))), by (repeat (first | (refine ⟨?_, ?_⟩ <;> (with_reducible assumption)) | (with_reducible apply own_same) | ((with_reducible refine own_set ?_ ?_ _); (· first | (simp; done) | (simp; omega))) | ((with_reducible refine own_new ?_ ?_); (· (simp; done)); (· rfl)) | (with_reducible refine own_alloc ?_ _) | (with_reducible refine own_drew ?_) | (with_reducible refine own_drewN ?_ _) | (with_reducible refine own_below (by assumption) ?_))), by (repeat (with_reducible (first | assumption | exact Below.refl _ _ | refine Below.drew ?_ | refine below_drewN ?_ _ | refine below_set ?_ (by simp; try omega) _ | refine below_alloc ?_ (Nat.le_refl _) _ | refine below_sub (by assumption) ?_)))⟩
              case measure => simp [intOf]; omega
        · rw [hxg] at c12
          have hk0 : 0 < k := by
            rcases Nat.eq_zero_or_pos k with h | h
            · have := F0.out h
              rw [hxg] at this
              cases this
            · exact h
          have TK : ((k : Int) == 0) = false := beq_eq_false_iff_ne.2 (by omega)
          have TK2 : (k == 0) = false := beq_eq_false_iff_ne.2 (by omega)
          rcases Nat.lt_or_ge (k + 1) l.length with hk2 | hk2
          · obtain ⟨y, hy⟩ : ∃ y, l[k + 1]? = some y := ⟨_, List.getElem?_eq_getElem hk2⟩
            have hyt := pathAt_get (pathAt_below K hp.out) hy
            have d11 : wr.cell? ⟨b, o + (k + 1) * 13 + 11, none⟩ = some (.int .i64 y.n) := hyt.2.2.2.2.2.2.2.2.2.2.2.1
            have d12 : wr.cell? ⟨b, o + (k + 1) * 13 + 12, none⟩ = some (.bool y.g) := hyt.2.2.2.2.2.2.2.2.2.2.2.2
            clear hyt
            have TL : ((k : Int) + 1 == (l.length : Int)) = false := beq_eq_false_iff_ne.2 (by omega)
            have u1 : (k : Int) + 1 < (l.length : Int) := by omega
            rcases hyg : y.g with _ | _
            · rw [hyg] at d12
              by_cases hn : y.n = x.n
              · have TN : (x.n != x.n) = false := by simp
                have G1 : Hid (((k : Int) + 1, x.n, false, ([] : List Int)) = stepR l len k x.n false x.bx x.b_y) := hide (by rw [ST.out _ x.n (SS.out.2 y hy hyg), if_pos hn, hn]; rfl)
                have HN := hide hn
                rw [hn] at d11
                clear hn
                go_wp2_with fail
                refine (start_any (some ⟨b, o, none⟩) l cap len k _ h2 (hide (pathAt_below (show Below w.heap.size w _ by (repeat (with_reducible (first | assumption | exact Below.refl _ _ | refine Below.drew ?_ | refine below_drewN ?_ _ | refine below_set ?_ (by simp; try omega) _ | refine below_alloc ?_ (Nat.le_refl _) _ | refine below_sub (by assumption) ?_)))) hp.out)) ((k : Int), x.n, (0 : Int)) SF.out).mono ?_
                rintro e w7 ⟨rfl, hb7⟩
                obtain ⟨f61, f62, f63, f64, f65, f66, f67⟩ : w7.cell? ⟨w.heap.size, 0, none⟩ = some (.slice (some ⟨b, o, none⟩) l.length cap) ∧ w7.cell? ⟨w.heap.size, 1, none⟩ = some (.int .i64 len) ∧ w7.cell? ⟨wr.heap.size, 3, none⟩ = some (.int .i64 x.bx) ∧ w7.cell? ⟨wr.heap.size, 4, none⟩ = some (.int .i64 x.b_y) ∧ w7.cell? ⟨wr.heap.size, 11, none⟩ = some (.int .i64 x.n) ∧ w7.cell? ⟨b, o + (k + 1) * 13 + 11, none⟩ = some (.int .i64 x.n) ∧ w7.cell? ⟨b, o + (k + 1) * 13 + 12, none⟩ = some (.bool false) := by
                  refine ⟨?_, ?_, ?_, ?_, ?_, ?_, ?_⟩ <;> (refine cell_below hb7 ?_; repeat (first | (with_reducible assumption) | ((with_reducible refine cell_set ?_ ?_ _); (· first | (simp; done) | (simp; omega) | omega)) | ((with_reducible refine cell_new ?_ ?_); (· (simp; done)); (· rfl)) | (with_reducible refine cell_alloc ?_ _) | (with_reducible refine cell_drew ?_) | (with_reducible refine cell_drewN ?_ _) | (with_reducible refine cell_below (by assumption) ?_)))
                have zf61 : w.heap.size < w7.heap.size := World.block_lt_of_cell? _ _ f61
                have zf63 : wr.heap.size < w7.heap.size := World.block_lt_of_cell? _ _ f63
                have zf66 : b < w7.heap.size := World.block_lt_of_cell? _ _ f66
                obtain ⟨⟨o68a, o68b⟩, ⟨o69a, o69b⟩, ⟨o70a, o70b⟩⟩ : (w7.cell? ⟨wq.heap.size, 0, none⟩ = some (.int .i64 el) ∧ w7.frozen? ⟨wq.heap.size, 0, none⟩ = false) ∧ (w7.cell? ⟨wq.heap.size, 1, none⟩ = some (.int .i64 e0) ∧ w7.frozen? ⟨wq.heap.size, 1, none⟩ = false) ∧ (w7.cell? ⟨wq.heap.size, 2, none⟩ = some (.bool dn) ∧ w7.frozen? ⟨wq.heap.size, 2, none⟩ = false) := by
                  refine ⟨?_, ?_, ?_⟩ <;> (refine own_below hb7 ?_; repeat (first | (refine ⟨?_, ?_⟩ <;> (with_reducible assumption)) | (with_reducible apply own_same) | ((with_reducible refine own_set ?_ ?_ _); (· first | (simp; done) | (simp; omega))) | ((with_reducible refine own_new ?_ ?_); (· (simp; done)); (· rfl)) | (with_reducible refine own_alloc ?_ _) | (with_reducible refine own_drew ?_) | (with_reducible refine own_drewN ?_ _) | (with_reducible refine own_below (by assumption) ?_)))
                have zo68 : wq.heap.size < w7.heap.size := World.block_lt_of_cell? _ _ o68a
                clear p0 p1 d11 d12 g0a g0b g1a g1b g2a g2b
                go_wp2_with fail
                generalize hwwy : (((w7.setCell ⟨wq.heap.size, 0, none⟩ (.int .i64 (k : Int))).setCell ⟨wq.heap.size, 1, none⟩ (.int .i64 x.n)).setCell ⟨wq.heap.size, 2, none⟩ (.bool false)) = wy
                have ne71 : wq.heap.size ≠ w.heap.size := by omega
                have ne72 : wq.heap.size ≠ wr.heap.size := by omega
                have ne73 : wq.heap.size ≠ b := by omega
                have x74 : wy.cell? ⟨w.heap.size, 0, none⟩ = some (.slice (some ⟨b, o, none⟩) l.length cap) := by
                  rw [← hwwy]; exact (cell_set ne71 (cell_set ne71 (cell_set ne71 f61 _) _) _)
                have zzx74 : w.heap.size < wy.heap.size := World.block_lt_of_cell? _ _ x74
                have x75 : wy.cell? ⟨w.heap.size, 1, none⟩ = some (.int .i64 len) := by
                  rw [← hwwy]; exact (cell_set ne71 (cell_set ne71 (cell_set ne71 f62 _) _) _)
                have x76 : wy.cell? ⟨wr.heap.size, 3, none⟩ = some (.int .i64 x.bx) := by
                  rw [← hwwy]; exact (cell_set ne72 (cell_set ne72 (cell_set ne72 f63 _) _) _)
                have zzx76 : wr.heap.size < wy.heap.size := World.block_lt_of_cell? _ _ x76
                have x77 : wy.cell? ⟨wr.heap.size, 4, none⟩ = some (.int .i64 x.b_y) := by
                  rw [← hwwy]; exact (cell_set ne72 (cell_set ne72 (cell_set ne72 f64 _) _) _)
                have x78 : wy.cell? ⟨wr.heap.size, 11, none⟩ = some (.int .i64 x.n) := by
                  rw [← hwwy]; exact (cell_set ne72 (cell_set ne72 (cell_set ne72 f65 _) _) _)
                have x79 : wy.cell? ⟨b, o + (k + 1) * 13 + 11, none⟩ = some (.int .i64 x.n) := by
                  rw [← hwwy]; exact (cell_set ne73 (cell_set ne73 (cell_set ne73 f66 _) _) _)
                have zzx79 : b < wy.heap.size := World.block_lt_of_cell? _ _ x79
                have x80 : wy.cell? ⟨b, o + (k + 1) * 13 + 12, none⟩ = some (.bool false) := by
                  rw [← hwwy]; exact (cell_set ne73 (cell_set ne73 (cell_set ne73 f67 _) _) _)
                obtain ⟨x81a, x81b⟩ : wy.cell? ⟨wq.heap.size, 0, none⟩ = some (.int .i64 (k : Int)) ∧ wy.frozen? ⟨wq.heap.size, 0, none⟩ = false := by
                  rw [← hwwy]; exact (own_set (by simp) (own_set (by simp) (own_same ⟨o68a, o68b⟩ _) _) _)
                have zzx81a : wq.heap.size < wy.heap.size := World.block_lt_of_cell? _ _ x81a
                obtain ⟨x82a, x82b⟩ : wy.cell? ⟨wq.heap.size, 1, none⟩ = some (.int .i64 x.n) ∧ wy.frozen? ⟨wq.heap.size, 1, none⟩ = false := by
                  rw [← hwwy]; exact (own_set (by simp) (own_same (own_set (by simp) ⟨o69a, o69b⟩ _) _) _)
                obtain ⟨x83a, x83b⟩ : wy.cell? ⟨wq.heap.size, 2, none⟩ = some (.bool false) ∧ wy.frozen? ⟨wq.heap.size, 2, none⟩ = false := by
                  rw [← hwwy]; exact (own_same (own_set (by simp) (own_set (by simp) ⟨o70a, o70b⟩ _) _) _)
                have Bwy : Below w.heap.size w wy := by
                  rw [← hwwy]
                  (repeat (with_reducible (first | assumption | exact Below.refl _ _ | refine Below.drew ?_ | refine below_drewN ?_ _ | refine below_set ?_ (by simp; try omega) _ | refine below_alloc ?_ (Nat.le_refl _) _ | refine below_sub (by assumption) ?_)))
                clear f61 zf61 f62 f63 zf63 f64 f65 f66 zf66 f67 o68a o68b zo68 o69a o69b o70a o70b
                clear hwwy
                refine (step_any (some ⟨b, o, none⟩) l cap len k x.n false x.bx x.b_y _ h2 (hide (pathAt_below (show Below w.heap.size w _ by (repeat (with_reducible (first | assumption | exact Below.refl _ _ | refine Below.drew ?_ | refine below_drewN ?_ _ | refine below_set ?_ (by simp; try omega) _ | refine below_alloc ?_ (Nat.le_refl _) _ | refine below_sub (by assumption) ?_)))) hp.out)) (((k : Int) + 1), x.n, false, ([] : List Int)) G1.out).mono ?_
                rintro e w8 ⟨S1, cp1, rfl, hi1, hn1, hb8⟩
                have hn2 : Hid (∀ a, S1 = some a → wq.heap.size < a.block) := hide (fun a ha => Nat.lt_of_lt_of_le (by first | assumption | omega | (simp; omega)) (hn1.out a ha))
                obtain ⟨f84, f85, f86, f87, f88, f89, f90⟩ : w8.cell? ⟨w.heap.size, 0, none⟩ = some (.slice (some ⟨b, o, none⟩) l.length cap) ∧ w8.cell? ⟨w.heap.size, 1, none⟩ = some (.int .i64 len) ∧ w8.cell? ⟨wr.heap.size, 3, none⟩ = some (.int .i64 x.bx) ∧ w8.cell? ⟨wr.heap.size, 4, none⟩ = some (.int .i64 x.b_y) ∧ w8.cell? ⟨wr.heap.size, 11, none⟩ = some (.int .i64 x.n) ∧ w8.cell? ⟨b, o + (k + 1) * 13 + 11, none⟩ = some (.int .i64 x.n) ∧ w8.cell? ⟨b, o + (k + 1) * 13 + 12, none⟩ = some (.bool false) := by
                  refine ⟨?_, ?_, ?_, ?_, ?_, ?_, ?_⟩ <;> (refine cell_below hb8 ?_; repeat (first | (with_reducible assumption) | ((with_reducible refine cell_set ?_ ?_ _); (· first | (simp; done) | (simp; omega) | omega)) | ((with_reducible refine cell_new ?_ ?_); (· (simp; done)); (· rfl)) | (with_reducible refine cell_alloc ?_ _) | (with_reducible refine cell_drew ?_) | (with_reducible refine cell_drewN ?_ _) | (with_reducible refine cell_below (by assumption) ?_)))
                have zf84 : w.heap.size < w8.heap.size := World.block_lt_of_cell? _ _ f84
                have zf86 : wr.heap.size < w8.heap.size := World.block_lt_of_cell? _ _ f86
                have zf89 : b < w8.heap.size := World.block_lt_of_cell? _ _ f89
                obtain ⟨⟨o91a, o91b⟩, ⟨o92a, o92b⟩, ⟨o93a, o93b⟩⟩ : (w8.cell? ⟨wq.heap.size, 0, none⟩ = some (.int .i64 (k : Int)) ∧ w8.frozen? ⟨wq.heap.size, 0, none⟩ = false) ∧ (w8.cell? ⟨wq.heap.size, 1, none⟩ = some (.int .i64 x.n) ∧ w8.frozen? ⟨wq.heap.size, 1, none⟩ = false) ∧ (w8.cell? ⟨wq.heap.size, 2, none⟩ = some (.bool false) ∧ w8.frozen? ⟨wq.heap.size, 2, none⟩ = false) := by
                  refine ⟨?_, ?_, ?_⟩ <;> (refine own_below hb8 ?_; repeat (first | (refine ⟨?_, ?_⟩ <;> (with_reducible assumption)) | (with_reducible apply own_same) | ((with_reducible refine own_set ?_ ?_ _); (· first | (simp; done) | (simp; omega))) | ((with_reducible refine own_new ?_ ?_); (· (simp; done)); (· rfl)) | (with_reducible refine own_alloc ?_ _) | (with_reducible refine own_drew ?_) | (with_reducible refine own_drewN ?_ _) | (with_reducible refine own_below (by assumption) ?_)))
                have zo91 : wq.heap.size < w8.heap.size := World.block_lt_of_cell? _ _ o91a
                clear x74 zzx74 x75 x76 zzx76 x77 x78 x79 zzx79 x80 x81a x81b zzx81a x82a x82b x83a x83b
                go_wp2_with fail
                have hiz : Hid (intsAt ((((w8.setCell ⟨wq.heap.size, 0, none⟩ (.int .i64 ((k : Int) + 1))).setCell ⟨wq.heap.size, 1, none⟩ (.int .i64 x.n)).setCell ⟨wq.heap.size, 2, none⟩ (.bool false))) S1 ([] : List Int)) := hide (intsAt_set3b hn2.out hi1.out)
                generalize hwwz : (((w8.setCell ⟨wq.heap.size, 0, none⟩ (.int .i64 ((k : Int) + 1))).setCell ⟨wq.heap.size, 1, none⟩ (.int .i64 x.n)).setCell ⟨wq.heap.size, 2, none⟩ (.bool false)) = wz
                have ne94 : wq.heap.size ≠ w.heap.size := by omega
                have ne95 : wq.heap.size ≠ wr.heap.size := by omega
                have ne96 : wq.heap.size ≠ b := by omega
                have x97 : wz.cell? ⟨w.heap.size, 0, none⟩ = some (.slice (some ⟨b, o, none⟩) l.length cap) := by
                  rw [← hwwz]; exact (cell_set ne94 (cell_set ne94 (cell_set ne94 f84 _) _) _)
                have zzx97 : w.heap.size < wz.heap.size := World.block_lt_of_cell? _ _ x97
                have x98 : wz.cell? ⟨w.heap.size, 1, none⟩ = some (.int .i64 len) := by
                  rw [← hwwz]; exact (cell_set ne94 (cell_set ne94 (cell_set ne94 f85 _) _) _)
                have x99 : wz.cell? ⟨wr.heap.size, 3, none⟩ = some (.int .i64 x.bx) := by
                  rw [← hwwz]; exact (cell_set ne95 (cell_set ne95 (cell_set ne95 f86 _) _) _)
                have zzx99 : wr.heap.size < wz.heap.size := World.block_lt_of_cell? _ _ x99
                have x100 : wz.cell? ⟨wr.heap.size, 4, none⟩ = some (.int .i64 x.b_y) := by
                  rw [← hwwz]; exact (cell_set ne95 (cell_set ne95 (cell_set ne95 f87 _) _) _)
                have x101 : wz.cell? ⟨wr.heap.size, 11, none⟩ = some (.int .i64 x.n) := by
                  rw [← hwwz]; exact (cell_set ne95 (cell_set ne95 (cell_set ne95 f88 _) _) _)
                have x102 : wz.cell? ⟨b, o + (k + 1) * 13 + 11, none⟩ = some (.int .i64 x.n) := by
                  rw [← hwwz]; exact (cell_set ne96 (cell_set ne96 (cell_set ne96 f89 _) _) _)
                have zzx102 : b < wz.heap.size := World.block_lt_of_cell? _ _ x102
                have x103 : wz.cell? ⟨b, o + (k + 1) * 13 + 12, none⟩ = some (.bool false) := by
                  rw [← hwwz]; exact (cell_set ne96 (cell_set ne96 (cell_set ne96 f90 _) _) _)
                obtain ⟨x104a, x104b⟩ : wz.cell? ⟨wq.heap.size, 0, none⟩ = some (.int .i64 ((k : Int) + 1)) ∧ wz.frozen? ⟨wq.heap.size, 0, none⟩ = false := by
                  rw [← hwwz]; exact (own_set (by simp) (own_set (by simp) (own_same ⟨o91a, o91b⟩ _) _) _)
                have zzx104a : wq.heap.size < wz.heap.size := World.block_lt_of_cell? _ _ x104a
                obtain ⟨x105a, x105b⟩ : wz.cell? ⟨wq.heap.size, 1, none⟩ = some (.int .i64 x.n) ∧ wz.frozen? ⟨wq.heap.size, 1, none⟩ = false := by
                  rw [← hwwz]; exact (own_set (by simp) (own_same (own_set (by simp) ⟨o92a, o92b⟩ _) _) _)
                obtain ⟨x106a, x106b⟩ : wz.cell? ⟨wq.heap.size, 2, none⟩ = some (.bool false) ∧ wz.frozen? ⟨wq.heap.size, 2, none⟩ = false := by
                  rw [← hwwz]; exact (own_same (own_set (by simp) (own_set (by simp) ⟨o93a, o93b⟩ _) _) _)
                have Bwz : Below w.heap.size w wz := by
                  rw [← hwwz]
                  (repeat (with_reducible (first | assumption | exact Below.refl _ _ | refine Below.drew ?_ | refine below_drewN ?_ _ | refine below_set ?_ (by simp; try omega) _ | refine below_alloc ?_ (Nat.le_refl _) _ | refine below_sub (by assumption) ?_)))
                clear f84 zf84 f85 f86 zf86 f87 f88 f89 zf89 f90 o91a o91b zo91 o92a o92b o93a o93b
                rw [hwwz] at hiz
                clear hwwz
                skip
                go_wp2_with fail
                go_quiet (fail)
                go_wp2_with fail
                go_roundw
                case rel => exact ⟨k + 1, ((k : Int) + 1), x.n, false, by omega, by go_num, hide (fun z hz _ hg => by rw [hy] at hz; injection hz with hz; subst hz; exact ⟨rfl, HN.out.symm, rfl⟩), by (repeat (first | (with_reducible assumption) | ((with_reducible refine cell_set ?_ ?_ _); (· first | (simp; done) | (simp; omega) | omega)) | ((with_reducible refine cell_new ?_ ?_); (· (simp; done)); (· rfl)) | (with_reducible refine cell_alloc ?_ _) | (with_reducible refine cell_drew ?_) | (with_reducible refine cell_drewN ?_ _) | (with_reducible refine cell_below (by assumption) ?_))), by (repeat (first | (with_reducible assumption) | ((with_reducible refine cell_set ?_ ?_ _); (· first | (simp; done) | (simp; omega) | omega)) | ((with_reducible refine cell_new ?_ ?_); (· (simp; done)); (· rfl)) | (with_reducible refine cell_alloc ?_ _) | (with_reducible refine cell_drew ?_) | (with_reducible refine cell_drewN ?_ _) | (with_reducible refine cell_below (by assumption) ?_))), by (repeat (first | (refine ⟨?_, ?_⟩ <;> (with_reducible assumption)) | (with_reducible apply own_same) | ((with_reducible refine own_set ?_ ?_ _); (· first | (simp; done) | (simp; omega))) | ((with_reducible refine own_new ?_ ?_); (· (simp; done)); (· rfl)) | (with_reducible refine own_alloc ?_ _) | (with_reducible refine own_drew ?_) | (with_reducible refine own_drewN ?_ _) | (with_reducible refine own_below (by assumption) ?_))), by (repeat (first | (refine ⟨?_, ?_⟩ <;> (with_reducible assumption)) | (with_reducible apply own_same) | ((with_reducible refine own_set ?_ ?_ _); (· first | (simp; done) | (simp; omega))) | ((with_reducible refine own_new ?_ ?_); (· (simp; done)); (· rfl)) | (with_reducible refine own_alloc ?_ _) | (with_reducible refine own_drew ?_) | (with_reducible refine own_drewN ?_ _) | (with_reducible refine own_below (by assumption) ?_))), by (repeat (first | (refine ⟨?_, ?_⟩ <;> (with_reducible assumption)) | (with_reducible apply own_same) | ((with_reducible refine own_set ?_ ?_ _); (· first | (simp; done) | (simp; omega))) | ((with_reducible refine own_new ?_ ?_); (· (simp; done)); (· rfl)) | (with_reducible refine own_alloc ?_ _) | (with_reducible refine own_drew ?_) | (with_reducible refine own_drewN ?_ _) | (with_reducible refine own_below (by assumption) ?_))), by (repeat (with_reducible (first | assumption | exact Below.refl _ _ | refine Below.drew ?_ | refine below_drewN ?_ _ | refine below_set ?_ (by simp; try omega) _ | refine below_alloc ?_ (Nat.le_refl _) _ | refine below_sub (by assumption) ?_)))⟩
                case measure => simp [intOf]; omega
              · have TN : (y.n != x.n) = true := bne_iff_ne.2 hn
                have G1 : Hid (((k : Int) + 1, y.n, false, [x.n]) = stepR l len k x.n false x.bx x.b_y) := hide (by rw [ST.out _ x.n (SS.out.2 y hy hyg), if_neg hn]; rfl)
                go_wp2_with fail
                refine (start_any (some ⟨b, o, none⟩) l cap len k _ h2 (hide (pathAt_below (show Below w.heap.size w _ by (repeat (with_reducible (first | assumption | exact Below.refl _ _ | refine Below.drew ?_ | refine below_drewN ?_ _ | refine below_set ?_ (by simp; try omega) _ | refine below_alloc ?_ (Nat.le_refl _) _ | refine below_sub (by assumption) ?_)))) hp.out)) ((k : Int), x.n, (0 : Int)) SF.out).mono ?_
                rintro e w7 ⟨rfl, hb7⟩
                obtain ⟨f61, f62, f63, f64, f65, f66, f67⟩ : w7.cell? ⟨w.heap.size, 0, none⟩ = some (.slice (some ⟨b, o, none⟩) l.length cap) ∧ w7.cell? ⟨w.heap.size, 1, none⟩ = some (.int .i64 len) ∧ w7.cell? ⟨wr.heap.size, 3, none⟩ = some (.int .i64 x.bx) ∧ w7.cell? ⟨wr.heap.size, 4, none⟩ = some (.int .i64 x.b_y) ∧ w7.cell? ⟨wr.heap.size, 11, none⟩ = some (.int .i64 x.n) ∧ w7.cell? ⟨b, o + (k + 1) * 13 + 11, none⟩ = some (.int .i64 y.n) ∧ w7.cell? ⟨b, o + (k + 1) * 13 + 12, none⟩ = some (.bool false) := by
                  refine ⟨?_, ?_, ?_, ?_, ?_, ?_, ?_⟩ <;> (refine cell_below hb7 ?_; repeat (first | (with_reducible assumption) | ((with_reducible refine cell_set ?_ ?_ _); (· first | (simp; done) | (simp; omega) | omega)) | ((with_reducible refine cell_new ?_ ?_); (· (simp; done)); (· rfl)) | (with_reducible refine cell_alloc ?_ _) | (with_reducible refine cell_drew ?_) | (with_reducible refine cell_drewN ?_ _) | (with_reducible refine cell_below (by assumption) ?_)))
                have zf61 : w.heap.size < w7.heap.size := World.block_lt_of_cell? _ _ f61
                have zf63 : wr.heap.size < w7.heap.size := World.block_lt_of_cell? _ _ f63
                have zf66 : b < w7.heap.size := World.block_lt_of_cell? _ _ f66
                obtain ⟨⟨o68a, o68b⟩, ⟨o69a, o69b⟩, ⟨o70a, o70b⟩⟩ : (w7.cell? ⟨wq.heap.size, 0, none⟩ = some (.int .i64 el) ∧ w7.frozen? ⟨wq.heap.size, 0, none⟩ = false) ∧ (w7.cell? ⟨wq.heap.size, 1, none⟩ = some (.int .i64 e0) ∧ w7.frozen? ⟨wq.heap.size, 1, none⟩ = false) ∧ (w7.cell? ⟨wq.heap.size, 2, none⟩ = some (.bool dn) ∧ w7.frozen? ⟨wq.heap.size, 2, none⟩ = false) := by
                  refine ⟨?_, ?_, ?_⟩ <;> (refine own_below hb7 ?_; repeat (first | (refine ⟨?_, ?_⟩ <;> (with_reducible assumption)) | (with_reducible apply own_same) | ((with_reducible refine own_set ?_ ?_ _); (· first | (simp; done) | (simp; omega))) | ((with_reducible refine own_new ?_ ?_); (· (simp; done)); (· rfl)) | (with_reducible refine own_alloc ?_ _) | (with_reducible refine own_drew ?_) | (with_reducible refine own_drewN ?_ _) | (with_reducible refine own_below (by assumption) ?_)))
                have zo68 : wq.heap.size < w7.heap.size := World.block_lt_of_cell? _ _ o68a
                clear p0 p1 d11 d12 g0a g0b g1a g1b g2a g2b
                go_wp2_with fail
                generalize hwwy : (((w7.setCell ⟨wq.heap.size, 0, none⟩ (.int .i64 (k : Int))).setCell ⟨wq.heap.size, 1, none⟩ (.int .i64 x.n)).setCell ⟨wq.heap.size, 2, none⟩ (.bool false)) = wy
                have ne71 : wq.heap.size ≠ w.heap.size := by omega
                have ne72 : wq.heap.size ≠ wr.heap.size := by omega
                have ne73 : wq.heap.size ≠ b := by omega
                have x74 : wy.cell? ⟨w.heap.size, 0, none⟩ = some (.slice (some ⟨b, o, none⟩) l.length cap) := by
                  rw [← hwwy]; exact (cell_set ne71 (cell_set ne71 (cell_set ne71 f61 _) _) _)
                have zzx74 : w.heap.size < wy.heap.size := World.block_lt_of_cell? _ _ x74
                have x75 : wy.cell? ⟨w.heap.size, 1, none⟩ = some (.int .i64 len) := by
                  rw [← hwwy]; exact (cell_set ne71 (cell_set ne71 (cell_set ne71 f62 _) _) _)
                have x76 : wy.cell? ⟨wr.heap.size, 3, none⟩ = some (.int .i64 x.bx) := by
                  rw [← hwwy]; exact (cell_set ne72 (cell_set ne72 (cell_set ne72 f63 _) _) _)
                have zzx76 : wr.heap.size < wy.heap.size := World.block_lt_of_cell? _ _ x76
                have x77 : wy.cell? ⟨wr.heap.size, 4, none⟩ = some (.int .i64 x.b_y) := by
                  rw [← hwwy]; exact (cell_set ne72 (cell_set ne72 (cell_set ne72 f64 _) _) _)
                have x78 : wy.cell? ⟨wr.heap.size, 11, none⟩ = some (.int .i64 x.n) := by
                  rw [← hwwy]; exact (cell_set ne72 (cell_set ne72 (cell_set ne72 f65 _) _) _)
                have x79 : wy.cell? ⟨b, o + (k + 1) * 13 + 11, none⟩ = some (.int .i64 y.n) := by
                  rw [← hwwy]; exact (cell_set ne73 (cell_set ne73 (cell_set ne73 f66 _) _) _)
                have zzx79 : b < wy.heap.size := World.block_lt_of_cell? _ _ x79
                have x80 : wy.cell? ⟨b, o + (k + 1) * 13 + 12, none⟩ = some (.bool false) := by
                  rw [← hwwy]; exact (cell_set ne73 (cell_set ne73 (cell_set ne73 f67 _) _) _)
                obtain ⟨x81a, x81b⟩ : wy.cell? ⟨wq.heap.size, 0, none⟩ = some (.int .i64 (k : Int)) ∧ wy.frozen? ⟨wq.heap.size, 0, none⟩ = false := by
                  rw [← hwwy]; exact (own_set (by simp) (own_set (by simp) (own_same ⟨o68a, o68b⟩ _) _) _)
                have zzx81a : wq.heap.size < wy.heap.size := World.block_lt_of_cell? _ _ x81a
                obtain ⟨x82a, x82b⟩ : wy.cell? ⟨wq.heap.size, 1, none⟩ = some (.int .i64 x.n) ∧ wy.frozen? ⟨wq.heap.size, 1, none⟩ = false := by
                  rw [← hwwy]; exact (own_set (by simp) (own_same (own_set (by simp) ⟨o69a, o69b⟩ _) _) _)
                obtain ⟨x83a, x83b⟩ : wy.cell? ⟨wq.heap.size, 2, none⟩ = some (.bool false) ∧ wy.frozen? ⟨wq.heap.size, 2, none⟩ = false := by
                  rw [← hwwy]; exact (own_same (own_set (by simp) (own_set (by simp) ⟨o70a, o70b⟩ _) _) _)
                have Bwy : Below w.heap.size w wy := by
                  rw [← hwwy]
                  (repeat (with_reducible (first | assumption | exact Below.refl _ _ | refine Below.drew ?_ | refine below_drewN ?_ _ | refine below_set ?_ (by simp; try omega) _ | refine below_alloc ?_ (Nat.le_refl _) _ | refine below_sub (by assumption) ?_)))
                clear f61 zf61 f62 f63 zf63 f64 f65 f66 zf66 f67 o68a o68b zo68 o69a o69b o70a o70b
                clear hwwy
                refine (step_any (some ⟨b, o, none⟩) l cap len k x.n false x.bx x.b_y _ h2 (hide (pathAt_below (show Below w.heap.size w _ by (repeat (with_reducible (first | assumption | exact Below.refl _ _ | refine Below.drew ?_ | refine below_drewN ?_ _ | refine below_set ?_ (by simp; try omega) _ | refine below_alloc ?_ (Nat.le_refl _) _ | refine below_sub (by assumption) ?_)))) hp.out)) (((k : Int) + 1), y.n, false, [x.n]) G1.out).mono ?_
                rintro e w8 ⟨S1, cp1, rfl, hi1, hn1, hb8⟩
                have hn2 : Hid (∀ a, S1 = some a → wq.heap.size < a.block) := hide (fun a ha => Nat.lt_of_lt_of_le (by first | assumption | omega | (simp; omega)) (hn1.out a ha))
                obtain ⟨f84, f85, f86, f87, f88, f89, f90⟩ : w8.cell? ⟨w.heap.size, 0, none⟩ = some (.slice (some ⟨b, o, none⟩) l.length cap) ∧ w8.cell? ⟨w.heap.size, 1, none⟩ = some (.int .i64 len) ∧ w8.cell? ⟨wr.heap.size, 3, none⟩ = some (.int .i64 x.bx) ∧ w8.cell? ⟨wr.heap.size, 4, none⟩ = some (.int .i64 x.b_y) ∧ w8.cell? ⟨wr.heap.size, 11, none⟩ = some (.int .i64 x.n) ∧ w8.cell? ⟨b, o + (k + 1) * 13 + 11, none⟩ = some (.int .i64 y.n) ∧ w8.cell? ⟨b, o + (k + 1) * 13 + 12, none⟩ = some (.bool false) := by
                  refine ⟨?_, ?_, ?_, ?_, ?_, ?_, ?_⟩ <;> (refine cell_below hb8 ?_; repeat (first | (with_reducible assumption) | ((with_reducible refine cell_set ?_ ?_ _); (· first | (simp; done) | (simp; omega) | omega)) | ((with_reducible refine cell_new ?_ ?_); (· (simp; done)); (· rfl)) | (with_reducible refine cell_alloc ?_ _) | (with_reducible refine cell_drew ?_) | (with_reducible refine cell_drewN ?_ _) | (with_reducible refine cell_below (by assumption) ?_)))
                have zf84 : w.heap.size < w8.heap.size := World.block_lt_of_cell? _ _ f84
                have zf86 : wr.heap.size < w8.heap.size := World.block_lt_of_cell? _ _ f86
                have zf89 : b < w8.heap.size := World.block_lt_of_cell? _ _ f89
                obtain ⟨⟨o91a, o91b⟩, ⟨o92a, o92b⟩, ⟨o93a, o93b⟩⟩ : (w8.cell? ⟨wq.heap.size, 0, none⟩ = some (.int .i64 (k : Int)) ∧ w8.frozen? ⟨wq.heap.size, 0, none⟩ = false) ∧ (w8.cell? ⟨wq.heap.size, 1, none⟩ = some (.int .i64 x.n) ∧ w8.frozen? ⟨wq.heap.size, 1, none⟩ = false) ∧ (w8.cell? ⟨wq.heap.size, 2, none⟩ = some (.bool false) ∧ w8.frozen? ⟨wq.heap.size, 2, none⟩ = false) := by
                  refine ⟨?_, ?_, ?_⟩ <;> (refine own_below hb8 ?_; repeat (first | (refine ⟨?_, ?_⟩ <;> (with_reducible assumption)) | (with_reducible apply own_same) | ((with_reducible refine own_set ?_ ?_ _); (· first | (simp; done) | (simp; omega))) | ((with_reducible refine own_new ?_ ?_); (· (simp; done)); (· rfl)) | (with_reducible refine own_alloc ?_ _) | (with_reducible refine own_drew ?_) | (with_reducible refine own_drewN ?_ _) | (with_reducible refine own_below (by assumption) ?_)))
                have zo91 : wq.heap.size < w8.heap.size := World.block_lt_of_cell? _ _ o91a
                clear x74 zzx74 x75 x76 zzx76 x77 x78 x79 zzx79 x80 x81a x81b zzx81a x82a x82b x83a x83b
                go_wp2_with fail
                have hiz : Hid (intsAt ((((w8.setCell ⟨wq.heap.size, 0, none⟩ (.int .i64 ((k : Int) + 1))).setCell ⟨wq.heap.size, 1, none⟩ (.int .i64 y.n)).setCell ⟨wq.heap.size, 2, none⟩ (.bool false))) S1 [x.n]) := hide (intsAt_set3b hn2.out hi1.out)
                generalize hwwz : (((w8.setCell ⟨wq.heap.size, 0, none⟩ (.int .i64 ((k : Int) + 1))).setCell ⟨wq.heap.size, 1, none⟩ (.int .i64 y.n)).setCell ⟨wq.heap.size, 2, none⟩ (.bool false)) = wz
                have ne94 : wq.heap.size ≠ w.heap.size := by omega
                have ne95 : wq.heap.size ≠ wr.heap.size := by omega
                have ne96 : wq.heap.size ≠ b := by omega
                have x97 : wz.cell? ⟨w.heap.size, 0, none⟩ = some (.slice (some ⟨b, o, none⟩) l.length cap) := by
                  rw [← hwwz]; exact (cell_set ne94 (cell_set ne94 (cell_set ne94 f84 _) _) _)
                have zzx97 : w.heap.size < wz.heap.size := World.block_lt_of_cell? _ _ x97
                have x98 : wz.cell? ⟨w.heap.size, 1, none⟩ = some (.int .i64 len) := by
                  rw [← hwwz]; exact (cell_set ne94 (cell_set ne94 (cell_set ne94 f85 _) _) _)
                have x99 : wz.cell? ⟨wr.heap.size, 3, none⟩ = some (.int .i64 x.bx) := by
                  rw [← hwwz]; exact (cell_set ne95 (cell_set ne95 (cell_set ne95 f86 _) _) _)
                have zzx99 : wr.heap.size < wz.heap.size := World.block_lt_of_cell? _ _ x99
                have x100 : wz.cell? ⟨wr.heap.size, 4, none⟩ = some (.int .i64 x.b_y) := by
                  rw [← hwwz]; exact (cell_set ne95 (cell_set ne95 (cell_set ne95 f87 _) _) _)
                have x101 : wz.cell? ⟨wr.heap.size, 11, none⟩ = some (.int .i64 x.n) := by
                  rw [← hwwz]; exact (cell_set ne95 (cell_set ne95 (cell_set ne95 f88 _) _) _)
                have x102 : wz.cell? ⟨b, o + (k + 1) * 13 + 11, none⟩ = some (.int .i64 y.n) := by
                  rw [← hwwz]; exact (cell_set ne96 (cell_set ne96 (cell_set ne96 f89 _) _) _)
                have zzx102 : b < wz.heap.size := World.block_lt_of_cell? _ _ x102
                have x103 : wz.cell? ⟨b, o + (k + 1) * 13 + 12, none⟩ = some (.bool false) := by
                  rw [← hwwz]; exact (cell_set ne96 (cell_set ne96 (cell_set ne96 f90 _) _) _)
                obtain ⟨x104a, x104b⟩ : wz.cell? ⟨wq.heap.size, 0, none⟩ = some (.int .i64 ((k : Int) + 1)) ∧ wz.frozen? ⟨wq.heap.size, 0, none⟩ = false := by
                  rw [← hwwz]; exact (own_set (by simp) (own_set (by simp) (own_same ⟨o91a, o91b⟩ _) _) _)
                have zzx104a : wq.heap.size < wz.heap.size := World.block_lt_of_cell? _ _ x104a
                obtain ⟨x105a, x105b⟩ : wz.cell? ⟨wq.heap.size, 1, none⟩ = some (.int .i64 y.n) ∧ wz.frozen? ⟨wq.heap.size, 1, none⟩ = false := by
                  rw [← hwwz]; exact (own_set (by simp) (own_same (own_set (by simp) ⟨o92a, o92b⟩ _) _) _)
                obtain ⟨x106a, x106b⟩ : wz.cell? ⟨wq.heap.size, 2, none⟩ = some (.bool false) ∧ wz.frozen? ⟨wq.heap.size, 2, none⟩ = false := by
                  rw [← hwwz]; exact (own_same (own_set (by simp) (own_set (by simp) ⟨o93a, o93b⟩ _) _) _)
                have Bwz : Below w.heap.size w wz := by
                  rw [← hwwz]
                  (repeat (with_reducible (first | assumption | exact Below.refl _ _ | refine Below.drew ?_ | refine below_drewN ?_ _ | refine below_set ?_ (by simp; try omega) _ | refine below_alloc ?_ (Nat.le_refl _) _ | refine below_sub (by assumption) ?_)))
                clear f84 zf84 f85 f86 zf86 f87 f88 f89 zf89 f90 o91a o91b zo91 o92a o92b o93a o93b
                rw [hwwz] at hiz
                clear hwwz
                skip
                go_wp2_with fail
                go_quiet (fail)
                go_wp2_with fail
                refine (same_eq S1 (some ⟨wz.heap.size, 0, none⟩) cp1 1 [x.n] _ (by simp) (hide (intsAt_below (show Below wz.heap.size wz _ by (repeat (with_reducible (first | assumption | exact Below.refl _ _ | refine Below.drew ?_ | refine below_drewN ?_ _ | refine below_set ?_ (by simp; try omega) _ | refine below_alloc ?_ (Nat.le_refl _) _ | refine below_sub (by assumption) ?_)))) hiz.out)) (hide (intsAt_one (by (repeat (first | (with_reducible assumption) | ((with_reducible refine cell_set ?_ ?_ _); (· first | (simp; done) | (simp; omega) | omega)) | ((with_reducible refine cell_new ?_ ?_); (· (simp; done)); (· rfl)) | (with_reducible refine cell_alloc ?_ _) | (with_reducible refine cell_drew ?_) | (with_reducible refine cell_drewN ?_ _) | (with_reducible refine cell_below (by assumption) ?_))))))).mono ?_
                rintro e w9 ⟨rfl, hb9⟩
                obtain ⟨f107, f108, f109, f110, f111, f112, f113⟩ : w9.cell? ⟨w.heap.size, 0, none⟩ = some (.slice (some ⟨b, o, none⟩) l.length cap) ∧ w9.cell? ⟨w.heap.size, 1, none⟩ = some (.int .i64 len) ∧ w9.cell? ⟨wr.heap.size, 3, none⟩ = some (.int .i64 x.bx) ∧ w9.cell? ⟨wr.heap.size, 4, none⟩ = some (.int .i64 x.b_y) ∧ w9.cell? ⟨wr.heap.size, 11, none⟩ = some (.int .i64 x.n) ∧ w9.cell? ⟨b, o + (k + 1) * 13 + 11, none⟩ = some (.int .i64 y.n) ∧ w9.cell? ⟨b, o + (k + 1) * 13 + 12, none⟩ = some (.bool false) := by
                  refine ⟨?_, ?_, ?_, ?_, ?_, ?_, ?_⟩ <;> (refine cell_below hb9 ?_; repeat (first | (with_reducible assumption) | ((with_reducible refine cell_set ?_ ?_ _); (· first | (simp; done) | (simp; omega) | omega)) | ((with_reducible refine cell_new ?_ ?_); (· (simp; done)); (· rfl)) | (with_reducible refine cell_alloc ?_ _) | (with_reducible refine cell_drew ?_) | (with_reducible refine cell_drewN ?_ _) | (with_reducible refine cell_below (by assumption) ?_)))
                have zf107 : w.heap.size < w9.heap.size := World.block_lt_of_cell? _ _ f107
                have zf109 : wr.heap.size < w9.heap.size := World.block_lt_of_cell? _ _ f109
                have zf112 : b < w9.heap.size := World.block_lt_of_cell? _ _ f112
                obtain ⟨⟨o114a, o114b⟩, ⟨o115a, o115b⟩, ⟨o116a, o116b⟩⟩ : (w9.cell? ⟨wq.heap.size, 0, none⟩ = some (.int .i64 ((k : Int) + 1)) ∧ w9.frozen? ⟨wq.heap.size, 0, none⟩ = false) ∧ (w9.cell? ⟨wq.heap.size, 1, none⟩ = some (.int .i64 y.n) ∧ w9.frozen? ⟨wq.heap.size, 1, none⟩ = false) ∧ (w9.cell? ⟨wq.heap.size, 2, none⟩ = some (.bool false) ∧ w9.frozen? ⟨wq.heap.size, 2, none⟩ = false) := by
                  refine ⟨?_, ?_, ?_⟩ <;> (refine own_below hb9 ?_; repeat (first | (refine ⟨?_, ?_⟩ <;> (with_reducible assumption)) | (with_reducible apply own_same) | ((with_reducible refine own_set ?_ ?_ _); (· first | (simp; done) | (simp; omega))) | ((with_reducible refine own_new ?_ ?_); (· (simp; done)); (· rfl)) | (with_reducible refine own_alloc ?_ _) | (with_reducible refine own_drew ?_) | (with_reducible refine own_drewN ?_ _) | (with_reducible refine own_below (by assumption) ?_)))
                have zo114 : wq.heap.size < w9.heap.size := World.block_lt_of_cell? _ _ o114a
                clear x97 zzx97 x98 x99 zzx99 x100 x101 x102 zzx102 x103 x104a x104b zzx104a x105a x105b x106a x106b
                go_wp2_with fail
                go_roundw
                case rel => exact ⟨k + 1, ((k : Int) + 1), y.n, false, by omega, by go_num, hide (fun z hz _ hg => by rw [hy] at hz; injection hz with hz; subst hz; exact ⟨rfl, rfl, rfl⟩), by (repeat (first | (with_reducible assumption) | ((with_reducible refine cell_set ?_ ?_ _); (· first | (simp; done) | (simp; omega) | omega)) | ((with_reducible refine cell_new ?_ ?_); (· (simp; done)); (· rfl)) | (with_reducible refine cell_alloc ?_ _) | (with_reducible refine cell_drew ?_) | (with_reducible refine cell_drewN ?_ _) | (with_reducible refine cell_below (by assumption) ?_))), by (repeat (first | (with_reducible assumption) | ((with_reducible refine cell_set ?_ ?_ _); (· first | (simp; done) | (simp; omega) | omega)) | ((with_reducible refine cell_new ?_ ?_); (· (simp; done)); (· rfl)) | (with_reducible refine cell_alloc ?_ _) | (with_reducible refine cell_drew ?_) | (with_reducible refine cell_drewN ?_ _) | (with_reducible refine cell_below (by assumption) ?_))), by (repeat (first | (refine ⟨?_, ?_⟩ <;> (with_reducible assumption)) | (with_reducible apply own_same) | ((with_reducible refine own_set ?_ ?_ _); (· first | (simp; done) | (simp; omega))) | ((with_reducible refine own_new ?_ ?_); (· (simp; done)); (· rfl)) | (with_reducible refine own_alloc ?_ _) | (with_reducible refine own_drew ?_) | (with_reducible refine own_drewN ?_ _) | (with_reducible refine own_below (by assumption) ?_))), by (repeat (first | (refine ⟨?_, ?_⟩ <;> (with_reducible assumption)) | (with_reducible apply own_same) | ((with_reducible refine own_set ?_ ?_ _); (· first | (simp; done) | (simp; omega))) | ((with_reducible refine own_new ?_ ?_); (· (simp; done)); (· rfl)) | (with_reducible refine own_alloc ?_ _) | (with_reducible refine own_drew ?_) | (with_reducible refine own_drewN ?_ _) | (with_reducible refine own_below (by assumption) ?_))), by (repeat (first | (refine ⟨?_, ?_⟩ <;> (with_reducible assumption)) | (with_reducible apply own_same) | ((with_reducible refine own_set ?_ ?_ _); (· first | (simp; done) | (simp; omega))) | ((with_reducible refine own_new ?_ ?_); (· (simp; done)); (· rfl)) | (with_reducible refine own_alloc ?_ _) | (with_reducible refine own_drew ?_) | (with_reducible refine own_drewN ?_ _) | (with_reducible refine own_below (by assumption) ?_))), by (repeat (with_reducible (first | assumption | exact Below.refl _ _ | refine Below.drew ?_ | refine below_drewN ?_ _ | refine below_set ?_ (by simp; try omega) _ | refine below_alloc ?_ (Nat.le_refl _) _ | refine below_sub (by assumption) ?_)))⟩
                case measure => simp [intOf]; omega
            · rw [hyg] at d12
              have hl : lastB l k = true := by unfold lastB; rw [hy]; exact hyg
              have G1 : Hid (((k : Int), x.n, true, [x.n]) = stepR l len k x.n false x.bx x.b_y) := hide (by rw [ST.out _ x.n (SS.out.1 hl)])
              go_wp2_with fail
              refine (start_any (some ⟨b, o, none⟩) l cap len k _ h2 (hide (pathAt_below (show Below w.heap.size w _ by (repeat (with_reducible (first | assumption | exact Below.refl _ _ | refine Below.drew ?_ | refine below_drewN ?_ _ | refine below_set ?_ (by simp; try omega) _ | refine below_alloc ?_ (Nat.le_refl _) _ | refine below_sub (by assumption) ?_)))) hp.out)) ((k : Int), x.n, (0 : Int)) SF.out).mono ?_
              rintro e w7 ⟨rfl, hb7⟩
              obtain ⟨f61, f62, f63, f64, f65, f66, f67⟩ : w7.cell? ⟨w.heap.size, 0, none⟩ = some (.slice (some ⟨b, o, none⟩) l.length cap) ∧ w7.cell? ⟨w.heap.size, 1, none⟩ = some (.int .i64 len) ∧ w7.cell? ⟨wr.heap.size, 3, none⟩ = some (.int .i64 x.bx) ∧ w7.cell? ⟨wr.heap.size, 4, none⟩ = some (.int .i64 x.b_y) ∧ w7.cell? ⟨wr.heap.size, 11, none⟩ = some (.int .i64 x.n) ∧ w7.cell? ⟨b, o + (k + 1) * 13 + 11, none⟩ = some (.int .i64 y.n) ∧ w7.cell? ⟨b, o + (k + 1) * 13 + 12, none⟩ = some (.bool true) := by
                refine ⟨?_, ?_, ?_, ?_, ?_, ?_, ?_⟩ <;> (refine cell_below hb7 ?_; repeat (first | (with_reducible assumption) | ((with_reducible refine cell_set ?_ ?_ _); (· first | (simp; done) | (simp; omega) | omega)) | ((with_reducible refine cell_new ?_ ?_); (· (simp; done)); (· rfl)) | (with_reducible refine cell_alloc ?_ _) | (with_reducible refine cell_drew ?_) | (with_reducible refine cell_drewN ?_ _) | (with_reducible refine cell_below (by assumption) ?_)))
              have zf61 : w.heap.size < w7.heap.size := World.block_lt_of_cell? _ _ f61
              have zf63 : wr.heap.size < w7.heap.size := World.block_lt_of_cell? _ _ f63
              have zf66 : b < w7.heap.size := World.block_lt_of_cell? _ _ f66
              obtain ⟨⟨o68a, o68b⟩, ⟨o69a, o69b⟩, ⟨o70a, o70b⟩⟩ : (w7.cell? ⟨wq.heap.size, 0, none⟩ = some (.int .i64 el) ∧ w7.frozen? ⟨wq.heap.size, 0, none⟩ = false) ∧ (w7.cell? ⟨wq.heap.size, 1, none⟩ = some (.int .i64 e0) ∧ w7.frozen? ⟨wq.heap.size, 1, none⟩ = false) ∧ (w7.cell? ⟨wq.heap.size, 2, none⟩ = some (.bool dn) ∧ w7.frozen? ⟨wq.heap.size, 2, none⟩ = false) := by
                refine ⟨?_, ?_, ?_⟩ <;> (refine own_below hb7 ?_; repeat (first | (refine ⟨?_, ?_⟩ <;> (with_reducible assumption)) | (with_reducible apply own_same) | ((with_reducible refine own_set ?_ ?_ _); (· first | (simp; done) | (simp; omega))) | ((with_reducible refine own_new ?_ ?_); (· (simp; done)); (· rfl)) | (with_reducible refine own_alloc ?_ _) | (with_reducible refine own_drew ?_) | (with_reducible refine own_drewN ?_ _) | (with_reducible refine own_below (by assumption) ?_)))
              have zo68 : wq.heap.size < w7.heap.size := World.block_lt_of_cell? _ _ o68a
              clear p0 p1 d11 d12 g0a g0b g1a g1b g2a g2b
              go_wp2_with fail
              generalize hwwy : (((w7.setCell ⟨wq.heap.size, 0, none⟩ (.int .i64 (k : Int))).setCell ⟨wq.heap.size, 1, none⟩ (.int .i64 x.n)).setCell ⟨wq.heap.size, 2, none⟩ (.bool false)) = wy
              have ne71 : wq.heap.size ≠ w.heap.size := by omega
              have ne72 : wq.heap.size ≠ wr.heap.size := by omega
              have ne73 : wq.heap.size ≠ b := by omega
              have x74 : wy.cell? ⟨w.heap.size, 0, none⟩ = some (.slice (some ⟨b, o, none⟩) l.length cap) := by
                rw [← hwwy]; exact (cell_set ne71 (cell_set ne71 (cell_set ne71 f61 _) _) _)
              have zzx74 : w.heap.size < wy.heap.size := World.block_lt_of_cell? _ _ x74
              have x75 : wy.cell? ⟨w.heap.size, 1, none⟩ = some (.int .i64 len) := by
                rw [← hwwy]; exact (cell_set ne71 (cell_set ne71 (cell_set ne71 f62 _) _) _)
              have x76 : wy.cell? ⟨wr.heap.size, 3, none⟩ = some (.int .i64 x.bx) := by
                rw [← hwwy]; exact (cell_set ne72 (cell_set ne72 (cell_set ne72 f63 _) _) _)
              have zzx76 : wr.heap.size < wy.heap.size := World.block_lt_of_cell? _ _ x76
              have x77 : wy.cell? ⟨wr.heap.size, 4, none⟩ = some (.int .i64 x.b_y) := by
                rw [← hwwy]; exact (cell_set ne72 (cell_set ne72 (cell_set ne72 f64 _) _) _)
              have x78 : wy.cell? ⟨wr.heap.size, 11, none⟩ = some (.int .i64 x.n) := by
                rw [← hwwy]; exact (cell_set ne72 (cell_set ne72 (cell_set ne72 f65 _) _) _)
              have x79 : wy.cell? ⟨b, o + (k + 1) * 13 + 11, none⟩ = some (.int .i64 y.n) := by
                rw [← hwwy]; exact (cell_set ne73 (cell_set ne73 (cell_set ne73 f66 _) _) _)
              have zzx79 : b < wy.heap.size := World.block_lt_of_cell? _ _ x79
              have x80 : wy.cell? ⟨b, o + (k + 1) * 13 + 12, none⟩ = some (.bool true) := by
                rw [← hwwy]; exact (cell_set ne73 (cell_set ne73 (cell_set ne73 f67 _) _) _)
              obtain ⟨x81a, x81b⟩ : wy.cell? ⟨wq.heap.size, 0, none⟩ = some (.int .i64 (k : Int)) ∧ wy.frozen? ⟨wq.heap.size, 0, none⟩ = false := by
                rw [← hwwy]; exact (own_set (by simp) (own_set (by simp) (own_same ⟨o68a, o68b⟩ _) _) _)
              have zzx81a : wq.heap.size < wy.heap.size := World.block_lt_of_cell? _ _ x81a
              obtain ⟨x82a, x82b⟩ : wy.cell? ⟨wq.heap.size, 1, none⟩ = some (.int .i64 x.n) ∧ wy.frozen? ⟨wq.heap.size, 1, none⟩ = false := by
                rw [← hwwy]; exact (own_set (by simp) (own_same (own_set (by simp) ⟨o69a, o69b⟩ _) _) _)
              obtain ⟨x83a, x83b⟩ : wy.cell? ⟨wq.heap.size, 2, none⟩ = some (.bool false) ∧ wy.frozen? ⟨wq.heap.size, 2, none⟩ = false := by
                rw [← hwwy]; exact (own_same (own_set (by simp) (own_set (by simp) ⟨o70a, o70b⟩ _) _) _)
              have Bwy : Below w.heap.size w wy := by
                rw [← hwwy]
                (repeat (with_reducible (first | assumption | exact Below.refl _ _ | refine Below.drew ?_ | refine below_drewN ?_ _ | refine below_set ?_ (by simp; try omega) _ | refine below_alloc ?_ (Nat.le_refl _) _ | refine below_sub (by assumption) ?_)))
              clear f61 zf61 f62 f63 zf63 f64 f65 f66 zf66 f67 o68a o68b zo68 o69a o69b o70a o70b
              clear hwwy
              refine (step_any (some ⟨b, o, none⟩) l cap len k x.n false x.bx x.b_y _ h2 (hide (pathAt_below (show Below w.heap.size w _ by (repeat (with_reducible (first | assumption | exact Below.refl _ _ | refine Below.drew ?_ | refine below_drewN ?_ _ | refine below_set ?_ (by simp; try omega) _ | refine below_alloc ?_ (Nat.le_refl _) _ | refine below_sub (by assumption) ?_)))) hp.out)) ((k : Int), x.n, true, [x.n]) G1.out).mono ?_
              rintro e w8 ⟨S1, cp1, rfl, hi1, hn1, hb8⟩
              have hn2 : Hid (∀ a, S1 = some a → wq.heap.size < a.block) := hide (fun a ha => Nat.lt_of_lt_of_le (by first | assumption | omega | (simp; omega)) (hn1.out a ha))
              obtain ⟨f84, f85, f86, f87, f88, f89, f90⟩ : w8.cell? ⟨w.heap.size, 0, none⟩ = some (.slice (some ⟨b, o, none⟩) l.length cap) ∧ w8.cell? ⟨w.heap.size, 1, none⟩ = some (.int .i64 len) ∧ w8.cell? ⟨wr.heap.size, 3, none⟩ = some (.int .i64 x.bx) ∧ w8.cell? ⟨wr.heap.size, 4, none⟩ = some (.int .i64 x.b_y) ∧ w8.cell? ⟨wr.heap.size, 11, none⟩ = some (.int .i64 x.n) ∧ w8.cell? ⟨b, o + (k + 1) * 13 + 11, none⟩ = some (.int .i64 y.n) ∧ w8.cell? ⟨b, o + (k + 1) * 13 + 12, none⟩ = some (.bool true) := by
                refine ⟨?_, ?_, ?_, ?_, ?_, ?_, ?_⟩ <;> (refine cell_below hb8 ?_; repeat (first | (with_reducible assumption) | ((with_reducible refine cell_set ?_ ?_ _); (· first | (simp; done) | (simp; omega) | omega)) | ((with_reducible refine cell_new ?_ ?_); (· (simp; done)); (· rfl)) | (with_reducible refine cell_alloc ?_ _) | (with_reducible refine cell_drew ?_) | (with_reducible refine cell_drewN ?_ _) | (with_reducible refine cell_below (by assumption) ?_)))
              have zf84 : w.heap.size < w8.heap.size := World.block_lt_of_cell? _ _ f84
              have zf86 : wr.heap.size < w8.heap.size := World.block_lt_of_cell? _ _ f86
              have zf89 : b < w8.heap.size := World.block_lt_of_cell? _ _ f89
              obtain ⟨⟨o91a, o91b⟩, ⟨o92a, o92b⟩, ⟨o93a, o93b⟩⟩ : (w8.cell? ⟨wq.heap.size, 0, none⟩ = some (.int .i64 (k : Int)) ∧ w8.frozen? ⟨wq.heap.size, 0, none⟩ = false) ∧ (w8.cell? ⟨wq.heap.size, 1, none⟩ = some (.int .i64 x.n) ∧ w8.frozen? ⟨wq.heap.size, 1, none⟩ = false) ∧ (w8.cell? ⟨wq.heap.size, 2, none⟩ = some (.bool false) ∧ w8.frozen? ⟨wq.heap.size, 2, none⟩ = false) := by
                refine ⟨?_, ?_, ?_⟩ <;> (refine own_below hb8 ?_; repeat (first | (refine ⟨?_, ?_⟩ <;> (with_reducible assumption)) | (with_reducible apply own_same) | ((with_reducible refine own_set ?_ ?_ _); (· first | (simp; done) | (simp; omega))) | ((with_reducible refine own_new ?_ ?_); (· (simp; done)); (· rfl)) | (with_reducible refine own_alloc ?_ _) | (with_reducible refine own_drew ?_) | (with_reducible refine own_drewN ?_ _) | (with_reducible refine own_below (by assumption) ?_)))
              have zo91 : wq.heap.size < w8.heap.size := World.block_lt_of_cell? _ _ o91a
              clear x74 zzx74 x75 x76 zzx76 x77 x78 x79 zzx79 x80 x81a x81b zzx81a x82a x82b x83a x83b
              go_wp2_with fail
              have hiz : Hid (intsAt ((((w8.setCell ⟨wq.heap.size, 0, none⟩ (.int .i64 (k : Int))).setCell ⟨wq.heap.size, 1, none⟩ (.int .i64 x.n)).setCell ⟨wq.heap.size, 2, none⟩ (.bool true))) S1 [x.n]) := hide (intsAt_set3b hn2.out hi1.out)
              generalize hwwz : (((w8.setCell ⟨wq.heap.size, 0, none⟩ (.int .i64 (k : Int))).setCell ⟨wq.heap.size, 1, none⟩ (.int .i64 x.n)).setCell ⟨wq.heap.size, 2, none⟩ (.bool true)) = wz
              have ne94 : wq.heap.size ≠ w.heap.size := by omega
              have ne95 : wq.heap.size ≠ wr.heap.size := by omega
              have ne96 : wq.heap.size ≠ b := by omega
              have x97 : wz.cell? ⟨w.heap.size, 0, none⟩ = some (.slice (some ⟨b, o, none⟩) l.length cap) := by
                rw [← hwwz]; exact (cell_set ne94 (cell_set ne94 (cell_set ne94 f84 _) _) _)
              have zzx97 : w.heap.size < wz.heap.size := World.block_lt_of_cell? _ _ x97
              have x98 : wz.cell? ⟨w.heap.size, 1, none⟩ = some (.int .i64 len) := by
                rw [← hwwz]; exact (cell_set ne94 (cell_set ne94 (cell_set ne94 f85 _) _) _)
              have x99 : wz.cell? ⟨wr.heap.size, 3, none⟩ = some (.int .i64 x.bx) := by
                rw [← hwwz]; exact (cell_set ne95 (cell_set ne95 (cell_set ne95 f86 _) _) _)
              have zzx99 : wr.heap.size < wz.heap.size := World.block_lt_of_cell? _ _ x99
              have x100 : wz.cell? ⟨wr.heap.size, 4, none⟩ = some (.int .i64 x.b_y) := by
                rw [← hwwz]; exact (cell_set ne95 (cell_set ne95 (cell_set ne95 f87 _) _) _)
              have x101 : wz.cell? ⟨wr.heap.size, 11, none⟩ = some (.int .i64 x.n) := by
                rw [← hwwz]; exact (cell_set ne95 (cell_set ne95 (cell_set ne95 f88 _) _) _)
              have x102 : wz.cell? ⟨b, o + (k + 1) * 13 + 11, none⟩ = some (.int .i64 y.n) := by
                rw [← hwwz]; exact (cell_set ne96 (cell_set ne96 (cell_set ne96 f89 _) _) _)
              have zzx102 : b < wz.heap.size := World.block_lt_of_cell? _ _ x102
              have x103 : wz.cell? ⟨b, o + (k + 1) * 13 + 12, none⟩ = some (.bool true) := by
                rw [← hwwz]; exact (cell_set ne96 (cell_set ne96 (cell_set ne96 f90 _) _) _)
              obtain ⟨x104a, x104b⟩ : wz.cell? ⟨wq.heap.size, 0, none⟩ = some (.int .i64 (k : Int)) ∧ wz.frozen? ⟨wq.heap.size, 0, none⟩ = false := by
                rw [← hwwz]; exact (own_set (by simp) (own_set (by simp) (own_same ⟨o91a, o91b⟩ _) _) _)
              have zzx104a : wq.heap.size < wz.heap.size := World.block_lt_of_cell? _ _ x104a
              obtain ⟨x105a, x105b⟩ : wz.cell? ⟨wq.heap.size, 1, none⟩ = some (.int .i64 x.n) ∧ wz.frozen? ⟨wq.heap.size, 1, none⟩ = false := by
                rw [← hwwz]; exact (own_set (by simp) (own_same (own_set (by simp) ⟨o92a, o92b⟩ _) _) _)
              obtain ⟨x106a, x106b⟩ : wz.cell? ⟨wq.heap.size, 2, none⟩ = some (.bool true) ∧ wz.frozen? ⟨wq.heap.size, 2, none⟩ = false := by
                rw [← hwwz]; exact (own_same (own_set (by simp) (own_set (by simp) ⟨o93a, o93b⟩ _) _) _)
              have Bwz : Below w.heap.size w wz := by
                rw [← hwwz]
                (repeat (with_reducible (first | assumption | exact Below.refl _ _ | refine Below.drew ?_ | refine below_drewN ?_ _ | refine below_set ?_ (by simp; try omega) _ | refine below_alloc ?_ (Nat.le_refl _) _ | refine below_sub (by assumption) ?_)))
              clear f84 zf84 f85 f86 zf86 f87 f88 f89 zf89 f90 o91a o91b zo91 o92a o92b o93a o93b
              rw [hwwz] at hiz
              clear hwwz
              skip
              go_wp2_with fail
              go_quiet (fail)
              go_wp2_with fail
              refine (same_eq S1 (some ⟨wz.heap.size, 0, none⟩) cp1 1 [x.n] _ (by simp) (hide (intsAt_below (show Below wz.heap.size wz _ by (repeat (with_reducible (first | assumption | exact Below.refl _ _ | refine Below.drew ?_ | refine below_drewN ?_ _ | refine below_set ?_ (by simp; try omega) _ | refine below_alloc ?_ (Nat.le_refl _) _ | refine below_sub (by assumption) ?_)))) hiz.out)) (hide (intsAt_one (by (repeat (first | (with_reducible assumption) | ((with_reducible refine cell_set ?_ ?_ _); (· first | (simp; done) | (simp; omega) | omega)) | ((with_reducible refine cell_new ?_ ?_); (· (simp; done)); (· rfl)) | (with_reducible refine cell_alloc ?_ _) | (with_reducible refine cell_drew ?_) | (with_reducible refine cell_drewN ?_ _) | (with_reducible refine cell_below (by assumption) ?_))))))).mono ?_
              rintro e w9 ⟨rfl, hb9⟩
              obtain ⟨f107, f108, f109, f110, f111, f112, f113⟩ : w9.cell? ⟨w.heap.size, 0, none⟩ = some (.slice (some ⟨b, o, none⟩) l.length cap) ∧ w9.cell? ⟨w.heap.size, 1, none⟩ = some (.int .i64 len) ∧ w9.cell? ⟨wr.heap.size, 3, none⟩ = some (.int .i64 x.bx) ∧ w9.cell? ⟨wr.heap.size, 4, none⟩ = some (.int .i64 x.b_y) ∧ w9.cell? ⟨wr.heap.size, 11, none⟩ = some (.int .i64 x.n) ∧ w9.cell? ⟨b, o + (k + 1) * 13 + 11, none⟩ = some (.int .i64 y.n) ∧ w9.cell? ⟨b, o + (k + 1) * 13 + 12, none⟩ = some (.bool true) := by
                refine ⟨?_, ?_, ?_, ?_, ?_, ?_, ?_⟩ <;> (refine cell_below hb9 ?_; repeat (first | (with_reducible assumption) | ((with_reducible refine cell_set ?_ ?_ _); (· first | (simp; done) | (simp; omega) | omega)) | ((with_reducible refine cell_new ?_ ?_); (· (simp; done)); (· rfl)) | (with_reducible refine cell_alloc ?_ _) | (with_reducible refine cell_drew ?_) | (with_reducible refine cell_drewN ?_ _) | (with_reducible refine cell_below (by assumption) ?_)))
              have zf107 : w.heap.size < w9.heap.size := World.block_lt_of_cell? _ _ f107
              have zf109 : wr.heap.size < w9.heap.size := World.block_lt_of_cell? _ _ f109
              have zf112 : b < w9.heap.size := World.block_lt_of_cell? _ _ f112
              obtain ⟨⟨o114a, o114b⟩, ⟨o115a, o115b⟩, ⟨o116a, o116b⟩⟩ : (w9.cell? ⟨wq.heap.size, 0, none⟩ = some (.int .i64 (k : Int)) ∧ w9.frozen? ⟨wq.heap.size, 0, none⟩ = false) ∧ (w9.cell? ⟨wq.heap.size, 1, none⟩ = some (.int .i64 x.n) ∧ w9.frozen? ⟨wq.heap.size, 1, none⟩ = false) ∧ (w9.cell? ⟨wq.heap.size, 2, none⟩ = some (.bool true) ∧ w9.frozen? ⟨wq.heap.size, 2, none⟩ = false) := by
                refine ⟨?_, ?_, ?_⟩ <;> (refine own_below hb9 ?_; repeat (first | (refine ⟨?_, ?_⟩ <;> (with_reducible assumption)) | (with_reducible apply own_same) | ((with_reducible refine own_set ?_ ?_ _); (· first | (simp; done) | (simp; omega))) | ((with_reducible refine own_new ?_ ?_); (· (simp; done)); (· rfl)) | (with_reducible refine own_alloc ?_ _) | (with_reducible refine own_drew ?_) | (with_reducible refine own_drewN ?_ _) | (with_reducible refine own_below (by assumption) ?_)))
              have zo114 : wq.heap.size < w9.heap.size := World.block_lt_of_cell? _ _ o114a
              clear x97 zzx97 x98 x99 zzx99 x100 x101 x102 zzx102 x103 x104a x104b zzx104a x105a x105b x106a x106b
              go_wp2_with fail
              go_roundw
              case rel => exact ⟨k + 1, (k : Int), x.n, true, by omega, by go_num, hide (fun z hz _ hg => by rw [hy] at hz; injection hz with hz; subst hz; rw [hyg] at hg; cases hg), by (repeat (first | (with_reducible assumption) | ((with_reducible refine cell_set ?_ ?_ _); (· first | (simp; done) | (simp; omega) | omega)) | ((with_reducible refine cell_new ?_ ?_); (· (simp; done)); (· rfl)) | (with_reducible refine cell_alloc ?_ _) | (with_reducible refine cell_drew ?_) | (with_reducible refine cell_drewN ?_ _) | (with_reducible refine cell_below (by assumption) ?_))), by (repeat (first | (with_reducible assumption) | ((with_reducible refine cell_set ?_ ?_ _); (· first | (simp; done) | (simp; omega) | omega)) | ((with_reducible refine cell_new ?_ ?_); (· (simp; done)); (· rfl)) | (with_reducible refine cell_alloc ?_ _) | (with_reducible refine cell_drew ?_) | (with_reducible refine cell_drewN ?_ _) | (with_reducible refine cell_below (by assumption) ?_))), by (repeat (first | (refine ⟨?_, ?_⟩ <;> (with_reducible assumption)) | (with_reducible apply own_same) | ((with_reducible refine own_set ?_ ?_ _); (· first | (simp; done) | (simp; omega))) | ((with_reducible refine own_new ?_ ?_); (· (simp; done)); (· rfl)) | (with_reducible refine own_alloc ?_ _) | (with_reducible refine own_drew ?_) | (with_reducible refine own_drewN ?_ _) | (with_reducible refine own_below (by assumption) ?_))), by (repeat (first | (refine ⟨?_, ?_⟩ <;> (with_reducible assumption)) | (with_reducible apply own_same) | ((with_reducible refine own_set ?_ ?_ _); (· first | (simp; done) | (simp; omega))) | ((with_reducible refine own_new ?_ ?_); (· (simp; done)); (· rfl)) | (with_reducible refine own_alloc ?_ _) | (with_reducible refine own_drew ?_) | (with_reducible refine own_drewN ?_ _) | (with_reducible refine own_below (by assumption) ?_))), by (repeat (first | (refine ⟨?_, ?_⟩ <;> (with_reducible assumption)) | (with_reducible apply own_same) | ((with_reducible refine own_set ?_ ?_ _); (· first | (simp; done) | (simp; omega))) | ((with_reducible refine own_new ?_ ?_); (· (simp; done)); (· rfl)) | (with_reducible refine own_alloc ?_ _) | (with_reducible refine own_drew ?_) | (with_reducible refine own_drewN ?_ _) | (with_reducible refine own_below (by assumption) ?_))), by (repeat (with_reducible (first | assumption | exact Below.refl _ _ | refine Below.drew ?_ | refine below_drewN ?_ _ | refine below_set ?_ (by simp; try omega) _ | refine below_alloc ?_ (Nat.le_refl _) _ | refine below_sub (by assumption) ?_)))⟩
              case measure => simp [intOf]; omega
          · have TL : ((k : Int) + 1 == (l.length : Int)) = true := by rw [beq_iff_eq]; omega
            have hy : l[k + 1]? = none := List.getElem?_eq_none (by omega)
            have hl : lastB l k = true := by unfold lastB; rw [hy]
            have G1 : Hid (((k : Int), x.n, true, [x.n]) = stepR l len k x.n false x.bx x.b_y) := hide (by rw [ST.out _ x.n (SS.out.1 hl)])
            go_wp2_with fail
            refine (start_any (some ⟨b, o, none⟩) l cap len k _ h2 (hide (pathAt_below (show Below w.heap.size w _ by (repeat (with_reducible (first | assumption | exact Below.refl _ _ | refine Below.drew ?_ | refine below_drewN ?_ _ | refine below_set ?_ (by simp; try omega) _ | refine below_alloc ?_ (Nat.le_refl _) _ | refine below_sub (by assumption) ?_)))) hp.out)) ((k : Int), x.n, (0 : Int)) SF.out).mono ?_
            rintro e w7 ⟨rfl, hb7⟩
            obtain ⟨f61, f62, f63, f64, f65⟩ : w7.cell? ⟨w.heap.size, 0, none⟩ = some (.slice (some ⟨b, o, none⟩) l.length cap) ∧ w7.cell? ⟨w.heap.size, 1, none⟩ = some (.int .i64 len) ∧ w7.cell? ⟨wr.heap.size, 3, none⟩ = some (.int .i64 x.bx) ∧ w7.cell? ⟨wr.heap.size, 4, none⟩ = some (.int .i64 x.b_y) ∧ w7.cell? ⟨wr.heap.size, 11, none⟩ = some (.int .i64 x.n) := by
              refine ⟨?_, ?_, ?_, ?_, ?_⟩ <;> (refine cell_below hb7 ?_; repeat (first | (with_reducible assumption) | ((with_reducible refine cell_set ?_ ?_ _); (· first | (simp; done) | (simp; omega) | omega)) | ((with_reducible refine cell_new ?_ ?_); (· (simp; done)); (· rfl)) | (with_reducible refine cell_alloc ?_ _) | (with_reducible refine cell_drew ?_) | (with_reducible refine cell_drewN ?_ _) | (with_reducible refine cell_below (by assumption) ?_)))
            have zf61 : w.heap.size < w7.heap.size := World.block_lt_of_cell? _ _ f61
            have zf63 : wr.heap.size < w7.heap.size := World.block_lt_of_cell? _ _ f63
            obtain ⟨⟨o66a, o66b⟩, ⟨o67a, o67b⟩, ⟨o68a, o68b⟩⟩ : (w7.cell? ⟨wq.heap.size, 0, none⟩ = some (.int .i64 el) ∧ w7.frozen? ⟨wq.heap.size, 0, none⟩ = false) ∧ (w7.cell? ⟨wq.heap.size, 1, none⟩ = some (.int .i64 e0) ∧ w7.frozen? ⟨wq.heap.size, 1, none⟩ = false) ∧ (w7.cell? ⟨wq.heap.size, 2, none⟩ = some (.bool dn) ∧ w7.frozen? ⟨wq.heap.size, 2, none⟩ = false) := by
              refine ⟨?_, ?_, ?_⟩ <;> (refine own_below hb7 ?_; repeat (first | (refine ⟨?_, ?_⟩ <;> (with_reducible assumption)) | (with_reducible apply own_same) | ((with_reducible refine own_set ?_ ?_ _); (· first | (simp; done) | (simp; omega))) | ((with_reducible refine own_new ?_ ?_); (· (simp; done)); (· rfl)) | (with_reducible refine own_alloc ?_ _) | (with_reducible refine own_drew ?_) | (with_reducible refine own_drewN ?_ _) | (with_reducible refine own_below (by assumption) ?_)))
            have zo66 : wq.heap.size < w7.heap.size := World.block_lt_of_cell? _ _ o66a
            clear p0 p1 g0a g0b g1a g1b g2a g2b
            go_wp2_with fail
            generalize hwwy : (((w7.setCell ⟨wq.heap.size, 0, none⟩ (.int .i64 (k : Int))).setCell ⟨wq.heap.size, 1, none⟩ (.int .i64 x.n)).setCell ⟨wq.heap.size, 2, none⟩ (.bool false)) = wy
            have ne69 : wq.heap.size ≠ w.heap.size := by omega
            have ne70 : wq.heap.size ≠ wr.heap.size := by omega
            have x71 : wy.cell? ⟨w.heap.size, 0, none⟩ = some (.slice (some ⟨b, o, none⟩) l.length cap) := by
              rw [← hwwy]; exact (cell_set ne69 (cell_set ne69 (cell_set ne69 f61 _) _) _)
            have zzx71 : w.heap.size < wy.heap.size := World.block_lt_of_cell? _ _ x71
            have x72 : wy.cell? ⟨w.heap.size, 1, none⟩ = some (.int .i64 len) := by
              rw [← hwwy]; exact (cell_set ne69 (cell_set ne69 (cell_set ne69 f62 _) _) _)
            have x73 : wy.cell? ⟨wr.heap.size, 3, none⟩ = some (.int .i64 x.bx) := by
              rw [← hwwy]; exact (cell_set ne70 (cell_set ne70 (cell_set ne70 f63 _) _) _)
            have zzx73 : wr.heap.size < wy.heap.size := World.block_lt_of_cell? _ _ x73
            have x74 : wy.cell? ⟨wr.heap.size, 4, none⟩ = some (.int .i64 x.b_y) := by
              rw [← hwwy]; exact (cell_set ne70 (cell_set ne70 (cell_set ne70 f64 _) _) _)
            have x75 : wy.cell? ⟨wr.heap.size, 11, none⟩ = some (.int .i64 x.n) := by
              rw [← hwwy]; exact (cell_set ne70 (cell_set ne70 (cell_set ne70 f65 _) _) _)
            obtain ⟨x76a, x76b⟩ : wy.cell? ⟨wq.heap.size, 0, none⟩ = some (.int .i64 (k : Int)) ∧ wy.frozen? ⟨wq.heap.size, 0, none⟩ = false := by
              rw [← hwwy]; exact (own_set (by simp) (own_set (by simp) (own_same ⟨o66a, o66b⟩ _) _) _)
            have zzx76a : wq.heap.size < wy.heap.size := World.block_lt_of_cell? _ _ x76a
            obtain ⟨x77a, x77b⟩ : wy.cell? ⟨wq.heap.size, 1, none⟩ = some (.int .i64 x.n) ∧ wy.frozen? ⟨wq.heap.size, 1, none⟩ = false := by
              rw [← hwwy]; exact (own_set (by simp) (own_same (own_set (by simp) ⟨o67a, o67b⟩ _) _) _)
            obtain ⟨x78a, x78b⟩ : wy.cell? ⟨wq.heap.size, 2, none⟩ = some (.bool false) ∧ wy.frozen? ⟨wq.heap.size, 2, none⟩ = false := by
              rw [← hwwy]; exact (own_same (own_set (by simp) (own_set (by simp) ⟨o68a, o68b⟩ _) _) _)
            have Bwy : Below w.heap.size w wy := by
              rw [← hwwy]
              (repeat (with_reducible (first | assumption | exact Below.refl _ _ | refine Below.drew ?_ | refine below_drewN ?_ _ | refine below_set ?_ (by simp; try omega) _ | refine below_alloc ?_ (Nat.le_refl _) _ | refine below_sub (by assumption) ?_)))
            clear f61 zf61 f62 f63 zf63 f64 f65 o66a o66b zo66 o67a o67b o68a o68b
            clear hwwy
            refine (step_any (some ⟨b, o, none⟩) l cap len k x.n false x.bx x.b_y _ h2 (hide (pathAt_below (show Below w.heap.size w _ by (repeat (with_reducible (first | assumption | exact Below.refl _ _ | refine Below.drew ?_ | refine below_drewN ?_ _ | refine below_set ?_ (by simp; try omega) _ | refine below_alloc ?_ (Nat.le_refl _) _ | refine below_sub (by assumption) ?_)))) hp.out)) ((k : Int), x.n, true, [x.n]) G1.out).mono ?_
            rintro e w8 ⟨S1, cp1, rfl, hi1, hn1, hb8⟩
            have hn2 : Hid (∀ a, S1 = some a → wq.heap.size < a.block) := hide (fun a ha => Nat.lt_of_lt_of_le (by first | assumption | omega | (simp; omega)) (hn1.out a ha))
            obtain ⟨f79, f80, f81, f82, f83⟩ : w8.cell? ⟨w.heap.size, 0, none⟩ = some (.slice (some ⟨b, o, none⟩) l.length cap) ∧ w8.cell? ⟨w.heap.size, 1, none⟩ = some (.int .i64 len) ∧ w8.cell? ⟨wr.heap.size, 3, none⟩ = some (.int .i64 x.bx) ∧ w8.cell? ⟨wr.heap.size, 4, none⟩ = some (.int .i64 x.b_y) ∧ w8.cell? ⟨wr.heap.size, 11, none⟩ = some (.int .i64 x.n) := by
              refine ⟨?_, ?_, ?_, ?_, ?_⟩ <;> (refine cell_below hb8 ?_; repeat (first | (with_reducible assumption) | ((with_reducible refine cell_set ?_ ?_ _); (· first | (simp; done) | (simp; omega) | omega)) | ((with_reducible refine cell_new ?_ ?_); (· (simp; done)); (· rfl)) | (with_reducible refine cell_alloc ?_ _) | (with_reducible refine cell_drew ?_) | (with_reducible refine cell_drewN ?_ _) | (with_reducible refine cell_below (by assumption) ?_)))
            have zf79 : w.heap.size < w8.heap.size := World.block_lt_of_cell? _ _ f79
            have zf81 : wr.heap.size < w8.heap.size := World.block_lt_of_cell? _ _ f81
            obtain ⟨⟨o84a, o84b⟩, ⟨o85a, o85b⟩, ⟨o86a, o86b⟩⟩ : (w8.cell? ⟨wq.heap.size, 0, none⟩ = some (.int .i64 (k : Int)) ∧ w8.frozen? ⟨wq.heap.size, 0, none⟩ = false) ∧ (w8.cell? ⟨wq.heap.size, 1, none⟩ = some (.int .i64 x.n) ∧ w8.frozen? ⟨wq.heap.size, 1, none⟩ = false) ∧ (w8.cell? ⟨wq.heap.size, 2, none⟩ = some (.bool false) ∧ w8.frozen? ⟨wq.heap.size, 2, none⟩ = false) := by
              refine ⟨?_, ?_, ?_⟩ <;> (refine own_below hb8 ?_; repeat (first | (refine ⟨?_, ?_⟩ <;> (with_reducible assumption)) | (with_reducible apply own_same) | ((with_reducible refine own_set ?_ ?_ _); (· first | (simp; done) | (simp; omega))) | ((with_reducible refine own_new ?_ ?_); (· (simp; done)); (· rfl)) | (with_reducible refine own_alloc ?_ _) | (with_reducible refine own_drew ?_) | (with_reducible refine own_drewN ?_ _) | (with_reducible refine own_below (by assumption) ?_)))
            have zo84 : wq.heap.size < w8.heap.size := World.block_lt_of_cell? _ _ o84a
            clear x71 zzx71 x72 x73 zzx73 x74 x75 x76a x76b zzx76a x77a x77b x78a x78b
            go_wp2_with fail
            have hiz : Hid (intsAt ((((w8.setCell ⟨wq.heap.size, 0, none⟩ (.int .i64 (k : Int))).setCell ⟨wq.heap.size, 1, none⟩ (.int .i64 x.n)).setCell ⟨wq.heap.size, 2, none⟩ (.bool true))) S1 [x.n]) := hide (intsAt_set3b hn2.out hi1.out)
            generalize hwwz : (((w8.setCell ⟨wq.heap.size, 0, none⟩ (.int .i64 (k : Int))).setCell ⟨wq.heap.size, 1, none⟩ (.int .i64 x.n)).setCell ⟨wq.heap.size, 2, none⟩ (.bool true)) = wz
            have ne87 : wq.heap.size ≠ w.heap.size := by omega
            have ne88 : wq.heap.size ≠ wr.heap.size := by omega
            have x89 : wz.cell? ⟨w.heap.size, 0, none⟩ = some (.slice (some ⟨b, o, none⟩) l.length cap) := by
              rw [← hwwz]; exact (cell_set ne87 (cell_set ne87 (cell_set ne87 f79 _) _) _)
            have zzx89 : w.heap.size < wz.heap.size := World.block_lt_of_cell? _ _ x89
            have x90 : wz.cell? ⟨w.heap.size, 1, none⟩ = some (.int .i64 len) := by
              rw [← hwwz]; exact (cell_set ne87 (cell_set ne87 (cell_set ne87 f80 _) _) _)
            have x91 : wz.cell? ⟨wr.heap.size, 3, none⟩ = some (.int .i64 x.bx) := by
              rw [← hwwz]; exact (cell_set ne88 (cell_set ne88 (cell_set ne88 f81 _) _) _)
            have zzx91 : wr.heap.size < wz.heap.size := World.block_lt_of_cell? _ _ x91
            have x92 : wz.cell? ⟨wr.heap.size, 4, none⟩ = some (.int .i64 x.b_y) := by
              rw [← hwwz]; exact (cell_set ne88 (cell_set ne88 (cell_set ne88 f82 _) _) _)
            have x93 : wz.cell? ⟨wr.heap.size, 11, none⟩ = some (.int .i64 x.n) := by
              rw [← hwwz]; exact (cell_set ne88 (cell_set ne88 (cell_set ne88 f83 _) _) _)
            obtain ⟨x94a, x94b⟩ : wz.cell? ⟨wq.heap.size, 0, none⟩ = some (.int .i64 (k : Int)) ∧ wz.frozen? ⟨wq.heap.size, 0, none⟩ = false := by
              rw [← hwwz]; exact (own_set (by simp) (own_set (by simp) (own_same ⟨o84a, o84b⟩ _) _) _)
            have zzx94a : wq.heap.size < wz.heap.size := World.block_lt_of_cell? _ _ x94a
            obtain ⟨x95a, x95b⟩ : wz.cell? ⟨wq.heap.size, 1, none⟩ = some (.int .i64 x.n) ∧ wz.frozen? ⟨wq.heap.size, 1, none⟩ = false := by
              rw [← hwwz]; exact (own_set (by simp) (own_same (own_set (by simp) ⟨o85a, o85b⟩ _) _) _)
            obtain ⟨x96a, x96b⟩ : wz.cell? ⟨wq.heap.size, 2, none⟩ = some (.bool true) ∧ wz.frozen? ⟨wq.heap.size, 2, none⟩ = false := by
              rw [← hwwz]; exact (own_same (own_set (by simp) (own_set (by simp) ⟨o86a, o86b⟩ _) _) _)
            have Bwz : Below w.heap.size w wz := by
              rw [← hwwz]
              (repeat (with_reducible (first | assumption | exact Below.refl _ _ | refine Below.drew ?_ | refine below_drewN ?_ _ | refine below_set ?_ (by simp; try omega) _ | refine below_alloc ?_ (Nat.le_refl _) _ | refine below_sub (by assumption) ?_)))
            clear f79 zf79 f80 f81 zf81 f82 f83 o84a o84b zo84 o85a o85b o86a o86b
            rw [hwwz] at hiz
            clear hwwz
            skip
            go_wp2_with fail
            go_quiet (fail)
            go_wp2_with fail
            refine (same_eq S1 (some ⟨wz.heap.size, 0, none⟩) cp1 1 [x.n] _ (by simp) (hide (intsAt_below (show Below wz.heap.size wz _ by (repeat (with_reducible (first | assumption | exact Below.refl _ _ | refine Below.drew ?_ | refine below_drewN ?_ _ | refine below_set ?_ (by simp; try omega) _ | refine below_alloc ?_ (Nat.le_refl _) _ | refine below_sub (by assumption) ?_)))) hiz.out)) (hide (intsAt_one (by (repeat (first | (with_reducible assumption) | ((with_reducible refine cell_set ?_ ?_ _); (· first | (simp; done) | (simp; omega) | omega)) | ((with_reducible refine cell_new ?_ ?_); (· (simp; done)); (· rfl)) | (with_reducible refine cell_alloc ?_ _) | (with_reducible refine cell_drew ?_) | (with_reducible refine cell_drewN ?_ _) | (with_reducible refine cell_below (by assumption) ?_))))))).mono ?_
            rintro e w9 ⟨rfl, hb9⟩
            obtain ⟨f97, f98, f99, f100, f101⟩ : w9.cell? ⟨w.heap.size, 0, none⟩ = some (.slice (some ⟨b, o, none⟩) l.length cap) ∧ w9.cell? ⟨w.heap.size, 1, none⟩ = some (.int .i64 len) ∧ w9.cell? ⟨wr.heap.size, 3, none⟩ = some (.int .i64 x.bx) ∧ w9.cell? ⟨wr.heap.size, 4, none⟩ = some (.int .i64 x.b_y) ∧ w9.cell? ⟨wr.heap.size, 11, none⟩ = some (.int .i64 x.n) := by
              refine ⟨?_, ?_, ?_, ?_, ?_⟩ <;> (refine cell_below hb9 ?_; repeat (first | (with_reducible assumption) | ((with_reducible refine cell_set ?_ ?_ _); (· first | (simp; done) | (simp; omega) | omega)) | ((with_reducible refine cell_new ?_ ?_); (· (simp; done)); (· rfl)) | (with_reducible refine cell_alloc ?_ _) | (with_reducible refine cell_drew ?_) | (with_reducible refine cell_drewN ?_ _) | (with_reducible refine cell_below (by assumption) ?_)))
            have zf97 : w.heap.size < w9.heap.size := World.block_lt_of_cell? _ _ f97
            have zf99 : wr.heap.size < w9.heap.size := World.block_lt_of_cell? _ _ f99
            obtain ⟨⟨o102a, o102b⟩, ⟨o103a, o103b⟩, ⟨o104a, o104b⟩⟩ : (w9.cell? ⟨wq.heap.size, 0, none⟩ = some (.int .i64 (k : Int)) ∧ w9.frozen? ⟨wq.heap.size, 0, none⟩ = false) ∧ (w9.cell? ⟨wq.heap.size, 1, none⟩ = some (.int .i64 x.n) ∧ w9.frozen? ⟨wq.heap.size, 1, none⟩ = false) ∧ (w9.cell? ⟨wq.heap.size, 2, none⟩ = some (.bool true) ∧ w9.frozen? ⟨wq.heap.size, 2, none⟩ = false) := by
              refine ⟨?_, ?_, ?_⟩ <;> (refine own_below hb9 ?_; repeat (first | (refine ⟨?_, ?_⟩ <;> (with_reducible assumption)) | (with_reducible apply own_same) | ((with_reducible refine own_set ?_ ?_ _); (· first | (simp; done) | (simp; omega))) | ((with_reducible refine own_new ?_ ?_); (· (simp; done)); (· rfl)) | (with_reducible refine own_alloc ?_ _) | (with_reducible refine own_drew ?_) | (with_reducible refine own_drewN ?_ _) | (with_reducible refine own_below (by assumption) ?_)))
            have zo102 : wq.heap.size < w9.heap.size := World.block_lt_of_cell? _ _ o102a
            clear x89 zzx89 x90 x91 zzx91 x92 x93 x94a x94b zzx94a x95a x95b x96a x96b
            go_wp2_with fail
            go_roundw
            case rel => exact ⟨k + 1, (k : Int), x.n, true, by omega, by go_num, hide (fun z hz _ hg => by rw [hy] at hz; cases hz), by (repeat (first | (with_reducible assumption) | ((with_reducible refine cell_set ?_ ?_ _); (· first | (simp; done) | (simp; omega) | omega)) | ((with_reducible refine cell_new ?_ ?_); (· (simp; done)); (· rfl)) | (with_reducible refine cell_alloc ?_ _) | (with_reducible refine cell_drew ?_) | (with_reducible refine cell_drewN ?_ _) | (with_reducible refine cell_below (by assumption) ?_))), by (repeat (first | (with_reducible assumption) | ((with_reducible refine cell_set ?_ ?_ _); (· first | (simp; done) | (simp; omega) | omega)) | ((with_reducible refine cell_new ?_ ?_); (· (simp; done)); (· rfl)) | (with_reducible refine cell_alloc ?_ _) | (with_reducible refine cell_drew ?_) | (with_reducible refine cell_drewN ?_ _) | (with_reducible refine cell_below (by assumption) ?_))), by (repeat (first | (refine ⟨?_, ?_⟩ <;> (with_reducible assumption)) | (with_reducible apply own_same) | ((with_reducible refine own_set ?_ ?_ _); (· first | (simp; done) | (simp; omega))) | ((with_reducible refine own_new ?_ ?_); (· (simp; done)); (· rfl)) | (with_reducible refine own_alloc ?_ _) | (with_reducible refine own_drew ?_) | (with_reducible refine own_drewN ?_ _) | (with_reducible refine own_below (by assumption) ?_))), by (repeat (first | (refine ⟨?_, ?_⟩ <;> (with_reducible assumption)) | (with_reducible apply own_same) | ((with_reducible refine own_set ?_ ?_ _); (· first | (simp; done) | (simp; omega))) | ((with_reducible refine own_new ?_ ?_); (· (simp; done)); (· rfl)) | (with_reducible refine own_alloc ?_ _) | (with_reducible refine own_drew ?_) | (with_reducible refine own_drewN ?_ _) | (with_reducible refine own_below (by assumption) ?_))), by (repeat (first | (refine ⟨?_, ?_⟩ <;> (with_reducible assumption)) | (with_reducible apply own_same) | ((with_reducible refine own_set ?_ ?_ _); (· first | (simp; done) | (simp; omega))) | ((with_reducible refine own_new ?_ ?_); (· (simp; done)); (· rfl)) | (with_reducible refine own_alloc ?_ _) | (with_reducible refine own_drew ?_) | (with_reducible refine own_drewN ?_ _) | (with_reducible refine own_below (by assumption) ?_))), by (repeat (with_reducible (first | assumption | exact Below.refl _ _ | refine Below.drew ?_ | refine below_drewN ?_ _ | refine below_set ?_ (by simp; try omega) _ | refine below_alloc ?_ (Nat.le_refl _) _ | refine below_sub (by assumption) ?_)))⟩
            case measure => simp [intOf]; omega
theorem sequenceStraight_walk {W : World} (S : Option Addr) (l : List El) (cap : Nat) (len : Int) (h2 : l.length ≤ 9223372036854775807) (hp : Hid (pathAt W S l)) (w : World) (hw : w = W := by rfl) :
    Calls Try.prog 6 #[.agg #[.slice S l.length cap, .int .i64 len]] w fun e w' => e = .returned (.bool true) ∧ Below w.heap.size w w' := by
  subst hw
  by_cases hc : chkF l len = 0
  · exact straight_good w S l cap len h2 hp hc
  · exact straight_bad w S l cap len h2 hp _ rfl hc
end Go.Proofs.Ytdfkkknkiioghaa

/-
  SequenceStraight: the row's step: the given statement 'SequenceStraightSaid' out of the walk.
-/
namespace Go.Proofs.Ytdfkkknkiioghaa.sequenceStraight
open Go.ChangeShapes Go.WideShapes Go.ChangeAt Go.RowKit
set_option linter.unusedVariables false

theorem own : ownKnob Try.prog.godebug = none := by kernel_rfl
theorem laidOut : laidOutB Try.prog = true := pf_laid
theorem typed : (Try.f6.params.toList.all fun t => Try.prog.readableRec t && decide (t < Try.prog.types.size)) = true := by kernel_rfl
theorem typed' : ∀ t ∈ Try.f6.params.toList, Try.prog.readableRec t = true ∧ t < Try.prog.types.size := by
  intro t ht
  have h := List.all_eq_true.1 typed t ht
  simpa using h
theorem ct24 : Try.prog.cellTypes Try.prog.depth 24 = some [22, 2] := by kernel_rfl
theorem cn24 : Try.prog.cellsOf 24 = ([22, 2] : List TypeId).length := by kernel_rfl
set_option maxRecDepth 100000 in
theorem lifted (os : Os) (started : os.Started) (H : Type) (enc : TypeId × Value → H) :
    ReturnsInHanded {} Try.checked os 6 .any (Rows.sequenceStraightSpec.pre6 enc Try.prog Try.f6 Rows.sequenceStraightRow.domain false) (Rows.sequenceStraightSpec.post enc Try.prog Try.f6 false true false false) := by
  refine returnsInHanded_of_change (C := Try.checked) own started (by kernel_rfl) Try.func6
    (ChangeSpec.witness6 (enc := enc) (C := Try.checked) false ⟨#[], #[.agg #[.slice none 0 0, .int .i64 0]], []⟩ 8 (by kernel_rfl) (by kernel_rfl) (by kernel_rfl) (by kernel_rfl)) ?_
  intro W base args ds gs before hval0 hW hcnd _
  have hval : ∀ (j : Nat) t v, Try.f6.params[j]? = some t → args[j]? = some v → Value.okWide Try.prog W .any base t v := hval0
  have hW' := hW
  obtain ⟨p, q, hA0, hV, rfl, hfz, hnd⟩ := hW
  have hlen := trodAll_length _ _ _ _ hA0
  rw [Try.params6] at hval hlen
  obtain ⟨v0, rfl⟩ := arr1 hlen.1
  obtain ⟨d0, rfl⟩ := list1 hlen.2
  obtain ⟨lp, rfl, ep, hlp⟩ := ok_agg (Or.inl ⟨_, Try.underlying24⟩) ct24 cn24 (hval 0 24 v0 rfl rfl)
  obtain ⟨pc0, pc1, rfl⟩ := list2 (ep.trans (by rfl))
  have hA' := hA0
  rw [Try.params6] at hA'
  obtain ⟨_, _, hTp, _⟩ := hA'
  obtain ⟨pS, pl, pcap, plen, hpv, hpl, hpp⟩ := path_in hTp ⟨pc0, pc1, rfl⟩
  obtain ⟨rfl, rfl⟩ : pc0 = .slice pS pl.length pcap ∧ pc1 = .int .i64 plen := by simpa using hpv
  refine (sequenceStraight_walk pS pl pcap plen hpl (hide hpp) W).mono fun e W' ⟨he, hb⟩ => ?_
  subst he
  exact ⟨_, rfl, law_post (f := Try.f6) (s := Rows.sequenceStraightSpec) (tb := 4) laidOut typed' rfl (by kernel_rfl) Try.underlying4 hW' ⟨rfl, rfl, rfl⟩ hb⟩

theorem k0 : (Rows.sequenceStraightRow.wf (OpenSpec.ofChange Rows.sequenceStraightSpec)) = true := by kernel_rfl
theorem k3 : (Try.f6.params.all (Try.prog.readableRec ·)) = true := by kernel_rfl
theorem k4 : (namedTie Try.prog Rows.sequenceStraightRow.named Rows.sequenceStraightSpec.vars) = true := by kernel_rfl
theorem k5 : (Rows.sequenceStraightRow.stops == []) = true := by kernel_rfl
theorem k7 : (Rows.sequenceStraightRow.knobs == []) = true := by kernel_rfl
theorem k9 : (Rows.sequenceStraightRow.inPlace == Try.prog.inPlace 6) = true := by kernel_rfl
theorem k10 : (Rows.sequenceStraightRow.unfollowed == Try.prog.unfollowed 6) = true := by kernel_rfl
theorem k11 : (Rows.sequenceStraightRow.recurses == Try.prog.recurses 6) = true := by kernel_rfl
theorem k12 : (Rows.sequenceStraightRow.named == Try.prog.varsNamed 6) = true := by kernel_rfl
theorem k13 : (Rows.sequenceStraightRow.maps == (Try.f6.params.toList ++ Rows.sequenceStraightSpec.plain.varTypes Try.prog).any (Try.prog.mapsRec ·)) = true := by kernel_rfl
theorem k14 : (Rows.sequenceStraightRow.ifaces == (Try.f6.params.toList ++ Rows.sequenceStraightSpec.plain.varTypes Try.prog).any (Try.prog.ifacesRec ·)) = true := by kernel_rfl
theorem k15 : (Rows.sequenceStraightRow.mapsOut == Try.prog.mapsAmong Try.f6.resultTypes.toList) = true := by kernel_rfl
theorem k16 : (Rows.sequenceStraightRow.loops == (Try.f6.params.toList ++ Rows.sequenceStraightSpec.plain.varTypes Try.prog).any (Try.prog.loopsFrom ·)) = true := by kernel_rfl
theorem k17 : (Rows.sequenceStraightRow.wideKeys == (Try.f6.params.toList ++ Rows.sequenceStraightSpec.plain.varTypes Try.prog ++ Try.f6.resultTypes.toList).any (Try.prog.wideKeysFrom ·)) = true := by kernel_rfl
theorem k18 : (Rows.sequenceStraightSpec.vars.all (Try.prog.varReadable ·)) = true := by kernel_rfl
theorem k19 : (Try.f6.resultTypes.all (fun t => Try.prog.readableRec t && decide (t < Try.prog.types.size))) = true := by kernel_rfl
theorem k20 : (Rows.sequenceStraightRow.ifacesOut == Try.f6.resultTypes.toList.any (Try.prog.ifacesRec ·)) = true := by kernel_rfl
theorem k21 : (Rows.sequenceStraightRow.loopsOut == Try.f6.resultTypes.toList.any (Try.prog.loopsFrom ·)) = true := by kernel_rfl
theorem k22 : (Rows.sequenceStraightRow.plainKeys == Try.prog.plainKeys) = true := by kernel_rfl
theorem k23 : (Rows.sequenceStraightRow.shortTexts.isNone) = true := by kernel_rfl
theorem k26 : (Rows.sequenceStraightRow.lifted == Try.prog.liftsFinal) = true := by rw [pf_lifts]; rfl
theorem k27 : (Try.prog.make == some Rows.sequenceStraightRow.make) = true := by rw [pf_make]; rfl
theorem k28 : (Rows.sequenceStraightRow.kinds == (if Rows.sequenceStraightRow.domain.isEmpty then [] else Try.f6.params.toList.map fun t => match Try.prog.underlying t with | some (.int k) => some k | _ => none)) = true := by kernel_rfl
theorem k29 : (Rows.sequenceStraightRow.pinned == Rows.sequenceStraightRow.pinnedBy) = true := by kernel_rfl
theorem k30 : (Rows.sequenceStraightRow.veiled == (Try.f6.params.toList ++ Rows.sequenceStraightSpec.plain.varTypes Try.prog ++ Try.f6.resultTypes.toList).any (Try.prog.veiledRec ·)) = true := by kernel_rfl
theorem k31 : (Rows.sequenceStraightRow.veiledFits Try.prog Try.f6.params.toList (Try.f6.params.toList ++ Rows.sequenceStraightSpec.plain.varTypes Try.prog ++ Try.f6.resultTypes.toList)) = true := by kernel_rfl
set_option maxRecDepth 100000 in
theorem closed : joinedFacts Try.prog 6 Try.f6 Rows.sequenceStraightSpec Rows.sequenceStraightRow = true := (band (band (band (band (band (band (band (band (band (band (band (band (band (band (band (band (band (band (band (band (band (band (band (band (band (band (band (band (band (band (band k0 pf_laid) pf_maps) k3) k4) k5) pf_stops) k7) pf_knobs) k9) k10) k11) k12) k13) k14) k15) k16) k17) k18) k19) k20) k21) k22) k23) pf_heard) pf_enter) k26) k27) k28) k29) k30) k31)
theorem byName : Try.prog.funcNamed Rows.sequenceStraightRow.func = some 6 := by kernel_rfl
theorem inst : Try.f6.isInstance Try.prog Rows.sequenceStraightRow.origin Rows.sequenceStraightRow.targs := of_decide_eq_true (by kernel_rfl)
theorem over : Rows.sequenceStraightRow.holds Try.pinned (OpenSpec.ofChange Rows.sequenceStraightSpec) :=
  OpenClaim.holds_of_wide 6 Try.f6 rfl rfl rfl rfl rfl rfl rfl ⟨rfl, rfl, rfl, rfl, rfl⟩ rfl rfl rfl rfl rfl byName Try.func6 closed
    inst (by unfold Func.isWrapper; rw [if_neg (of_decide_eq_false (by kernel_rfl))]; exact ⟨rfl, rfl⟩)
    (fun os started H enc _ => lifted os started H enc)

/-- The given statement. -/
theorem proved : Rows.SequenceStraightSaid := over
end Go.Proofs.Ytdfkkknkiioghaa.sequenceStraight

