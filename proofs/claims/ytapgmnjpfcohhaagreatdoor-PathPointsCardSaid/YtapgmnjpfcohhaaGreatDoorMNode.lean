/-
  The walk of path.Node.
-/
import Derived.Test.YtapgmnjpfcohhaaGreatDoorMFixed
import Derived.Test.YtapgmnjpfcohhaaGreatDoorMGeo
import Derived.Test.YtapgmnjpfcohhaaGreatDoorMPathM
import Derived.Test.YtapgmnjpfcohhaaGreatDoorMLawsT
import Derived.Test.YtapgmnjpfcohhaaGreatDoorMPathA
import Derived.Test.YtapgmnjpfcohhaaGreatDoorMSeqP
import Derived.Test.YtapgmnjpfcohhaaGreatDoorMLaws
import Derived.Test.YtapgmnjpfcohhaaGreatDoorMLineA
import Derived.Test.YtapgmnjpfcohhaaGreatDoorMPlain
import Derived.Test.YtapgmnjpfcohhaaGreatDoorMScale
import Derived.Test.YtapgmnjpfcohhaaGreatDoorMTurnB
import Derived.Deep.DeepCutAuto
import Derived.Laws.BitsAllLaws
import Derived.Test.YtapgmnjpfcohhaaGreatDoorProg
import Derived.WalkSpells
import Derived.WalkLawsBesides
import Derived.Deep.QuietTactic
import Derived.BigQuiet
import Derived.Lib.ItoaNum
import Derived.Shelf.Small.Bits
import Derived.Shelf.Strconv.Itoa0
import Derived.Shelf.Bits.Mul64
import Derived.Shelf.Spec.BitsCarry
import Derived.WalkKit
import Derived.ProofKit
import Derived.OpenShut
import Derived.Below
import Derived.ChangeSame
import Derived.Test.YtapgmnjpfcohhaaGreatDoorRows
import Derived.Deep.RegionHeld3
namespace Go.Proofs.YtapgmnjpfcohhaaGreatDoor
open Go.RowKit
set_option linter.unusedVariables false
set_option linter.unusedSimpArgs false
set_option maxRecDepth 100000 in
set_option maxHeartbeats 8000000 in
theorem node_err (S : Option Addr) (l : List El) (cap : Nat) (len t : Int) (w : World) (h2 : l.length ≤ 9223372036854775807) (hp : Hid (pathAt w S l)) (E : Int) (hc : chkF l len = E) (h : ¬ E = 0) :
    Calls Tryz.prog 11 #[.agg #[.slice S l.length cap, .int .i64 len], .int .i64 t] w fun e w' => e = .returned (.tuple #[.int .i64 0, .int .i64 E]) ∧ Below w.heap.size w w' := by
  have CK := fun W hb => chk_any S l cap len W h2 (hide (pathAt_below hb hp.out))
  rw [hc] at CK
  clear hc
  have T : (E != 0) = true := bne_iff_ne.2 h
  go_enter Tryz.func11, Tryz.ntmps11
  go_wp2_with fail
  refine (CK _ (by (repeat (with_reducible (first | assumption | exact Below.refl _ _ | refine Below.drew ?_ | refine below_drewN ?_ _ | refine below_set ?_ (by simp; try omega) _ | refine below_alloc ?_ (Nat.le_refl _) _ | refine below_sub (by assumption) ?_))))).mono ?_
  rintro e w1 ⟨rfl, hb1⟩
  obtain ⟨f1, f2⟩ : w1.cell? ⟨w.heap.size, 0, none⟩ = some (.slice S l.length cap) ∧ w1.cell? ⟨w.heap.size, 1, none⟩ = some (.int .i64 len) := by
    refine ⟨?_, ?_⟩ <;> (refine cell_below hb1 ?_; repeat (first | (with_reducible assumption) | ((with_reducible refine cell_set ?_ ?_ _); (· first | (simp; done) | (simp; omega) | omega)) | ((with_reducible refine cell_new ?_ ?_); (· (simp; done)); (· rfl)) | (with_reducible refine cell_alloc ?_ _) | (with_reducible refine cell_drew ?_) | (with_reducible refine cell_drewN ?_ _) | (with_reducible refine cell_below (by assumption) ?_)))
  have zf1 : w.heap.size < w1.heap.size := World.block_lt_of_cell? _ _ f1
  go_wp2_with fail
  all_goals
    exact bodyPost_ret (v := .tuple #[.int .i64 0, .int .i64 E]) (by simp [results, Tryz.results11, go_sem, *]) rfl ⟨rfl, by (repeat (with_reducible (first | assumption | exact Below.refl _ _ | refine Below.drew ?_ | refine below_drewN ?_ _ | refine below_set ?_ (by simp; try omega) _ | refine below_alloc ?_ (Nat.le_refl _) _ | refine below_sub (by assumption) ?_)))⟩
set_option maxRecDepth 100000 in
set_option maxHeartbeats 8000000 in
theorem node_ok (S : Option Addr) (l : List El) (cap : Nat) (len t : Int) (w : World) (h2 : l.length ≤ 9223372036854775807) (hp : Hid (pathAt w S l)) (hc : chkF l len = 0) (R : Int) (hR : R = nodeS l t) :
    Calls Tryz.prog 11 #[.agg #[.slice S l.length cap, .int .i64 len], .int .i64 t] w fun e w' => e = .returned (.tuple #[.int .i64 R, .int .i64 0]) ∧ Below w.heap.size w w' := by
  have CK := fun W hb => chk_any S l cap len W h2 (hide (pathAt_below hb hp.out))
  rw [hc] at CK
  have l5 := (okPath hc).short
  have eL := hide (fun j y (hy : l[j]? = some y) => chkF_L hc hy)
  have HR := hide hR
  clear hc hR
  go_enter Tryz.func11, Tryz.ntmps11
  go_wp2_with fail
  refine (CK _ (by (repeat (with_reducible (first | assumption | exact Below.refl _ _ | refine Below.drew ?_ | refine below_drewN ?_ _ | refine below_set ?_ (by simp; try omega) _ | refine below_alloc ?_ (Nat.le_refl _) _ | refine below_sub (by assumption) ?_))))).mono ?_
  rintro e w1 ⟨rfl, hb1⟩
  obtain ⟨f1, f2⟩ : w1.cell? ⟨w.heap.size, 0, none⟩ = some (.slice S l.length cap) ∧ w1.cell? ⟨w.heap.size, 1, none⟩ = some (.int .i64 len) := by
    refine ⟨?_, ?_⟩ <;> (refine cell_below hb1 ?_; repeat (first | (with_reducible assumption) | ((with_reducible refine cell_set ?_ ?_ _); (· first | (simp; done) | (simp; omega) | omega)) | ((with_reducible refine cell_new ?_ ?_); (· (simp; done)); (· rfl)) | (with_reducible refine cell_alloc ?_ _) | (with_reducible refine cell_drew ?_) | (with_reducible refine cell_drewN ?_ _) | (with_reducible refine cell_below (by assumption) ?_)))
  have zf1 : w.heap.size < w1.heap.size := World.block_lt_of_cell? _ _ f1
  go_wp2_with fail
  go_loopw [7, 18] (fun a i W => ∃ (k : Nat) (sm : Int), k ≤ l.length ∧ a = .int .i64 sm ∧ i = .int .i64 (k : Int) ∧ Hid (sm = nodeS (l.take k) t) ∧ 0 ≤ sm ∧ sm ≤ k * 60000000 ∧ W.cell? ⟨w.heap.size, 0, none⟩ = some (.slice S l.length cap) ∧ W.cell? ⟨w.heap.size, 1, none⟩ = some (.int .i64 len) ∧ Below w.heap.size w W) (fun a i _ => l.length - (intOf i).toNat)
  case atStart => exact ⟨0, 0, by omega, rfl, rfl, hide rfl, by omega, by omega, by (repeat (first | (with_reducible assumption) | ((with_reducible refine cell_set ?_ ?_ _); (· first | (simp; done) | (simp; omega) | omega)) | ((with_reducible refine cell_new ?_ ?_); (· (simp; done)); (· rfl)) | (with_reducible refine cell_alloc ?_ _) | (with_reducible refine cell_drew ?_) | (with_reducible refine cell_drewN ?_ _) | (with_reducible refine cell_below (by assumption) ?_))), by (repeat (first | (with_reducible assumption) | ((with_reducible refine cell_set ?_ ?_ _); (· first | (simp; done) | (simp; omega) | omega)) | ((with_reducible refine cell_new ?_ ?_); (· (simp; done)); (· rfl)) | (with_reducible refine cell_alloc ?_ _) | (with_reducible refine cell_drew ?_) | (with_reducible refine cell_drewN ?_ _) | (with_reducible refine cell_below (by assumption) ?_))), by (repeat (with_reducible (first | assumption | exact Below.refl _ _ | refine Below.drew ?_ | refine below_drewN ?_ _ | refine below_set ?_ (by simp; try omega) _ | refine below_alloc ?_ (Nat.le_refl _) _ | refine below_sub (by assumption) ?_)))⟩
  case round =>
    obtain ⟨k, sm, hk, rfl, rfl, G, s0, s1, p0, p1, K⟩ := hrel
    have zp : w.heap.size < wr.heap.size := World.block_lt_of_cell? _ _ p0
    by_cases hlt : k < l.length
    · obtain ⟨b, o, rfl⟩ := pathAt_some hp.out (by omega)
      obtain ⟨x, hx⟩ : ∃ x, l[k]? = some x := ⟨_, List.getElem?_eq_getElem hlt⟩
      have hat := pathAt_get (pathAt_below K hp.out) hx
      have xL := eL.out k x hx
      have G2 := hide (nodeS_take hx t)
      clear hx
      have c0 : wr.cell? ⟨b, o + k * 13, none⟩ = some (.bool x.c) := hat.1
      have c1 : wr.cell? ⟨b, o + k * 13 + 1, none⟩ = some (.int .i64 x.ax) := hat.2.1
      have c2 : wr.cell? ⟨b, o + k * 13 + 2, none⟩ = some (.int .i64 x.ay) := hat.2.2.1
      have c3 : wr.cell? ⟨b, o + k * 13 + 3, none⟩ = some (.int .i64 x.bx) := hat.2.2.2.1
      have c4 : wr.cell? ⟨b, o + k * 13 + 4, none⟩ = some (.int .i64 x.b_y) := hat.2.2.2.2.1
      have c5 : wr.cell? ⟨b, o + k * 13 + 5, none⟩ = some (.int .i64 x.cx) := hat.2.2.2.2.2.1
      have c6 : wr.cell? ⟨b, o + k * 13 + 6, none⟩ = some (.int .i64 x.cy) := hat.2.2.2.2.2.2.1
      have c7 : wr.cell? ⟨b, o + k * 13 + 7, none⟩ = some (.int .i64 x.r) := hat.2.2.2.2.2.2.2.1
      have c8 : wr.cell? ⟨b, o + k * 13 + 8, none⟩ = some (.int .i64 x.f) := hat.2.2.2.2.2.2.2.2.1
      have c9 : wr.cell? ⟨b, o + k * 13 + 9, none⟩ = some (.int .i64 x.s) := hat.2.2.2.2.2.2.2.2.2.1
      have c10 : wr.cell? ⟨b, o + k * 13 + 10, none⟩ = some (.int .i64 x.L) := hat.2.2.2.2.2.2.2.2.2.2.1
      have c11 : wr.cell? ⟨b, o + k * 13 + 11, none⟩ = some (.int .i64 x.n) := hat.2.2.2.2.2.2.2.2.2.2.2.1
      have c12 : wr.cell? ⟨b, o + k * 13 + 12, none⟩ = some (.bool x.g) := hat.2.2.2.2.2.2.2.2.2.2.2.2
      clear hat
      have zc : b < wr.heap.size := World.block_lt_of_cell? _ _ c0
      by_cases hn : x.n ≤ t
      · skip
        have G3 : Hid (sm + x.L = nodeS (l.take (k + 1)) t) := hide (by rw [G2.out, if_pos hn, G.out])
        clear G G2
        go_wp2_with fail
        go_roundw
        case rel => exact ⟨k + 1, sm + x.L, by omega, by go_num, by go_num, G3, by omega, by omega, by (repeat (first | (with_reducible assumption) | ((with_reducible refine cell_set ?_ ?_ _); (· first | (simp; done) | (simp; omega) | omega)) | ((with_reducible refine cell_new ?_ ?_); (· (simp; done)); (· rfl)) | (with_reducible refine cell_alloc ?_ _) | (with_reducible refine cell_drew ?_) | (with_reducible refine cell_drewN ?_ _) | (with_reducible refine cell_below (by assumption) ?_))), by (repeat (first | (with_reducible assumption) | ((with_reducible refine cell_set ?_ ?_ _); (· first | (simp; done) | (simp; omega) | omega)) | ((with_reducible refine cell_new ?_ ?_); (· (simp; done)); (· rfl)) | (with_reducible refine cell_alloc ?_ _) | (with_reducible refine cell_drew ?_) | (with_reducible refine cell_drewN ?_ _) | (with_reducible refine cell_below (by assumption) ?_))), by (repeat (with_reducible (first | assumption | exact Below.refl _ _ | refine Below.drew ?_ | refine below_drewN ?_ _ | refine below_set ?_ (by simp; try omega) _ | refine below_alloc ?_ (Nat.le_refl _) _ | refine below_sub (by assumption) ?_)))⟩
        case measure => simp [intOf]; omega
      · skip
        have G3 : Hid (sm = nodeS (l.take (k + 1)) t) := hide (by rw [G2.out, if_neg hn, G.out]; omega)
        have hn2 : t < x.n := by omega
        clear G G2
        go_wp2_with fail
        go_roundw
        case rel => exact ⟨k + 1, sm, by omega, by go_num, by go_num, G3, by omega, by omega, by (repeat (first | (with_reducible assumption) | ((with_reducible refine cell_set ?_ ?_ _); (· first | (simp; done) | (simp; omega) | omega)) | ((with_reducible refine cell_new ?_ ?_); (· (simp; done)); (· rfl)) | (with_reducible refine cell_alloc ?_ _) | (with_reducible refine cell_drew ?_) | (with_reducible refine cell_drewN ?_ _) | (with_reducible refine cell_below (by assumption) ?_))), by (repeat (first | (with_reducible assumption) | ((with_reducible refine cell_set ?_ ?_ _); (· first | (simp; done) | (simp; omega) | omega)) | ((with_reducible refine cell_new ?_ ?_); (· (simp; done)); (· rfl)) | (with_reducible refine cell_alloc ?_ _) | (with_reducible refine cell_drew ?_) | (with_reducible refine cell_drewN ?_ _) | (with_reducible refine cell_below (by assumption) ?_))), by (repeat (with_reducible (first | assumption | exact Below.refl _ _ | refine Below.drew ?_ | refine below_drewN ?_ _ | refine below_set ?_ (by simp; try omega) _ | refine below_alloc ?_ (Nat.le_refl _) _ | refine below_sub (by assumption) ?_)))⟩
        case measure => simp [intOf]; omega
    · obtain rfl : k = l.length := by omega
      obtain rfl : R = sm := by rw [HR.out, G.out, List.take_length]
      clear G
      go_wp2_with fail
      all_goals
        exact bodyPost_ret (v := .tuple #[.int .i64 R, .int .i64 0]) (by simp [results, Tryz.results11, go_sem, *]) rfl ⟨rfl, by (repeat (with_reducible (first | assumption | exact Below.refl _ _ | refine Below.drew ?_ | refine below_drewN ?_ _ | refine below_set ?_ (by simp; try omega) _ | refine below_alloc ?_ (Nat.le_refl _) _ | refine below_sub (by assumption) ?_)))⟩
theorem node_any (S : Option Addr) (l : List El) (cap : Nat) (len t : Int) (w : World) (h2 : l.length ≤ 9223372036854775807) (hp : Hid (pathAt w S l)) (R : Int × Int) (hR : R = nodeF l len t) :
    Calls Tryz.prog 11 #[.agg #[.slice S l.length cap, .int .i64 len], .int .i64 t] w fun e w' => e = .returned (.tuple #[.int .i64 R.1, .int .i64 R.2]) ∧ Below w.heap.size w w' := by
  unfold nodeF at hR
  by_cases hc : chkF l len = 0
  · rw [if_neg (by simp [hc])] at hR
    subst hR
    exact node_ok S l cap len t w h2 hp hc _ rfl
  · rw [if_pos hc] at hR
    subst hR
    exact node_err S l cap len t w h2 hp _ rfl hc
end Go.Proofs.YtapgmnjpfcohhaaGreatDoor
/-
  The walk of path.At.
-/
namespace Go.Proofs.YtapgmnjpfcohhaaGreatDoor
open Go.RowKit
set_option linter.unusedVariables false
set_option linter.unusedSimpArgs false
set_option maxRecDepth 100000 in
set_option maxHeartbeats 8000000 in
theorem pat_err (S : Option Addr) (l : List El) (cap : Nat) (len t : Int) (w : World) (h2 : l.length ≤ 9223372036854775807) (hp : Hid (pathAt w S l)) (E : Int) (hc : chkF l len = E) (h : ¬ E = 0) :
    Calls Tryz.prog 13 #[.agg #[.slice S l.length cap, .int .i64 len], .int .i64 t] w fun e w' => e = .returned (.tuple #[.agg #[.int .i64 0, .int .i64 0], .int .i64 0, .int .i64 E]) ∧ Below w.heap.size w w' := by
  have CK := fun W hb => chk_any S l cap len W h2 (hide (pathAt_below hb hp.out))
  rw [hc] at CK
  clear hc
  have T : (E != 0) = true := bne_iff_ne.2 h
  go_enter Tryz.func13, Tryz.ntmps13
  go_wp2_with fail
  refine (CK _ (by (repeat (with_reducible (first | assumption | exact Below.refl _ _ | refine Below.drew ?_ | refine below_drewN ?_ _ | refine below_set ?_ (by simp; try omega) _ | refine below_alloc ?_ (Nat.le_refl _) _ | refine below_sub (by assumption) ?_))))).mono ?_
  rintro e w1 ⟨rfl, hb1⟩
  obtain ⟨f1, f2⟩ : w1.cell? ⟨w.heap.size, 0, none⟩ = some (.slice S l.length cap) ∧ w1.cell? ⟨w.heap.size, 1, none⟩ = some (.int .i64 len) := by
    refine ⟨?_, ?_⟩ <;> (refine cell_below hb1 ?_; repeat (first | (with_reducible assumption) | ((with_reducible refine cell_set ?_ ?_ _); (· first | (simp; done) | (simp; omega) | omega)) | ((with_reducible refine cell_new ?_ ?_); (· (simp; done)); (· rfl)) | (with_reducible refine cell_alloc ?_ _) | (with_reducible refine cell_drew ?_) | (with_reducible refine cell_drewN ?_ _) | (with_reducible refine cell_below (by assumption) ?_)))
  have zf1 : w.heap.size < w1.heap.size := World.block_lt_of_cell? _ _ f1
  obtain ⟨⟨m3a, m3b⟩, ⟨m4a, m4b⟩⟩ : (w1.cell? ⟨w.heap.size + 1, 0, none⟩ = some (cellV w1 ⟨w.heap.size + 1, 0, none⟩) ∧ w1.frozen? ⟨w.heap.size + 1, 0, none⟩ = false) ∧ (w1.cell? ⟨w.heap.size + 1, 1, none⟩ = some (cellV w1 ⟨w.heap.size + 1, 1, none⟩) ∧ w1.frozen? ⟨w.heap.size + 1, 1, none⟩ = false) := by
    refine ⟨?_, ?_⟩ <;> (refine mine_below hb1 (mine_of (v := .int .i64 0) ?_ ?_) <;> simp [go_sem])
  have zm3 : w.heap.size + 1 < w1.heap.size := World.block_lt_of_cell? _ _ m3a
  go_wp2_with fail
  all_goals
    exact bodyPost_ret (v := .tuple #[.agg #[.int .i64 0, .int .i64 0], .int .i64 0, .int .i64 E]) (by simp [results, Tryz.results13, go_sem, *]) rfl ⟨rfl, by (repeat (with_reducible (first | assumption | exact Below.refl _ _ | refine Below.drew ?_ | refine below_drewN ?_ _ | refine below_set ?_ (by simp; try omega) _ | refine below_alloc ?_ (Nat.le_refl _) _ | refine below_sub (by assumption) ?_)))⟩
set_option maxRecDepth 100000 in
set_option maxHeartbeats 8000000 in
theorem pat_lo (S : Option Addr) (l : List El) (cap : Nat) (len t : Int) (w : World) (h2 : l.length ≤ 9223372036854775807) (hp : Hid (pathAt w S l)) (hc : chkF l len = 0) (h : t < 0) :
    Calls Tryz.prog 13 #[.agg #[.slice S l.length cap, .int .i64 len], .int .i64 t] w fun e w' => e = .returned (.tuple #[.agg #[.int .i64 0, .int .i64 0], .int .i64 0, .int .i64 2]) ∧ Below w.heap.size w w' := by
  have CK := fun W hb => chk_any S l cap len W h2 (hide (pathAt_below hb hp.out))
  rw [hc] at CK
  clear hc
  go_enter Tryz.func13, Tryz.ntmps13
  go_wp2_with fail
  refine (CK _ (by (repeat (with_reducible (first | assumption | exact Below.refl _ _ | refine Below.drew ?_ | refine below_drewN ?_ _ | refine below_set ?_ (by simp; try omega) _ | refine below_alloc ?_ (Nat.le_refl _) _ | refine below_sub (by assumption) ?_))))).mono ?_
  rintro e w1 ⟨rfl, hb1⟩
  obtain ⟨f1, f2⟩ : w1.cell? ⟨w.heap.size, 0, none⟩ = some (.slice S l.length cap) ∧ w1.cell? ⟨w.heap.size, 1, none⟩ = some (.int .i64 len) := by
    refine ⟨?_, ?_⟩ <;> (refine cell_below hb1 ?_; repeat (first | (with_reducible assumption) | ((with_reducible refine cell_set ?_ ?_ _); (· first | (simp; done) | (simp; omega) | omega)) | ((with_reducible refine cell_new ?_ ?_); (· (simp; done)); (· rfl)) | (with_reducible refine cell_alloc ?_ _) | (with_reducible refine cell_drew ?_) | (with_reducible refine cell_drewN ?_ _) | (with_reducible refine cell_below (by assumption) ?_)))
  have zf1 : w.heap.size < w1.heap.size := World.block_lt_of_cell? _ _ f1
  obtain ⟨⟨m3a, m3b⟩, ⟨m4a, m4b⟩⟩ : (w1.cell? ⟨w.heap.size + 1, 0, none⟩ = some (cellV w1 ⟨w.heap.size + 1, 0, none⟩) ∧ w1.frozen? ⟨w.heap.size + 1, 0, none⟩ = false) ∧ (w1.cell? ⟨w.heap.size + 1, 1, none⟩ = some (cellV w1 ⟨w.heap.size + 1, 1, none⟩) ∧ w1.frozen? ⟨w.heap.size + 1, 1, none⟩ = false) := by
    refine ⟨?_, ?_⟩ <;> (refine mine_below hb1 (mine_of (v := .int .i64 0) ?_ ?_) <;> simp [go_sem])
  have zm3 : w.heap.size + 1 < w1.heap.size := World.block_lt_of_cell? _ _ m3a
  go_wp2_with fail
  all_goals
    exact bodyPost_ret (v := .tuple #[.agg #[.int .i64 0, .int .i64 0], .int .i64 0, .int .i64 2]) (by simp [results, Tryz.results13, go_sem, *]) rfl ⟨rfl, by (repeat (with_reducible (first | assumption | exact Below.refl _ _ | refine Below.drew ?_ | refine below_drewN ?_ _ | refine below_set ?_ (by simp; try omega) _ | refine below_alloc ?_ (Nat.le_refl _) _ | refine below_sub (by assumption) ?_)))⟩
set_option maxRecDepth 100000 in
set_option maxHeartbeats 8000000 in
theorem pat_hi (S : Option Addr) (l : List El) (cap : Nat) (len t : Int) (w : World) (h2 : l.length ≤ 9223372036854775807) (hp : Hid (pathAt w S l)) (hc : chkF l len = 0) (h0 : 0 ≤ t) (h : len < t) :
    Calls Tryz.prog 13 #[.agg #[.slice S l.length cap, .int .i64 len], .int .i64 t] w fun e w' => e = .returned (.tuple #[.agg #[.int .i64 0, .int .i64 0], .int .i64 0, .int .i64 2]) ∧ Below w.heap.size w w' := by
  have CK := fun W hb => chk_any S l cap len W h2 (hide (pathAt_below hb hp.out))
  rw [hc] at CK
  clear hc
  go_enter Tryz.func13, Tryz.ntmps13
  go_wp2_with fail
  refine (CK _ (by (repeat (with_reducible (first | assumption | exact Below.refl _ _ | refine Below.drew ?_ | refine below_drewN ?_ _ | refine below_set ?_ (by simp; try omega) _ | refine below_alloc ?_ (Nat.le_refl _) _ | refine below_sub (by assumption) ?_))))).mono ?_
  rintro e w1 ⟨rfl, hb1⟩
  obtain ⟨f1, f2⟩ : w1.cell? ⟨w.heap.size, 0, none⟩ = some (.slice S l.length cap) ∧ w1.cell? ⟨w.heap.size, 1, none⟩ = some (.int .i64 len) := by
    refine ⟨?_, ?_⟩ <;> (refine cell_below hb1 ?_; repeat (first | (with_reducible assumption) | ((with_reducible refine cell_set ?_ ?_ _); (· first | (simp; done) | (simp; omega) | omega)) | ((with_reducible refine cell_new ?_ ?_); (· (simp; done)); (· rfl)) | (with_reducible refine cell_alloc ?_ _) | (with_reducible refine cell_drew ?_) | (with_reducible refine cell_drewN ?_ _) | (with_reducible refine cell_below (by assumption) ?_)))
  have zf1 : w.heap.size < w1.heap.size := World.block_lt_of_cell? _ _ f1
  obtain ⟨⟨m3a, m3b⟩, ⟨m4a, m4b⟩⟩ : (w1.cell? ⟨w.heap.size + 1, 0, none⟩ = some (cellV w1 ⟨w.heap.size + 1, 0, none⟩) ∧ w1.frozen? ⟨w.heap.size + 1, 0, none⟩ = false) ∧ (w1.cell? ⟨w.heap.size + 1, 1, none⟩ = some (cellV w1 ⟨w.heap.size + 1, 1, none⟩) ∧ w1.frozen? ⟨w.heap.size + 1, 1, none⟩ = false) := by
    refine ⟨?_, ?_⟩ <;> (refine mine_below hb1 (mine_of (v := .int .i64 0) ?_ ?_) <;> simp [go_sem])
  have zm3 : w.heap.size + 1 < w1.heap.size := World.block_lt_of_cell? _ _ m3a
  go_wp2_with fail
  all_goals
    exact bodyPost_ret (v := .tuple #[.agg #[.int .i64 0, .int .i64 0], .int .i64 0, .int .i64 2]) (by simp [results, Tryz.results13, go_sem, *]) rfl ⟨rfl, by (repeat (with_reducible (first | assumption | exact Below.refl _ _ | refine Below.drew ?_ | refine below_drewN ?_ _ | refine below_set ?_ (by simp; try omega) _ | refine below_alloc ?_ (Nat.le_refl _) _ | refine below_sub (by assumption) ?_)))⟩
set_option maxRecDepth 100000 in
set_option maxHeartbeats 8000000 in
theorem pat_none (S : Option Addr) (l : List El) (cap : Nat) (len t : Int) (w : World) (h2 : l.length ≤ 9223372036854775807) (hp : Hid (pathAt w S l)) (hc : chkF l len = 0) (h0 : 0 ≤ t) (h : t ≤ len) (hl : l.length = 0) :
    Calls Tryz.prog 13 #[.agg #[.slice S l.length cap, .int .i64 len], .int .i64 t] w fun e w' => e = .returned (.tuple #[.agg #[.int .i64 0, .int .i64 0], .int .i64 0, .int .i64 6]) ∧ Below w.heap.size w w' := by
  have CK := fun W hb => chk_any S l cap len W h2 (hide (pathAt_below hb hp.out))
  rw [hc] at CK
  clear hc
  have T0 : ((l.length : Int) == 0) = true := by rw [hl]; rfl
  clear hl
  go_enter Tryz.func13, Tryz.ntmps13
  go_wp2_with fail
  refine (CK _ (by (repeat (with_reducible (first | assumption | exact Below.refl _ _ | refine Below.drew ?_ | refine below_drewN ?_ _ | refine below_set ?_ (by simp; try omega) _ | refine below_alloc ?_ (Nat.le_refl _) _ | refine below_sub (by assumption) ?_))))).mono ?_
  rintro e w1 ⟨rfl, hb1⟩
  obtain ⟨f1, f2⟩ : w1.cell? ⟨w.heap.size, 0, none⟩ = some (.slice S l.length cap) ∧ w1.cell? ⟨w.heap.size, 1, none⟩ = some (.int .i64 len) := by
    refine ⟨?_, ?_⟩ <;> (refine cell_below hb1 ?_; repeat (first | (with_reducible assumption) | ((with_reducible refine cell_set ?_ ?_ _); (· first | (simp; done) | (simp; omega) | omega)) | ((with_reducible refine cell_new ?_ ?_); (· (simp; done)); (· rfl)) | (with_reducible refine cell_alloc ?_ _) | (with_reducible refine cell_drew ?_) | (with_reducible refine cell_drewN ?_ _) | (with_reducible refine cell_below (by assumption) ?_)))
  have zf1 : w.heap.size < w1.heap.size := World.block_lt_of_cell? _ _ f1
  obtain ⟨⟨m3a, m3b⟩, ⟨m4a, m4b⟩⟩ : (w1.cell? ⟨w.heap.size + 1, 0, none⟩ = some (cellV w1 ⟨w.heap.size + 1, 0, none⟩) ∧ w1.frozen? ⟨w.heap.size + 1, 0, none⟩ = false) ∧ (w1.cell? ⟨w.heap.size + 1, 1, none⟩ = some (cellV w1 ⟨w.heap.size + 1, 1, none⟩) ∧ w1.frozen? ⟨w.heap.size + 1, 1, none⟩ = false) := by
    refine ⟨?_, ?_⟩ <;> (refine mine_below hb1 (mine_of (v := .int .i64 0) ?_ ?_) <;> simp [go_sem])
  have zm3 : w.heap.size + 1 < w1.heap.size := World.block_lt_of_cell? _ _ m3a
  go_wp2_with fail
  all_goals
    exact bodyPost_ret (v := .tuple #[.agg #[.int .i64 0, .int .i64 0], .int .i64 0, .int .i64 6]) (by simp [results, Tryz.results13, go_sem, *]) rfl ⟨rfl, by (repeat (with_reducible (first | assumption | exact Below.refl _ _ | refine Below.drew ?_ | refine below_drewN ?_ _ | refine below_set ?_ (by simp; try omega) _ | refine below_alloc ?_ (Nat.le_refl _) _ | refine below_sub (by assumption) ?_)))⟩
set_option maxRecDepth 100000 in
set_option maxHeartbeats 8000000 in
theorem pat_main (b o : Nat) (l : List El) (cap : Nat) (len t : Int) (w : World) (h2 : l.length ≤ 9223372036854775807) (hp : Hid (pathAt w (some ⟨b, o, none⟩) l)) (hc : chkF l len = 0) (h0 : 0 ≤ t) (h1 : t ≤ len) (T : El × Int) (hT : pickG l t = some T) (R : Int × Int × Int × Int) (hR : R = ptF T.1 T.2) :
    Calls Tryz.prog 13 #[.agg #[.slice (some ⟨b, o, none⟩) l.length cap, .int .i64 len], .int .i64 t] w fun e w' => e = .returned (.tuple #[.agg #[.int .i64 R.1, .int .i64 R.2.1], .int .i64 R.2.2.1, .int .i64 R.2.2.2]) ∧ Below w.heap.size w w' := by
  have CK := fun W hb => chk_any (some ⟨b, o, none⟩) l cap len W h2 (hide (pathAt_below hb hp.out))
  rw [hc] at CK
  have l5 := (okPath hc).short
  have eL := hide (fun j y (hy : l[j]? = some y) => chkF_L hc hy)
  have eV := hide (fun j y (hy : l[j]? = some y) => (okPath hc).err j y hy)
  have hlen := chk_len hc
  have l0 : 0 < l.length := by
    rcases Nat.eq_zero_or_pos l.length with h | h
    · rw [List.length_eq_zero_iff] at h
      rw [h] at hT
      cases hT
    · exact h
  have H0 : Hid (pickG (l.drop 0) t = some T) := hide hT
  have HR := hide hR
  clear hT hR hc
  go_enter Tryz.func13, Tryz.ntmps13
  go_wp2_with fail
  refine (CK _ (by (repeat (with_reducible (first | assumption | exact Below.refl _ _ | refine Below.drew ?_ | refine below_drewN ?_ _ | refine below_set ?_ (by simp; try omega) _ | refine below_alloc ?_ (Nat.le_refl _) _ | refine below_sub (by assumption) ?_))))).mono ?_
  rintro e w1 ⟨rfl, hb1⟩
  obtain ⟨f1, f2⟩ : w1.cell? ⟨w.heap.size, 0, none⟩ = some (.slice (some ⟨b, o, none⟩) l.length cap) ∧ w1.cell? ⟨w.heap.size, 1, none⟩ = some (.int .i64 len) := by
    refine ⟨?_, ?_⟩ <;> (refine cell_below hb1 ?_; repeat (first | (with_reducible assumption) | ((with_reducible refine cell_set ?_ ?_ _); (· first | (simp; done) | (simp; omega) | omega)) | ((with_reducible refine cell_new ?_ ?_); (· (simp; done)); (· rfl)) | (with_reducible refine cell_alloc ?_ _) | (with_reducible refine cell_drew ?_) | (with_reducible refine cell_drewN ?_ _) | (with_reducible refine cell_below (by assumption) ?_)))
  have zf1 : w.heap.size < w1.heap.size := World.block_lt_of_cell? _ _ f1
  obtain ⟨⟨m3a, m3b⟩, ⟨m4a, m4b⟩⟩ : (w1.cell? ⟨w.heap.size + 1, 0, none⟩ = some (cellV w1 ⟨w.heap.size + 1, 0, none⟩) ∧ w1.frozen? ⟨w.heap.size + 1, 0, none⟩ = false) ∧ (w1.cell? ⟨w.heap.size + 1, 1, none⟩ = some (cellV w1 ⟨w.heap.size + 1, 1, none⟩) ∧ w1.frozen? ⟨w.heap.size + 1, 1, none⟩ = false) := by
    refine ⟨?_, ?_⟩ <;> (refine mine_below hb1 (mine_of (v := .int .i64 0) ?_ ?_) <;> simp [go_sem])
  have zm3 : w.heap.size + 1 < w1.heap.size := World.block_lt_of_cell? _ _ m3a
  go_wp2_with fail
  go_loopw [1, 8] (fun a u W => ∃ (k : Nat) (q : Int), k < l.length ∧ a = .int .i64 q ∧ u = .int .i64 (k : Int) ∧ Hid (pickG (l.drop k) q = some T) ∧ 0 ≤ q ∧ q ≤ len ∧ W.cell? ⟨w.heap.size, 0, none⟩ = some (.slice (some ⟨b, o, none⟩) l.length cap) ∧ W.cell? ⟨w.heap.size, 1, none⟩ = some (.int .i64 len) ∧ (W.cell? ⟨w.heap.size + 1, 0, none⟩ = some (cellV W ⟨w.heap.size + 1, 0, none⟩) ∧ W.frozen? ⟨w.heap.size + 1, 0, none⟩ = false) ∧ (W.cell? ⟨w.heap.size + 1, 1, none⟩ = some (cellV W ⟨w.heap.size + 1, 1, none⟩) ∧ W.frozen? ⟨w.heap.size + 1, 1, none⟩ = false) ∧ Below w.heap.size w W) (fun a u _ => l.length - (intOf u).toNat)
  case atStart => exact ⟨0, t, l0, rfl, rfl, H0, h0, h1, f1, f2, ⟨m3a, m3b⟩, ⟨m4a, m4b⟩, by (repeat (with_reducible (first | assumption | exact Below.refl _ _ | refine Below.drew ?_ | refine below_drewN ?_ _ | refine below_set ?_ (by simp; try omega) _ | refine below_alloc ?_ (Nat.le_refl _) _ | refine below_sub (by assumption) ?_)))⟩
  case round =>
    obtain ⟨k, q, hk, rfl, rfl, G, q0, q1, p0, p1, ⟨m0a, m0b⟩, ⟨m1a, m1b⟩, K⟩ := hrel
    obtain ⟨x, hx⟩ : ∃ x, l[k]? = some x := ⟨_, List.getElem?_eq_getElem hk⟩
    have hG := G.out
    rw [pickG_at hx] at hG
    have xL := eL.out k x hx
    have xE := eV.out k x hx
    have hat := pathAt_get (pathAt_below K hp.out) hx
    clear hx G
    obtain ⟨c, ax, ay, bx, b_y, cx, cy, r, f, s, L, n, g⟩ := x
    dsimp only at hG xL
    have c0 : wr.cell? ⟨b, o + k * 13, none⟩ = some (.bool c) := hat.1
    have c1 : wr.cell? ⟨b, o + k * 13 + 1, none⟩ = some (.int .i64 ax) := hat.2.1
    have c2 : wr.cell? ⟨b, o + k * 13 + 2, none⟩ = some (.int .i64 ay) := hat.2.2.1
    have c3 : wr.cell? ⟨b, o + k * 13 + 3, none⟩ = some (.int .i64 bx) := hat.2.2.2.1
    have c4 : wr.cell? ⟨b, o + k * 13 + 4, none⟩ = some (.int .i64 b_y) := hat.2.2.2.2.1
    have c5 : wr.cell? ⟨b, o + k * 13 + 5, none⟩ = some (.int .i64 cx) := hat.2.2.2.2.2.1
    have c6 : wr.cell? ⟨b, o + k * 13 + 6, none⟩ = some (.int .i64 cy) := hat.2.2.2.2.2.2.1
    have c7 : wr.cell? ⟨b, o + k * 13 + 7, none⟩ = some (.int .i64 r) := hat.2.2.2.2.2.2.2.1
    have c8 : wr.cell? ⟨b, o + k * 13 + 8, none⟩ = some (.int .i64 f) := hat.2.2.2.2.2.2.2.2.1
    have c9 : wr.cell? ⟨b, o + k * 13 + 9, none⟩ = some (.int .i64 s) := hat.2.2.2.2.2.2.2.2.2.1
    have c10 : wr.cell? ⟨b, o + k * 13 + 10, none⟩ = some (.int .i64 L) := hat.2.2.2.2.2.2.2.2.2.2.1
    have c11 : wr.cell? ⟨b, o + k * 13 + 11, none⟩ = some (.int .i64 n) := hat.2.2.2.2.2.2.2.2.2.2.2.1
    have c12 : wr.cell? ⟨b, o + k * 13 + 12, none⟩ = some (.bool g) := hat.2.2.2.2.2.2.2.2.2.2.2.2
    clear hat
    have zc : b < wr.heap.size := World.block_lt_of_cell? _ _ c0
    have zp : w.heap.size < wr.heap.size := World.block_lt_of_cell? _ _ p0
    have zm : w.heap.size + 1 < wr.heap.size := World.block_lt_of_cell? _ _ m0a
    by_cases hs : L < q
    · rw [if_pos hs] at hG
      have G2 := hide hG
      clear hG xE
      have hk2 : k + 1 < l.length := by
        rcases Nat.lt_or_ge (k + 1) l.length with h | h
        · exact h
        · have := G2.out
          rw [pickG_none h] at this
          cases this
      go_wp2_with fail
      go_roundw
      case rel => exact ⟨k + 1, q - L, hk2, by go_num, by go_num, G2, by omega, by omega, p0, p1, ⟨m0a, m0b⟩, ⟨m1a, m1b⟩, by (repeat (with_reducible (first | assumption | exact Below.refl _ _ | refine Below.drew ?_ | refine below_drewN ?_ _ | refine below_set ?_ (by simp; try omega) _ | refine below_alloc ?_ (Nat.le_refl _) _ | refine below_sub (by assumption) ?_)))⟩
      case measure => simp [intOf]; omega
    · rw [if_neg hs] at hG
      obtain rfl : ((⟨c, ax, ay, bx, b_y, cx, cy, r, f, s, L, n, g⟩ : El), q) = T := by injection hG
      have hv := xE
      unfold El.err at hv
      dsimp only at hv
      clear hG xE
      rcases c with _ | _
      · skip
        obtain ⟨V1, V2, V3, V4, V5⟩ := elem_straight hv
        have hR : R = (ax + (muldiv 2 (bx - ax) q L).1, ay + (muldiv 2 (b_y - ay) q L).1, (courseF ax ay bx b_y).1, (courseF ax ay bx b_y).2) := HR.out
        have B1 := vld_bds V1
        have B2 := vld_bds V2
        have U1 := md_pt (d := bx - ax) (by omega) q0 (by omega) xL.1 xL.2
        have U2 := md_pt (d := b_y - ay) (by omega) q0 (by omega) xL.1 xL.2
        have MX := fun W => muldivround_any (bx - ax) q L (by constructor <;> omega) (by constructor <;> omega) (by constructor <;> omega) W
        have MY := fun W => muldivround_any (b_y - ay) q L (by constructor <;> omega) (by constructor <;> omega) (by constructor <;> omega) W
        have CO := fun W => course_any ax ay bx b_y W
        clear HR hv V1 V2 V3 V4 V5
        generalize muldiv 2 (bx - ax) q L = X at *
        generalize muldiv 2 (b_y - ay) q L = Y at *
        generalize courseF ax ay bx b_y = C at *
        obtain ⟨X, xe⟩ := X
        obtain ⟨Y, ye⟩ := Y
        obtain ⟨C, ce⟩ := C
        dsimp only at U1 U2 hR
        subst hR
        go_wp2_with fail
        refine (MX _).mono ?_
        rintro e w2 ⟨rfl, n1, rfl⟩
        go_wp2_with fail
        refine (MY _).mono ?_
        rintro e w3 ⟨rfl, n2, rfl⟩
        go_wp2_with fail
        refine (CO _).mono ?_
        rintro e w5 ⟨rfl, hb5⟩
        obtain ⟨f11, f12, f13, f14, f15, f16, f17, f18, f19, f20, f21, f22, f23⟩ : w5.cell? ⟨wr.heap.size, 0, none⟩ = some (.bool false) ∧ w5.cell? ⟨wr.heap.size, 1, none⟩ = some (.int .i64 ax) ∧ w5.cell? ⟨wr.heap.size, 2, none⟩ = some (.int .i64 ay) ∧ w5.cell? ⟨wr.heap.size, 3, none⟩ = some (.int .i64 bx) ∧ w5.cell? ⟨wr.heap.size, 4, none⟩ = some (.int .i64 b_y) ∧ w5.cell? ⟨wr.heap.size, 5, none⟩ = some (.int .i64 cx) ∧ w5.cell? ⟨wr.heap.size, 6, none⟩ = some (.int .i64 cy) ∧ w5.cell? ⟨wr.heap.size, 7, none⟩ = some (.int .i64 r) ∧ w5.cell? ⟨wr.heap.size, 8, none⟩ = some (.int .i64 f) ∧ w5.cell? ⟨wr.heap.size, 9, none⟩ = some (.int .i64 s) ∧ w5.cell? ⟨wr.heap.size, 10, none⟩ = some (.int .i64 L) ∧ w5.cell? ⟨wr.heap.size, 11, none⟩ = some (.int .i64 n) ∧ w5.cell? ⟨wr.heap.size, 12, none⟩ = some (.bool g) := by
          refine ⟨?_, ?_, ?_, ?_, ?_, ?_, ?_, ?_, ?_, ?_, ?_, ?_, ?_⟩ <;> (refine cell_below hb5 ?_; repeat (first | (with_reducible assumption) | ((with_reducible refine cell_set ?_ ?_ _); (· first | (simp; done) | (simp; omega) | omega)) | ((with_reducible refine cell_new ?_ ?_); (· (simp; done)); (· rfl)) | (with_reducible refine cell_alloc ?_ _) | (with_reducible refine cell_drew ?_) | (with_reducible refine cell_drewN ?_ _) | (with_reducible refine cell_below (by assumption) ?_)))
        have zf11 : wr.heap.size < w5.heap.size := World.block_lt_of_cell? _ _ f11
        obtain ⟨⟨m24a, m24b⟩, ⟨m25a, m25b⟩⟩ : (w5.cell? ⟨w.heap.size + 1, 0, none⟩ = some (cellV w5 ⟨w.heap.size + 1, 0, none⟩) ∧ w5.frozen? ⟨w.heap.size + 1, 0, none⟩ = false) ∧ (w5.cell? ⟨w.heap.size + 1, 1, none⟩ = some (cellV w5 ⟨w.heap.size + 1, 1, none⟩) ∧ w5.frozen? ⟨w.heap.size + 1, 1, none⟩ = false) := by
          refine ⟨?_, ?_⟩ <;> (refine mine_below hb5 ?_; repeat (first | (refine ⟨?_, ?_⟩ <;> (with_reducible assumption)) | (with_reducible refine mine_alloc ?_ _) | (with_reducible refine mine_set ?_ _ _) | (with_reducible refine mine_drew ?_) | (with_reducible refine mine_drewN ?_ _) | (with_reducible refine mine_below (by assumption) ?_)))
        have zm24 : w.heap.size + 1 < w5.heap.size := World.block_lt_of_cell? _ _ m24a
        clear m0a m0b m1a m1b
        go_wp2_with fail
        exact bodyPost_ret (v := .tuple #[.agg #[.int .i64 (ax + X), .int .i64 (ay + Y)], .int .i64 C, .int .i64 ce]) (by simp [results, Tryz.results13, go_sem, *]) rfl ⟨rfl, by (repeat (with_reducible (first | assumption | exact Below.refl _ _ | refine Below.drew ?_ | refine below_drewN ?_ _ | refine below_set ?_ (by simp; try omega) _ | refine below_alloc ?_ (Nat.le_refl _) _ | refine below_sub (by assumption) ?_)))⟩
      · skip
        have hR : R = arcAt cx cy r f s q := HR.out
        have AA := fun W => arcat_any cx cy r f s q W R hR
        clear HR hR hv
        go_wp2_with fail
        refine (AA _).mono ?_
        rintro e w5 ⟨rfl, hb5⟩
        obtain ⟨⟨m41a, m41b⟩, ⟨m42a, m42b⟩⟩ : (w5.cell? ⟨w.heap.size + 1, 0, none⟩ = some (cellV w5 ⟨w.heap.size + 1, 0, none⟩) ∧ w5.frozen? ⟨w.heap.size + 1, 0, none⟩ = false) ∧ (w5.cell? ⟨w.heap.size + 1, 1, none⟩ = some (cellV w5 ⟨w.heap.size + 1, 1, none⟩) ∧ w5.frozen? ⟨w.heap.size + 1, 1, none⟩ = false) := by
          refine ⟨?_, ?_⟩ <;> (refine mine_below hb5 ?_; repeat (first | (refine ⟨?_, ?_⟩ <;> (with_reducible assumption)) | (with_reducible refine mine_alloc ?_ _) | (with_reducible refine mine_set ?_ _ _) | (with_reducible refine mine_drew ?_) | (with_reducible refine mine_drewN ?_ _) | (with_reducible refine mine_below (by assumption) ?_)))
        have zm41 : w.heap.size + 1 < w5.heap.size := World.block_lt_of_cell? _ _ m41a
        clear m0a m0b m1a m1b
        go_wp2_with fail
        exact bodyPost_ret (v := .tuple #[.agg #[.int .i64 R.1, .int .i64 R.2.1], .int .i64 R.2.2.1, .int .i64 R.2.2.2]) (by simp [results, Tryz.results13, go_sem, *]) rfl ⟨rfl, by (repeat (with_reducible (first | assumption | exact Below.refl _ _ | refine Below.drew ?_ | refine below_drewN ?_ _ | refine below_set ?_ (by simp; try omega) _ | refine below_alloc ?_ (Nat.le_refl _) _ | refine below_sub (by assumption) ?_)))⟩
theorem pat_any (S : Option Addr) (l : List El) (cap : Nat) (len t : Int) (w : World) (h2 : l.length ≤ 9223372036854775807) (hp : Hid (pathAt w S l)) (R : Int × Int × Int × Int) (hR : R = patF l len t) :
    Calls Tryz.prog 13 #[.agg #[.slice S l.length cap, .int .i64 len], .int .i64 t] w fun e w' => e = .returned (.tuple #[.agg #[.int .i64 R.1, .int .i64 R.2.1], .int .i64 R.2.2.1, .int .i64 R.2.2.2]) ∧ Below w.heap.size w w' := by
  unfold patF at hR
  by_cases hc : chkF l len = 0
  · rw [if_neg (by simp [hc])] at hR
    by_cases ho : t < 0 ∨ len < t
    · rw [if_pos ho] at hR
      subst hR
      by_cases h0 : t < 0
      · exact pat_lo S l cap len t w h2 hp hc h0
      · exact pat_hi S l cap len t w h2 hp hc (by omega) (by omega)
    · rw [if_neg ho] at hR
      by_cases hl : l.length = 0
      · have hn : l = [] := List.length_eq_zero_iff.1 hl
        have : pickG l t = none := by rw [hn]; rfl
        rw [this] at hR
        subst hR
        exact pat_none S l cap len t w h2 hp hc (by omega) (by omega) hl
      · obtain ⟨T, hT⟩ := pickG_some (l := l) (s := t) (fun h => hl (by rw [h]; rfl)) (by rw [← (okPath hc).sum]; omega)
        rw [hT] at hR
        obtain ⟨b, o, rfl⟩ := pathAt_some hp.out (by omega)
        exact pat_main b o l cap len t w h2 hp hc (by omega) (by omega) T hT R hR
  · rw [if_pos hc] at hR
    subst hR
    exact pat_err S l cap len t w h2 hp _ rfl hc
end Go.Proofs.YtapgmnjpfcohhaaGreatDoor
