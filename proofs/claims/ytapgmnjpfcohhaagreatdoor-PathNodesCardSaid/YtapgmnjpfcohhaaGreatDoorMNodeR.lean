/-
  The walk of the reference's Node.
-/
import Derived.Test.YtapgmnjpfcohhaaGreatDoorMFixed
import Derived.Test.YtapgmnjpfcohhaaGreatDoorMGeo
import Derived.Test.YtapgmnjpfcohhaaGreatDoorMPathM
import Derived.Test.YtapgmnjpfcohhaaGreatDoorMLawsT
import Derived.Test.YtapgmnjpfcohhaaGreatDoorMPathR
import Derived.Test.YtapgmnjpfcohhaaGreatDoorMSeqP
import Derived.Deep.DeepCutAuto
import Derived.Laws.BitsAllLaws
import Derived.Test.YtapgmnjpfcohhaaGreatDoorProg
import Derived.WalkSpells
import Derived.WalkLawsBesides
import Derived.Deep.QuietTactic
import Derived.BigQuiet
import Derived.Lib.ItoaNum
import Derived.Shelf.Small.Bits
import Derived.Shelf.Strconv.Itoa0
import Derived.Shelf.Bits.Mul64
import Derived.Shelf.Spec.BitsCarry
import Derived.WalkKit
import Derived.ProofKit
import Derived.OpenShut
import Derived.Below
import Derived.ChangeSame
import Derived.Test.YtapgmnjpfcohhaaGreatDoorRows
import Derived.Deep.RegionHeld3
namespace Go.Proofs.YtapgmnjpfcohhaaGreatDoor
open Go.RowKit
set_option linter.unusedVariables false
set_option linter.unusedSimpArgs false
set_option maxRecDepth 100000 in
set_option maxHeartbeats 8000000 in
theorem rnode_err (S : Option Addr) (l : List El) (cap : Nat) (len t : Int) (w : World) (h2 : l.length ≤ 9223372036854775807) (hp : Hid (pathAt w S l)) (E : Int) (hc : chkF l len = E) (h : ¬ E = 0) :
    Calls Tryz.prog 12 #[.agg #[.slice S l.length cap, .int .i64 len], .int .i64 t] w fun e w' => e = .returned (.tuple #[.int .i64 0, .int .i64 E]) ∧ Below w.heap.size w w' := by
  have CK := fun W hb => rchk_any S l cap len W h2 (hide (pathAt_below hb hp.out))
  rw [hc] at CK
  clear hc
  have T : (E != 0) = true := bne_iff_ne.2 h
  go_enter Tryz.func12, Tryz.ntmps12
  go_wp2_with fail
  refine (CK _ (by (repeat (with_reducible (first | assumption | exact Below.refl _ _ | refine Below.drew ?_ | refine below_drewN ?_ _ | refine below_set ?_ (by simp; try omega) _ | refine below_alloc ?_ (Nat.le_refl _) _ | refine below_sub (by assumption) ?_))))).mono ?_
  rintro e w1 ⟨rfl, hb1⟩
  obtain ⟨f1, f2⟩ : w1.cell? ⟨w.heap.size, 0, none⟩ = some (.slice S l.length cap) ∧ w1.cell? ⟨w.heap.size, 1, none⟩ = some (.int .i64 len) := by
    refine ⟨?_, ?_⟩ <;> (refine cell_below hb1 ?_; repeat (first | (with_reducible assumption) | ((with_reducible refine cell_set ?_ ?_ _); (· first | (simp; done) | (simp; omega) | omega)) | ((with_reducible refine cell_new ?_ ?_); (· (simp; done)); (· rfl)) | (with_reducible refine cell_alloc ?_ _) | (with_reducible refine cell_drew ?_) | (with_reducible refine cell_drewN ?_ _) | (with_reducible refine cell_below (by assumption) ?_)))
  have zf1 : w.heap.size < w1.heap.size := World.block_lt_of_cell? _ _ f1
  go_wp2_with fail
  all_goals
    exact bodyPost_ret (v := .tuple #[.int .i64 0, .int .i64 E]) (by simp [results, Tryz.results12, go_sem, *]) rfl ⟨rfl, by (repeat (with_reducible (first | assumption | exact Below.refl _ _ | refine Below.drew ?_ | refine below_drewN ?_ _ | refine below_set ?_ (by simp; try omega) _ | refine below_alloc ?_ (Nat.le_refl _) _ | refine below_sub (by assumption) ?_)))⟩
set_option maxRecDepth 100000 in
set_option maxHeartbeats 8000000 in
theorem rnode_ok (S : Option Addr) (l : List El) (cap : Nat) (len t : Int) (w : World) (h2 : l.length ≤ 9223372036854775807) (hp : Hid (pathAt w S l)) (hc : chkF l len = 0) (R : Int) (hR : R = nodeS l t) :
    Calls Tryz.prog 12 #[.agg #[.slice S l.length cap, .int .i64 len], .int .i64 t] w fun e w' => e = .returned (.tuple #[.int .i64 R, .int .i64 0]) ∧ Below w.heap.size w w' := by
  have CK := fun W hb => rchk_any S l cap len W h2 (hide (pathAt_below hb hp.out))
  rw [hc] at CK
  have l5 := (okPath hc).short
  have eL := hide (fun j y (hy : l[j]? = some y) => chkF_L hc hy)
  have HR := hide hR
  clear hc hR
  go_enter Tryz.func12, Tryz.ntmps12
  go_wp2_with fail
  refine (CK _ (by (repeat (with_reducible (first | assumption | exact Below.refl _ _ | refine Below.drew ?_ | refine below_drewN ?_ _ | refine below_set ?_ (by simp; try omega) _ | refine below_alloc ?_ (Nat.le_refl _) _ | refine below_sub (by assumption) ?_))))).mono ?_
  rintro e w1 ⟨rfl, hb1⟩
  obtain ⟨f1, f2⟩ : w1.cell? ⟨w.heap.size, 0, none⟩ = some (.slice S l.length cap) ∧ w1.cell? ⟨w.heap.size, 1, none⟩ = some (.int .i64 len) := by
    refine ⟨?_, ?_⟩ <;> (refine cell_below hb1 ?_; repeat (first | (with_reducible assumption) | ((with_reducible refine cell_set ?_ ?_ _); (· first | (simp; done) | (simp; omega) | omega)) | ((with_reducible refine cell_new ?_ ?_); (· (simp; done)); (· rfl)) | (with_reducible refine cell_alloc ?_ _) | (with_reducible refine cell_drew ?_) | (with_reducible refine cell_drewN ?_ _) | (with_reducible refine cell_below (by assumption) ?_)))
  have zf1 : w.heap.size < w1.heap.size := World.block_lt_of_cell? _ _ f1
  go_wp2_with fail
  go_loopw [7, 18] (fun a i W => ∃ (k : Nat) (sm : Int), k ≤ l.length ∧ a = .int .i64 sm ∧ i = .int .i64 (k : Int) ∧ Hid (sm = nodeS (l.take k) t) ∧ 0 ≤ sm ∧ sm ≤ k * 60000000 ∧ W.cell? ⟨w.heap.size, 0, none⟩ = some (.slice S l.length cap) ∧ W.cell? ⟨w.heap.size, 1, none⟩ = some (.int .i64 len) ∧ Below w.heap.size w W) (fun a i _ => l.length - (intOf i).toNat)
  case atStart => exact ⟨0, 0, by omega, rfl, rfl, hide rfl, by omega, by omega, by (repeat (first | (with_reducible assumption) | ((with_reducible refine cell_set ?_ ?_ _); (· first | (simp; done) | (simp; omega) | omega)) | ((with_reducible refine cell_new ?_ ?_); (· (simp; done)); (· rfl)) | (with_reducible refine cell_alloc ?_ _) | (with_reducible refine cell_drew ?_) | (with_reducible refine cell_drewN ?_ _) | (with_reducible refine cell_below (by assumption) ?_))), by (repeat (first | (with_reducible assumption) | ((with_reducible refine cell_set ?_ ?_ _); (· first | (simp; done) | (simp; omega) | omega)) | ((with_reducible refine cell_new ?_ ?_); (· (simp; done)); (· rfl)) | (with_reducible refine cell_alloc ?_ _) | (with_reducible refine cell_drew ?_) | (with_reducible refine cell_drewN ?_ _) | (with_reducible refine cell_below (by assumption) ?_))), by (repeat (with_reducible (first | assumption | exact Below.refl _ _ | refine Below.drew ?_ | refine below_drewN ?_ _ | refine below_set ?_ (by simp; try omega) _ | refine below_alloc ?_ (Nat.le_refl _) _ | refine below_sub (by assumption) ?_)))⟩
  case round =>
    obtain ⟨k, sm, hk, rfl, rfl, G, s0, s1, p0, p1, K⟩ := hrel
    have zp : w.heap.size < wr.heap.size := World.block_lt_of_cell? _ _ p0
    by_cases hlt : k < l.length
    · obtain ⟨b, o, rfl⟩ := pathAt_some hp.out (by omega)
      obtain ⟨x, hx⟩ : ∃ x, l[k]? = some x := ⟨_, List.getElem?_eq_getElem hlt⟩
      have hat := pathAt_get (pathAt_below K hp.out) hx
      have xL := eL.out k x hx
      have G2 := hide (nodeS_take hx t)
      clear hx
      have c0 : wr.cell? ⟨b, o + k * 13, none⟩ = some (.bool x.c) := hat.1
      have c1 : wr.cell? ⟨b, o + k * 13 + 1, none⟩ = some (.int .i64 x.ax) := hat.2.1
      have c2 : wr.cell? ⟨b, o + k * 13 + 2, none⟩ = some (.int .i64 x.ay) := hat.2.2.1
      have c3 : wr.cell? ⟨b, o + k * 13 + 3, none⟩ = some (.int .i64 x.bx) := hat.2.2.2.1
      have c4 : wr.cell? ⟨b, o + k * 13 + 4, none⟩ = some (.int .i64 x.b_y) := hat.2.2.2.2.1
      have c5 : wr.cell? ⟨b, o + k * 13 + 5, none⟩ = some (.int .i64 x.cx) := hat.2.2.2.2.2.1
      have c6 : wr.cell? ⟨b, o + k * 13 + 6, none⟩ = some (.int .i64 x.cy) := hat.2.2.2.2.2.2.1
      have c7 : wr.cell? ⟨b, o + k * 13 + 7, none⟩ = some (.int .i64 x.r) := hat.2.2.2.2.2.2.2.1
      have c8 : wr.cell? ⟨b, o + k * 13 + 8, none⟩ = some (.int .i64 x.f) := hat.2.2.2.2.2.2.2.2.1
      have c9 : wr.cell? ⟨b, o + k * 13 + 9, none⟩ = some (.int .i64 x.s) := hat.2.2.2.2.2.2.2.2.2.1
      have c10 : wr.cell? ⟨b, o + k * 13 + 10, none⟩ = some (.int .i64 x.L) := hat.2.2.2.2.2.2.2.2.2.2.1
      have c11 : wr.cell? ⟨b, o + k * 13 + 11, none⟩ = some (.int .i64 x.n) := hat.2.2.2.2.2.2.2.2.2.2.2.1
      have c12 : wr.cell? ⟨b, o + k * 13 + 12, none⟩ = some (.bool x.g) := hat.2.2.2.2.2.2.2.2.2.2.2.2
      clear hat
      have zc : b < wr.heap.size := World.block_lt_of_cell? _ _ c0
      by_cases hn : x.n ≤ t
      · skip
        have G3 : Hid (sm + x.L = nodeS (l.take (k + 1)) t) := hide (by rw [G2.out, if_pos hn, G.out])
        clear G G2
        go_wp2_with fail
        go_roundw
        case rel => exact ⟨k + 1, sm + x.L, by omega, by go_num, by go_num, G3, by omega, by omega, by (repeat (first | (with_reducible assumption) | ((with_reducible refine cell_set ?_ ?_ _); (· first | (simp; done) | (simp; omega) | omega)) | ((with_reducible refine cell_new ?_ ?_); (· (simp; done)); (· rfl)) | (with_reducible refine cell_alloc ?_ _) | (with_reducible refine cell_drew ?_) | (with_reducible refine cell_drewN ?_ _) | (with_reducible refine cell_below (by assumption) ?_))), by (repeat (first | (with_reducible assumption) | ((with_reducible refine cell_set ?_ ?_ _); (· first | (simp; done) | (simp; omega) | omega)) | ((with_reducible refine cell_new ?_ ?_); (· (simp; done)); (· rfl)) | (with_reducible refine cell_alloc ?_ _) | (with_reducible refine cell_drew ?_) | (with_reducible refine cell_drewN ?_ _) | (with_reducible refine cell_below (by assumption) ?_))), by (repeat (with_reducible (first | assumption | exact Below.refl _ _ | refine Below.drew ?_ | refine below_drewN ?_ _ | refine below_set ?_ (by simp; try omega) _ | refine below_alloc ?_ (Nat.le_refl _) _ | refine below_sub (by assumption) ?_)))⟩
        case measure => simp [intOf]; omega
      · skip
        have G3 : Hid (sm = nodeS (l.take (k + 1)) t) := hide (by rw [G2.out, if_neg hn, G.out]; omega)
        have hn2 : t < x.n := by omega
        clear G G2
        go_wp2_with fail
        go_roundw
        case rel => exact ⟨k + 1, sm, by omega, by go_num, by go_num, G3, by omega, by omega, by (repeat (first | (with_reducible assumption) | ((with_reducible refine cell_set ?_ ?_ _); (· first | (simp; done) | (simp; omega) | omega)) | ((with_reducible refine cell_new ?_ ?_); (· (simp; done)); (· rfl)) | (with_reducible refine cell_alloc ?_ _) | (with_reducible refine cell_drew ?_) | (with_reducible refine cell_drewN ?_ _) | (with_reducible refine cell_below (by assumption) ?_))), by (repeat (first | (with_reducible assumption) | ((with_reducible refine cell_set ?_ ?_ _); (· first | (simp; done) | (simp; omega) | omega)) | ((with_reducible refine cell_new ?_ ?_); (· (simp; done)); (· rfl)) | (with_reducible refine cell_alloc ?_ _) | (with_reducible refine cell_drew ?_) | (with_reducible refine cell_drewN ?_ _) | (with_reducible refine cell_below (by assumption) ?_))), by (repeat (with_reducible (first | assumption | exact Below.refl _ _ | refine Below.drew ?_ | refine below_drewN ?_ _ | refine below_set ?_ (by simp; try omega) _ | refine below_alloc ?_ (Nat.le_refl _) _ | refine below_sub (by assumption) ?_)))⟩
        case measure => simp [intOf]; omega
    · obtain rfl : k = l.length := by omega
      obtain rfl : R = sm := by rw [HR.out, G.out, List.take_length]
      clear G
      go_wp2_with fail
      all_goals
        exact bodyPost_ret (v := .tuple #[.int .i64 R, .int .i64 0]) (by simp [results, Tryz.results12, go_sem, *]) rfl ⟨rfl, by (repeat (with_reducible (first | assumption | exact Below.refl _ _ | refine Below.drew ?_ | refine below_drewN ?_ _ | refine below_set ?_ (by simp; try omega) _ | refine below_alloc ?_ (Nat.le_refl _) _ | refine below_sub (by assumption) ?_)))⟩
theorem rnode_any (S : Option Addr) (l : List El) (cap : Nat) (len t : Int) (w : World) (h2 : l.length ≤ 9223372036854775807) (hp : Hid (pathAt w S l)) (R : Int × Int) (hR : R = nodeF l len t) :
    Calls Tryz.prog 12 #[.agg #[.slice S l.length cap, .int .i64 len], .int .i64 t] w fun e w' => e = .returned (.tuple #[.int .i64 R.1, .int .i64 R.2]) ∧ Below w.heap.size w w' := by
  unfold nodeF at hR
  by_cases hc : chkF l len = 0
  · rw [if_neg (by simp [hc])] at hR
    subst hR
    exact rnode_ok S l cap len t w h2 hp hc _ rfl
  · rw [if_pos hc] at hR
    subst hR
    exact rnode_err S l cap len t w h2 hp _ rfl hc
end Go.Proofs.YtapgmnjpfcohhaaGreatDoor
