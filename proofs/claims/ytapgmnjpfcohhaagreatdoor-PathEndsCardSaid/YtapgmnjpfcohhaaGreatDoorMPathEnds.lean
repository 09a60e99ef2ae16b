/-
  The walk of the law PathEnds.
-/
import Derived.Test.YtapgmnjpfcohhaaGreatDoorMAwake27
import Derived.Test.YtapgmnjpfcohhaaGreatDoorMDraw
import Derived.Test.YtapgmnjpfcohhaaGreatDoorMFixed
import Derived.Test.YtapgmnjpfcohhaaGreatDoorMFrame
import Derived.Test.YtapgmnjpfcohhaaGreatDoorMGeo
import Derived.Test.YtapgmnjpfcohhaaGreatDoorMLaid
import Derived.Test.YtapgmnjpfcohhaaGreatDoorMLineA
import Derived.Test.YtapgmnjpfcohhaaGreatDoorMNode
import Derived.Test.YtapgmnjpfcohhaaGreatDoorMPathIn
import Derived.Test.YtapgmnjpfcohhaaGreatDoorMPathM
import Derived.Test.YtapgmnjpfcohhaaGreatDoorMLawsT
import Derived.Test.YtapgmnjpfcohhaaGreatDoorMPlain
import Derived.Test.YtapgmnjpfcohhaaGreatDoorMPathA
import Derived.Test.YtapgmnjpfcohhaaGreatDoorMSeqP
import Derived.Test.YtapgmnjpfcohhaaGreatDoorRows
import Derived.Test.YtapgmnjpfcohhaaGreatDoorCards
import Derived.Test.YtapgmnjpfcohhaaGreatDoorTie
import Derived.SevenTiedAt
import Derived.LaidMore
import Derived.LaidLaws
import Derived.LaidHandle
import Derived.JoinedOf
import Derived.Deep.Slices
import Derived.WalkKit
import Derived.ProofKit
import Derived.OpenShut
import Derived.Below
import Derived.ChangeSame
import Derived.Deep.RegionHeld3
import Derived.Test.YtapgmnjpfcohhaaGreatDoorProg
import Derived.WalkSpells
import Derived.WalkLawsBesides
import Derived.Deep.QuietTactic
import Derived.BigQuiet
import Derived.Lib.ItoaNum
import Derived.Shelf.Small.Bits
import Derived.Shelf.Strconv.Itoa0
import Derived.Shelf.Bits.Mul64
import Derived.Shelf.Spec.BitsCarry
import Derived.Deep.DeepCutAuto
import Derived.Laws.BitsAllLaws
import Derived.MakeChecks
import Derived.BigRegion
import Derived.Laws.Tables
import Derived.Deep.WholeRow
import Derived.StillTailTactics
import Derived.Laws.OwnMore
import Derived.Deep.RegionWith
import Derived.Deep.AppendLies
import Derived.Deep.RegionLaw
import Derived.Lib.Bytealg
import Derived.Lib.Strings
import Derived.Deep.Draws
import Derived.Laws.Strings3
namespace Go.Proofs.YtapgmnjpfcohhaaGreatDoor
open Go.RowKit
set_option linter.unusedVariables false
set_option linter.unusedSimpArgs false
set_option maxRecDepth 100000 in
set_option maxHeartbeats 8000000 in
theorem pathEnds_walk0 (w : World) (S : Option Addr) (l : List El) (cap : Nat) (len : Int) (hu : Hid (usesAt w)) (h2 : l.length ≤ 9223372036854775807) (hp : Hid (pathAt w S l)) :
    Calls Tryz.prog 6 #[.agg #[.slice S l.length cap, .int .i64 len]] w fun e w' => e = .returned (.bool true) ∧ Below w.heap.size w w' := by
  by_cases hc : chkF l len = 0
  rotate_left
  · have T : (chkF l len != 0) = true := bne_iff_ne.2 hc
    have CK := fun W hb => chk_any S l cap len W h2 (hide (pathAt_below (show Below w.heap.size w W from hb) hp.out))
    clear hc
    generalize chkF l len = E at *
    go_enter Tryz.func6, Tryz.ntmps6
    go_wp2_with fail
    refine (awake27_any _ (hide (usesAt_below (show Below w.heap.size w _ by (repeat (with_reducible (first | assumption | exact Below.refl _ _ | refine Below.drew ?_ | refine below_drewN ?_ _ | refine below_set ?_ (by simp; try omega) _ | refine below_alloc ?_ (Nat.le_refl _) _ | refine below_sub (by assumption) ?_)))) hu.out))).mono ?_
    rintro e w1 ⟨rfl, hb1⟩
    obtain ⟨f1, f2⟩ : w1.cell? ⟨w.heap.size, 0, none⟩ = some (.slice S l.length cap) ∧ w1.cell? ⟨w.heap.size, 1, none⟩ = some (.int .i64 len) := by
      refine ⟨?_, ?_⟩ <;> (refine cell_below hb1 ?_; repeat (first | (with_reducible assumption) | ((with_reducible refine cell_set ?_ ?_ _); (· first | (simp; done) | (simp; omega) | omega)) | ((with_reducible refine cell_new ?_ ?_); (· (simp; done)); (· rfl)) | (with_reducible refine cell_alloc ?_ _) | (with_reducible refine cell_drew ?_) | (with_reducible refine cell_drewN ?_ _) | (with_reducible refine cell_below (by assumption) ?_)))
    have zf1 : w.heap.size < w1.heap.size := World.block_lt_of_cell? _ _ f1
    go_wp2_with fail
    refine (CK _ (by (repeat (with_reducible (first | assumption | exact Below.refl _ _ | refine Below.drew ?_ | refine below_drewN ?_ _ | refine below_set ?_ (by simp; try omega) _ | refine below_alloc ?_ (Nat.le_refl _) _ | refine below_sub (by assumption) ?_))))).mono ?_
    rintro e w2 ⟨rfl, hb2⟩
    obtain ⟨f3, f4⟩ : w2.cell? ⟨w.heap.size, 0, none⟩ = some (.slice S l.length cap) ∧ w2.cell? ⟨w.heap.size, 1, none⟩ = some (.int .i64 len) := by
      refine ⟨?_, ?_⟩ <;> (refine cell_below hb2 ?_; repeat (first | (with_reducible assumption) | ((with_reducible refine cell_set ?_ ?_ _); (· first | (simp; done) | (simp; omega) | omega)) | ((with_reducible refine cell_new ?_ ?_); (· (simp; done)); (· rfl)) | (with_reducible refine cell_alloc ?_ _) | (with_reducible refine cell_drew ?_) | (with_reducible refine cell_drewN ?_ _) | (with_reducible refine cell_below (by assumption) ?_)))
    have zf3 : w.heap.size < w2.heap.size := World.block_lt_of_cell? _ _ f3
    clear f1 zf1 f2
    go_wp2_with fail
    all_goals
      go_ret
      exact ⟨rfl, by (repeat (with_reducible (first | assumption | exact Below.refl _ _ | refine Below.drew ?_ | refine below_drewN ?_ _ | refine below_set ?_ (by simp; try omega) _ | refine below_alloc ?_ (Nat.le_refl _) _ | refine below_sub (by assumption) ?_)))⟩
  have CK := fun W hb => chk_any S l cap len W h2 (hide (pathAt_below (show Below w.heap.size w W from hb) hp.out))
  have HE := hide (fun (k : Nat) (x : El) (hx : l[k]? = some x) (hs : x.c = false) => end_point hc hx hs)
  have HS := hide (fun (k : Nat) => sum_take_le (k := k) (ok_lens hc))
  have eL := hide (fun j y (hy : l[j]? = some y) => chkF_L hc hy)
  have hlen := chk_len hc
  have hsum := (okPath hc).sum
  have l5 := (okPath hc).short
  rw [hc] at CK
  clear hc
  rw [← hsum] at HS
  clear hsum
  go_enter Tryz.func6, Tryz.ntmps6
  go_wp2_with fail
  refine (awake27_any _ (hide (usesAt_below (show Below w.heap.size w _ by (repeat (with_reducible (first | assumption | exact Below.refl _ _ | refine Below.drew ?_ | refine below_drewN ?_ _ | refine below_set ?_ (by simp; try omega) _ | refine below_alloc ?_ (Nat.le_refl _) _ | refine below_sub (by assumption) ?_)))) hu.out))).mono ?_
  rintro e w1 ⟨rfl, hb1⟩
  obtain ⟨f1, f2⟩ : w1.cell? ⟨w.heap.size, 0, none⟩ = some (.slice S l.length cap) ∧ w1.cell? ⟨w.heap.size, 1, none⟩ = some (.int .i64 len) := by
    refine ⟨?_, ?_⟩ <;> (refine cell_below hb1 ?_; repeat (first | (with_reducible assumption) | ((with_reducible refine cell_set ?_ ?_ _); (· first | (simp; done) | (simp; omega) | omega)) | ((with_reducible refine cell_new ?_ ?_); (· (simp; done)); (· rfl)) | (with_reducible refine cell_alloc ?_ _) | (with_reducible refine cell_drew ?_) | (with_reducible refine cell_drewN ?_ _) | (with_reducible refine cell_below (by assumption) ?_)))
  have zf1 : w.heap.size < w1.heap.size := World.block_lt_of_cell? _ _ f1
  go_wp2_with fail
  refine (CK _ (by (repeat (with_reducible (first | assumption | exact Below.refl _ _ | refine Below.drew ?_ | refine below_drewN ?_ _ | refine below_set ?_ (by simp; try omega) _ | refine below_alloc ?_ (Nat.le_refl _) _ | refine below_sub (by assumption) ?_))))).mono ?_
  rintro e w2 ⟨rfl, hb2⟩
  obtain ⟨f3, f4⟩ : w2.cell? ⟨w.heap.size, 0, none⟩ = some (.slice S l.length cap) ∧ w2.cell? ⟨w.heap.size, 1, none⟩ = some (.int .i64 len) := by
    refine ⟨?_, ?_⟩ <;> (refine cell_below hb2 ?_; repeat (first | (with_reducible assumption) | ((with_reducible refine cell_set ?_ ?_ _); (· first | (simp; done) | (simp; omega) | omega)) | ((with_reducible refine cell_new ?_ ?_); (· (simp; done)); (· rfl)) | (with_reducible refine cell_alloc ?_ _) | (with_reducible refine cell_drew ?_) | (with_reducible refine cell_drewN ?_ _) | (with_reducible refine cell_below (by assumption) ?_)))
  have zf3 : w.heap.size < w2.heap.size := World.block_lt_of_cell? _ _ f3
  clear f1 zf1 f2
  go_wp2_with fail
  go_loopw [3, 19] (fun a i W => ∃ (k : Nat) (sm : Int), k ≤ l.length ∧ a = .int .i64 sm ∧ i = .int .i64 (k : Int) ∧ Hid (sm = sumL (l.take k)) ∧ 0 ≤ sm ∧ sm ≤ len ∧ W.cell? ⟨w.heap.size, 0, none⟩ = some (.slice S l.length cap) ∧ W.cell? ⟨w.heap.size, 1, none⟩ = some (.int .i64 len) ∧ Below w.heap.size w W) (fun a i _ => l.length - (intOf i).toNat)
  case atStart => exact ⟨0, 0, by omega, rfl, rfl, hide rfl, by omega, by omega, by (repeat (first | (with_reducible assumption) | ((with_reducible refine cell_set ?_ ?_ _); (· first | (simp; done) | (simp; omega) | omega)) | ((with_reducible refine cell_new ?_ ?_); (· (simp; done)); (· rfl)) | (with_reducible refine cell_alloc ?_ _) | (with_reducible refine cell_drew ?_) | (with_reducible refine cell_drewN ?_ _) | (with_reducible refine cell_below (by assumption) ?_))), by (repeat (first | (with_reducible assumption) | ((with_reducible refine cell_set ?_ ?_ _); (· first | (simp; done) | (simp; omega) | omega)) | ((with_reducible refine cell_new ?_ ?_); (· (simp; done)); (· rfl)) | (with_reducible refine cell_alloc ?_ _) | (with_reducible refine cell_drew ?_) | (with_reducible refine cell_drewN ?_ _) | (with_reducible refine cell_below (by assumption) ?_))), by (repeat (with_reducible (first | assumption | exact Below.refl _ _ | refine Below.drew ?_ | refine below_drewN ?_ _ | refine below_set ?_ (by simp; try omega) _ | refine below_alloc ?_ (Nat.le_refl _) _ | refine below_sub (by assumption) ?_)))⟩
  case round =>
    obtain ⟨k, sm, hk, rfl, rfl, G, s0, s1, p0, p1, K⟩ := hrel
    have zp : w.heap.size < wr.heap.size := World.block_lt_of_cell? _ _ p0
    by_cases hlt : k < l.length
    rotate_left
    · go_wp2_with fail
      go_ret
      exact ⟨rfl, by (repeat (with_reducible (first | assumption | exact Below.refl _ _ | refine Below.drew ?_ | refine below_drewN ?_ _ | refine below_set ?_ (by simp; try omega) _ | refine below_alloc ?_ (Nat.le_refl _) _ | refine below_sub (by assumption) ?_)))⟩
    obtain ⟨b, o, rfl⟩ := pathAt_some hp.out (by omega)
    obtain ⟨x, hx⟩ : ∃ x, l[k]? = some x := ⟨_, List.getElem?_eq_getElem hlt⟩
    have hat := pathAt_get (pathAt_below K hp.out) hx
    have xL := eL.out k x hx
    have hb1 := HS.out (k + 1)
    have G2 : Hid (sm + x.L = sumL (l.take (k + 1))) := hide (by rw [sumL_take hx, G.out])
    have hb2 : sm + x.L ≤ len := by rw [G2.out]; exact hb1.2
    have HP := hide (fun hs => HE.out k x hx hs)
    clear hx hb1 G
    obtain ⟨c, ax, ay, bx, b_y, cx, cy, r, f, s, L, n, g⟩ := x
    dsimp only at xL hb2
    have c0 : wr.cell? ⟨b, o + k * 13, none⟩ = some (.bool c) := hat.1
    have c1 : wr.cell? ⟨b, o + k * 13 + 1, none⟩ = some (.int .i64 ax) := hat.2.1
    have c2 : wr.cell? ⟨b, o + k * 13 + 2, none⟩ = some (.int .i64 ay) := hat.2.2.1
    have c3 : wr.cell? ⟨b, o + k * 13 + 3, none⟩ = some (.int .i64 bx) := hat.2.2.2.1
    have c4 : wr.cell? ⟨b, o + k * 13 + 4, none⟩ = some (.int .i64 b_y) := hat.2.2.2.2.1
    have c5 : wr.cell? ⟨b, o + k * 13 + 5, none⟩ = some (.int .i64 cx) := hat.2.2.2.2.2.1
    have c6 : wr.cell? ⟨b, o + k * 13 + 6, none⟩ = some (.int .i64 cy) := hat.2.2.2.2.2.2.1
    have c7 : wr.cell? ⟨b, o + k * 13 + 7, none⟩ = some (.int .i64 r) := hat.2.2.2.2.2.2.2.1
    have c8 : wr.cell? ⟨b, o + k * 13 + 8, none⟩ = some (.int .i64 f) := hat.2.2.2.2.2.2.2.2.1
    have c9 : wr.cell? ⟨b, o + k * 13 + 9, none⟩ = some (.int .i64 s) := hat.2.2.2.2.2.2.2.2.2.1
    have c10 : wr.cell? ⟨b, o + k * 13 + 10, none⟩ = some (.int .i64 L) := hat.2.2.2.2.2.2.2.2.2.2.1
    have c11 : wr.cell? ⟨b, o + k * 13 + 11, none⟩ = some (.int .i64 n) := hat.2.2.2.2.2.2.2.2.2.2.2.1
    have c12 : wr.cell? ⟨b, o + k * 13 + 12, none⟩ = some (.bool g) := hat.2.2.2.2.2.2.2.2.2.2.2.2
    clear hat
    have zc : b < wr.heap.size := World.block_lt_of_cell? _ _ c0
    rcases c with _ | _
    · skip
      have HR : Hid ((bx, b_y, (courseF ax ay bx b_y).1, (0 : Int)) = patF l len (sm + L)) := hide (by have := (HP.out rfl).symm; dsimp only at this; rw [this, ← G2.out])
      have CO := fun W => course_any ax ay bx b_y W
      clear HP
      generalize courseF ax ay bx b_y = C at *
      obtain ⟨C, ce⟩ := C
      go_wp2_with fail
      refine (pat_any (some ⟨b, o, none⟩) l cap len (sm + L) _ h2 (hide (pathAt_below (show Below w.heap.size w _ by (repeat (with_reducible (first | assumption | exact Below.refl _ _ | refine Below.drew ?_ | refine below_drewN ?_ _ | refine below_set ?_ (by simp; try omega) _ | refine below_alloc ?_ (Nat.le_refl _) _ | refine below_sub (by assumption) ?_)))) hp.out)) (bx, b_y, C, 0) HR.out).mono ?_
      rintro e w7 ⟨rfl, hb7⟩
      obtain ⟨f61, f62, f63, f64, f65, f66, f67, f68, f69, f70, f71, f72, f73, f74, f75⟩ : w7.cell? ⟨w.heap.size, 0, none⟩ = some (.slice (some ⟨b, o, none⟩) l.length cap) ∧ w7.cell? ⟨w.heap.size, 1, none⟩ = some (.int .i64 len) ∧ w7.cell? ⟨wr.heap.size, 0, none⟩ = some (.bool false) ∧ w7.cell? ⟨wr.heap.size, 1, none⟩ = some (.int .i64 ax) ∧ w7.cell? ⟨wr.heap.size, 2, none⟩ = some (.int .i64 ay) ∧ w7.cell? ⟨wr.heap.size, 3, none⟩ = some (.int .i64 bx) ∧ w7.cell? ⟨wr.heap.size, 4, none⟩ = some (.int .i64 b_y) ∧ w7.cell? ⟨wr.heap.size, 5, none⟩ = some (.int .i64 cx) ∧ w7.cell? ⟨wr.heap.size, 6, none⟩ = some (.int .i64 cy) ∧ w7.cell? ⟨wr.heap.size, 7, none⟩ = some (.int .i64 r) ∧ w7.cell? ⟨wr.heap.size, 8, none⟩ = some (.int .i64 f) ∧ w7.cell? ⟨wr.heap.size, 9, none⟩ = some (.int .i64 s) ∧ w7.cell? ⟨wr.heap.size, 10, none⟩ = some (.int .i64 L) ∧ w7.cell? ⟨wr.heap.size, 11, none⟩ = some (.int .i64 n) ∧ w7.cell? ⟨wr.heap.size, 12, none⟩ = some (.bool g) := by
        refine ⟨?_, ?_, ?_, ?_, ?_, ?_, ?_, ?_, ?_, ?_, ?_, ?_, ?_, ?_, ?_⟩ <;> (refine cell_below hb7 ?_; repeat (first | (with_reducible assumption) | ((with_reducible refine cell_set ?_ ?_ _); (· first | (simp; done) | (simp; omega) | omega)) | ((with_reducible refine cell_new ?_ ?_); (· (simp; done)); (· rfl)) | (with_reducible refine cell_alloc ?_ _) | (with_reducible refine cell_drew ?_) | (with_reducible refine cell_drewN ?_ _) | (with_reducible refine cell_below (by assumption) ?_)))
      have zf61 : w.heap.size < w7.heap.size := World.block_lt_of_cell? _ _ f61
      have zf63 : wr.heap.size < w7.heap.size := World.block_lt_of_cell? _ _ f63
      clear p0 p1
      go_wp2_with fail
      refine (CO _).mono ?_
      rintro e w8 ⟨rfl, hb8⟩
      obtain ⟨f76, f77, f78, f79, f80, f81, f82, f83, f84, f85, f86, f87, f88, f89, f90, f91, f92⟩ : w8.cell? ⟨w.heap.size, 0, none⟩ = some (.slice (some ⟨b, o, none⟩) l.length cap) ∧ w8.cell? ⟨w.heap.size, 1, none⟩ = some (.int .i64 len) ∧ w8.cell? ⟨wr.heap.size, 0, none⟩ = some (.bool false) ∧ w8.cell? ⟨wr.heap.size, 1, none⟩ = some (.int .i64 ax) ∧ w8.cell? ⟨wr.heap.size, 2, none⟩ = some (.int .i64 ay) ∧ w8.cell? ⟨wr.heap.size, 3, none⟩ = some (.int .i64 bx) ∧ w8.cell? ⟨wr.heap.size, 4, none⟩ = some (.int .i64 b_y) ∧ w8.cell? ⟨wr.heap.size, 5, none⟩ = some (.int .i64 cx) ∧ w8.cell? ⟨wr.heap.size, 6, none⟩ = some (.int .i64 cy) ∧ w8.cell? ⟨wr.heap.size, 7, none⟩ = some (.int .i64 r) ∧ w8.cell? ⟨wr.heap.size, 8, none⟩ = some (.int .i64 f) ∧ w8.cell? ⟨wr.heap.size, 9, none⟩ = some (.int .i64 s) ∧ w8.cell? ⟨wr.heap.size, 10, none⟩ = some (.int .i64 L) ∧ w8.cell? ⟨wr.heap.size, 11, none⟩ = some (.int .i64 n) ∧ w8.cell? ⟨wr.heap.size, 12, none⟩ = some (.bool g) ∧ w8.cell? ⟨w7.heap.size, 0, none⟩ = some (.int .i64 bx) ∧ w8.cell? ⟨w7.heap.size, 1, none⟩ = some (.int .i64 b_y) := by
        refine ⟨?_, ?_, ?_, ?_, ?_, ?_, ?_, ?_, ?_, ?_, ?_, ?_, ?_, ?_, ?_, ?_, ?_⟩ <;> (refine cell_below hb8 ?_; repeat (first | (with_reducible assumption) | ((with_reducible refine cell_set ?_ ?_ _); (· first | (simp; done) | (simp; omega) | omega)) | ((with_reducible refine cell_new ?_ ?_); (· (simp; done)); (· rfl)) | (with_reducible refine cell_alloc ?_ _) | (with_reducible refine cell_drew ?_) | (with_reducible refine cell_drewN ?_ _) | (with_reducible refine cell_below (by assumption) ?_)))
      have zf76 : w.heap.size < w8.heap.size := World.block_lt_of_cell? _ _ f76
      have zf78 : wr.heap.size < w8.heap.size := World.block_lt_of_cell? _ _ f78
      have zf91 : w7.heap.size < w8.heap.size := World.block_lt_of_cell? _ _ f91
      clear f61 zf61 f62 f63 zf63 f64 f65 f66 f67 f68 f69 f70 f71 f72 f73 f74 f75
      go_wp2_with fail
      go_roundw
      case rel => exact ⟨k + 1, sm + L, by omega, by go_num, by go_num, G2, by omega, by omega, by (repeat (first | (with_reducible assumption) | ((with_reducible refine cell_set ?_ ?_ _); (· first | (simp; done) | (simp; omega) | omega)) | ((with_reducible refine cell_new ?_ ?_); (· (simp; done)); (· rfl)) | (with_reducible refine cell_alloc ?_ _) | (with_reducible refine cell_drew ?_) | (with_reducible refine cell_drewN ?_ _) | (with_reducible refine cell_below (by assumption) ?_))), by (repeat (first | (with_reducible assumption) | ((with_reducible refine cell_set ?_ ?_ _); (· first | (simp; done) | (simp; omega) | omega)) | ((with_reducible refine cell_new ?_ ?_); (· (simp; done)); (· rfl)) | (with_reducible refine cell_alloc ?_ _) | (with_reducible refine cell_drew ?_) | (with_reducible refine cell_drewN ?_ _) | (with_reducible refine cell_below (by assumption) ?_))), by (repeat (with_reducible (first | assumption | exact Below.refl _ _ | refine Below.drew ?_ | refine below_drewN ?_ _ | refine below_set ?_ (by simp; try omega) _ | refine below_alloc ?_ (Nat.le_refl _) _ | refine below_sub (by assumption) ?_)))⟩
      case measure => simp [intOf]; omega
    · skip
      obtain ⟨⟨X, Y, C, E⟩, hR⟩ : ∃ R, R = patF l len (sm + L) := ⟨_, rfl⟩
      have HR := hide hR
      clear hR HP
      go_wp2_with fail
      refine (pat_any (some ⟨b, o, none⟩) l cap len (sm + L) _ h2 (hide (pathAt_below (show Below w.heap.size w _ by (repeat (with_reducible (first | assumption | exact Below.refl _ _ | refine Below.drew ?_ | refine below_drewN ?_ _ | refine below_set ?_ (by simp; try omega) _ | refine below_alloc ?_ (Nat.le_refl _) _ | refine below_sub (by assumption) ?_)))) hp.out)) (X, Y, C, E) HR.out).mono ?_
      rintro e w7 ⟨rfl, hb7⟩
      obtain ⟨f61, f62, f63, f64, f65, f66, f67, f68, f69, f70, f71, f72, f73, f74, f75⟩ : w7.cell? ⟨w.heap.size, 0, none⟩ = some (.slice (some ⟨b, o, none⟩) l.length cap) ∧ w7.cell? ⟨w.heap.size, 1, none⟩ = some (.int .i64 len) ∧ w7.cell? ⟨wr.heap.size, 0, none⟩ = some (.bool true) ∧ w7.cell? ⟨wr.heap.size, 1, none⟩ = some (.int .i64 ax) ∧ w7.cell? ⟨wr.heap.size, 2, none⟩ = some (.int .i64 ay) ∧ w7.cell? ⟨wr.heap.size, 3, none⟩ = some (.int .i64 bx) ∧ w7.cell? ⟨wr.heap.size, 4, none⟩ = some (.int .i64 b_y) ∧ w7.cell? ⟨wr.heap.size, 5, none⟩ = some (.int .i64 cx) ∧ w7.cell? ⟨wr.heap.size, 6, none⟩ = some (.int .i64 cy) ∧ w7.cell? ⟨wr.heap.size, 7, none⟩ = some (.int .i64 r) ∧ w7.cell? ⟨wr.heap.size, 8, none⟩ = some (.int .i64 f) ∧ w7.cell? ⟨wr.heap.size, 9, none⟩ = some (.int .i64 s) ∧ w7.cell? ⟨wr.heap.size, 10, none⟩ = some (.int .i64 L) ∧ w7.cell? ⟨wr.heap.size, 11, none⟩ = some (.int .i64 n) ∧ w7.cell? ⟨wr.heap.size, 12, none⟩ = some (.bool g) := by
        refine ⟨?_, ?_, ?_, ?_, ?_, ?_, ?_, ?_, ?_, ?_, ?_, ?_, ?_, ?_, ?_⟩ <;> (refine cell_below hb7 ?_; repeat (first | (with_reducible assumption) | ((with_reducible refine cell_set ?_ ?_ _); (· first | (simp; done) | (simp; omega) | omega)) | ((with_reducible refine cell_new ?_ ?_); (· (simp; done)); (· rfl)) | (with_reducible refine cell_alloc ?_ _) | (with_reducible refine cell_drew ?_) | (with_reducible refine cell_drewN ?_ _) | (with_reducible refine cell_below (by assumption) ?_)))
      have zf61 : w.heap.size < w7.heap.size := World.block_lt_of_cell? _ _ f61
      have zf63 : wr.heap.size < w7.heap.size := World.block_lt_of_cell? _ _ f63
      clear p0 p1
      go_wp2_with fail
      go_roundw
      case rel => exact ⟨k + 1, sm + L, by omega, by go_num, by go_num, G2, by omega, by omega, by (repeat (first | (with_reducible assumption) | ((with_reducible refine cell_set ?_ ?_ _); (· first | (simp; done) | (simp; omega) | omega)) | ((with_reducible refine cell_new ?_ ?_); (· (simp; done)); (· rfl)) | (with_reducible refine cell_alloc ?_ _) | (with_reducible refine cell_drew ?_) | (with_reducible refine cell_drewN ?_ _) | (with_reducible refine cell_below (by assumption) ?_))), by (repeat (first | (with_reducible assumption) | ((with_reducible refine cell_set ?_ ?_ _); (· first | (simp; done) | (simp; omega) | omega)) | ((with_reducible refine cell_new ?_ ?_); (· (simp; done)); (· rfl)) | (with_reducible refine cell_alloc ?_ _) | (with_reducible refine cell_drew ?_) | (with_reducible refine cell_drewN ?_ _) | (with_reducible refine cell_below (by assumption) ?_))), by (repeat (with_reducible (first | assumption | exact Below.refl _ _ | refine Below.drew ?_ | refine below_drewN ?_ _ | refine below_set ?_ (by simp; try omega) _ | refine below_alloc ?_ (Nat.le_refl _) _ | refine below_sub (by assumption) ?_)))⟩
      case measure => simp [intOf]; omega
theorem pathEnds_walk {W : World} (S : Option Addr) (l : List El) (cap : Nat) (len : Int) (h2 : l.length ≤ 9223372036854775807) (hp : Hid (pathAt W S l)) (hL : laidMetH Tryz.prog laidL W) (w : World) (hw : w = W := by rfl) :
    Calls Tryz.prog 6 #[.agg #[.slice S l.length cap, .int .i64 len]] w fun e w' => e = .returned (.bool true) ∧ Below w.heap.size w w' := by
  subst hw
  exact pathEnds_walk0 w S l cap len (hide (uses_of hL)) h2 hp
end Go.Proofs.YtapgmnjpfcohhaaGreatDoor

/-
  PathEnds: the row's step: the given statement 'PathEndsSaid' out of the walk.
-/
namespace Go.Proofs.YtapgmnjpfcohhaaGreatDoor.pathEnds
open Go.ChangeShapes Go.WideShapes Go.ChangeAt Go.RowKit
set_option linter.unusedVariables false

theorem own : ownKnob Tryz.prog.godebug = none := by kernel_rfl
theorem laidOut : laidOutB Tryz.prog = true := pf_laid
theorem typed : (Tryz.f6.params.toList.all fun t => Tryz.prog.readableRec t && decide (t < Tryz.prog.types.size)) = true := by kernel_rfl
theorem typed' : ∀ t ∈ Tryz.f6.params.toList, Tryz.prog.readableRec t = true ∧ t < Tryz.prog.types.size := by
  intro t ht
  have h := List.all_eq_true.1 typed t ht
  simpa using h
theorem ct24 : Tryz.prog.cellTypes Tryz.prog.depth 24 = some [22, 2] := by kernel_rfl
theorem cn24 : Tryz.prog.cellsOf 24 = ([22, 2] : List TypeId).length := by kernel_rfl
set_option maxRecDepth 100000 in
theorem lifted (os : Os) (started : os.Started) (H : Type) (enc : TypeId × Value → H) :
    ReturnsInHanded {} Tryz.checked os 6 .any (fun w args => (Rows.pathEndsSpec.pre enc Tryz.prog Tryz.f6 Rows.pathEndsRow.domain false w args ∧ laidMetH Tryz.prog laidL w) ∧ sizedMet enc Tryz.prog Tryz.f6 (OpenSpec.ofChange Rows.pathEndsSpec) false w args) (Rows.pathEndsSpec.post enc Tryz.prog Tryz.f6 false true false false) := by
  refine returnsInHanded_of_change_and (C := Tryz.checked) (X := fun w _ => laidMetH Tryz.prog laidL w) (fun _ _ _ hh h => h.of_heap hh) own started (by kernel_rfl) Tryz.func6
    (ChangeSpec.witness_shaped (enc := enc) (C := Tryz.checked) (os := os) (X := fun w _ => laidMetH Tryz.prog laidL w) false (World.doorLaid Tryz.prog 400 os) #[.agg #[.slice none 0 0, .int .i64 0]] 8 rfl (World.shaped_of_RefB (by kernel_rfl) (by kernel_rfl)) (by kernel_rfl) (by kernel_rfl) (by kernel_rfl) (door_met os _)) ?_
  intro W base args ds gs before hval0 hW hcnd _ hL _
  have hval : ∀ (j : Nat) t v, Tryz.f6.params[j]? = some t → args[j]? = some v → Value.okWide Tryz.prog W .any base t v := hval0
  have hW' := hW
  obtain ⟨p, q, hA0, hV, rfl, hfz, hnd⟩ := hW
  have hlen := trodAll_length _ _ _ _ hA0
  rw [Tryz.params6] at hval hlen
  obtain ⟨v0, rfl⟩ := arr1 hlen.1
  obtain ⟨d0, rfl⟩ := list1 hlen.2
  obtain ⟨lp, rfl, ep, hlp⟩ := ok_agg (Or.inl ⟨_, Tryz.underlying24⟩) ct24 cn24 (hval 0 24 v0 rfl rfl)
  obtain ⟨pc0, pc1, rfl⟩ := list2 (ep.trans (by rfl))
  have hA' := hA0
  rw [Tryz.params6] at hA'
  obtain ⟨_, _, hTp, _⟩ := hA'
  obtain ⟨pS, pl, pcap, plen, hpv, hpl, hpp⟩ := path_in hTp ⟨pc0, pc1, rfl⟩
  obtain ⟨rfl, rfl⟩ : pc0 = .slice pS pl.length pcap ∧ pc1 = .int .i64 plen := by simpa using hpv
  refine (pathEnds_walk pS pl pcap plen hpl (hide hpp) hL W).mono fun e W' ⟨he, hb⟩ => ?_
  subst he
  exact ⟨_, rfl, law_post (f := Tryz.f6) (s := Rows.pathEndsSpec) (tb := 4) laidOut typed' rfl (by kernel_rfl) Tryz.underlying4 hW' ⟨rfl, rfl, rfl⟩ hb⟩

theorem k0 : (Rows.pathEndsRow.wf (OpenSpec.ofChange Rows.pathEndsSpec)) = true := by kernel_rfl
theorem k3 : (Tryz.f6.params.all (Tryz.prog.readableRec ·)) = true := by kernel_rfl
theorem k4 : (namedTie Tryz.prog Rows.pathEndsRow.named Rows.pathEndsSpec.vars) = true := by kernel_rfl
theorem k5 : (Rows.pathEndsRow.stops == []) = true := by kernel_rfl
theorem k7 : (Rows.pathEndsRow.knobs == []) = true := by kernel_rfl
theorem k9 : (Rows.pathEndsRow.inPlace == Tryz.prog.inPlace 6) = true := by kernel_rfl
theorem k10 : (Rows.pathEndsRow.unfollowed == Tryz.prog.unfollowed 6) = true := by kernel_rfl
theorem k11 : (Rows.pathEndsRow.recurses == Tryz.prog.recurses 6) = true := by kernel_rfl
theorem k12 : (Rows.pathEndsRow.named == Tryz.prog.varsNamed 6) = true := by kernel_rfl
theorem k13 : (Rows.pathEndsRow.maps == (Tryz.f6.params.toList ++ Rows.pathEndsSpec.plain.varTypes Tryz.prog).any (Tryz.prog.mapsRec ·)) = true := by kernel_rfl
theorem k14 : (Rows.pathEndsRow.ifaces == (Tryz.f6.params.toList ++ Rows.pathEndsSpec.plain.varTypes Tryz.prog).any (Tryz.prog.ifacesRec ·)) = true := by kernel_rfl
theorem k15 : (Rows.pathEndsRow.mapsOut == Tryz.prog.mapsAmong Tryz.f6.resultTypes.toList) = true := by kernel_rfl
theorem k16 : (Rows.pathEndsRow.loops == (Tryz.f6.params.toList ++ Rows.pathEndsSpec.plain.varTypes Tryz.prog).any (Tryz.prog.loopsFrom ·)) = true := by kernel_rfl
theorem k17 : (Rows.pathEndsRow.wideKeys == (Tryz.f6.params.toList ++ Rows.pathEndsSpec.plain.varTypes Tryz.prog ++ Tryz.f6.resultTypes.toList).any (Tryz.prog.wideKeysFrom ·)) = true := by kernel_rfl
theorem k18 : (Rows.pathEndsSpec.vars.all (Tryz.prog.varReadable ·)) = true := by kernel_rfl
theorem k19 : (Tryz.f6.resultTypes.all (fun t => Tryz.prog.readableRec t && decide (t < Tryz.prog.types.size))) = true := by kernel_rfl
theorem k20 : (Rows.pathEndsRow.ifacesOut == Tryz.f6.resultTypes.toList.any (Tryz.prog.ifacesRec ·)) = true := by kernel_rfl
theorem k21 : (Rows.pathEndsRow.loopsOut == Tryz.f6.resultTypes.toList.any (Tryz.prog.loopsFrom ·)) = true := by kernel_rfl
theorem k22 : (Rows.pathEndsRow.plainKeys == Tryz.prog.plainKeys) = true := by kernel_rfl
theorem k23 : (Rows.pathEndsRow.shortTexts.isNone) = true := by kernel_rfl
theorem k26 : (Rows.pathEndsRow.lifted == Tryz.prog.liftsFinal) = true := by rw [pf_lifts]; rfl
theorem k27 : (Tryz.prog.make == some Rows.pathEndsRow.make) = true := by rw [pf_make]; rfl
theorem k28 : (Rows.pathEndsRow.kinds == (if Rows.pathEndsRow.domain.isEmpty then [] else Tryz.f6.params.toList.map fun t => match Tryz.prog.underlying t with | some (.int k) => some k | _ => none)) = true := by kernel_rfl
theorem k29 : (Rows.pathEndsRow.pinned == Rows.pathEndsRow.pinnedBy) = true := by kernel_rfl
theorem k30 : (Rows.pathEndsRow.veiled == (Tryz.f6.params.toList ++ Rows.pathEndsSpec.plain.varTypes Tryz.prog ++ Tryz.f6.resultTypes.toList).any (Tryz.prog.veiledRec ·)) = true := by kernel_rfl
theorem k31 : (Rows.pathEndsRow.veiledFits Tryz.prog Tryz.f6.params.toList (Tryz.f6.params.toList ++ Rows.pathEndsSpec.plain.varTypes Tryz.prog ++ Tryz.f6.resultTypes.toList)) = true := by kernel_rfl
set_option maxRecDepth 100000 in
theorem closed : joinedFacts Tryz.prog 6 Tryz.f6 Rows.pathEndsSpec Rows.pathEndsRow = true := (band (band (band (band (band (band (band (band (band (band (band (band (band (band (band (band (band (band (band (band (band (band (band (band (band (band (band (band (band (band (band k0 pf_laid) pf_maps) k3) k4) k5) pf_stops) k7) pf_knobs) k9) k10) k11) k12) k13) k14) k15) k16) k17) k18) k19) k20) k21) k22) k23) pf_heard) pf_enter) k26) k27) k28) k29) k30) k31)
theorem byName : Tryz.prog.funcNamed Rows.pathEndsRow.func = some 6 := by kernel_rfl
theorem inst : Tryz.f6.isInstance Tryz.prog Rows.pathEndsRow.origin Rows.pathEndsRow.targs := of_decide_eq_true (by kernel_rfl)
theorem over : Rows.pathEndsRow.holds Tryz.pinned (OpenSpec.ofChange Rows.pathEndsSpec) :=
  OpenClaim.holds_of_wide 6 Tryz.f6 rfl rfl rfl rfl rfl rfl rfl ⟨rfl, rfl, rfl, rfl, rfl⟩ rfl rfl rfl rfl rfl byName Tryz.func6 closed
    inst (by unfold Func.isWrapper; rw [if_neg (of_decide_eq_false (by kernel_rfl))]; exact ⟨rfl, rfl⟩)
    (fun os started H enc _ => lifted os started H enc)

/-- The given statement: the tied card. -/
theorem proved : Rows.PathEndsCardSaid :=
  Claim7.holds_tied_plain_at .later [] [.data] true Rows.pathEndsCard.stood.harness false
    over (fun _ h => by cases h) (by kernel_rfl) (fun _ h => by cases h) pathEnds_row_tie rfl ⟨rfl, rfl⟩ (by kernel_rfl) rfl
    (fun f fn hf hfn => by
      obtain rfl : f = 6 := Option.some.inj ((show Tryz.prog.funcNamed "flightdeck/flightdecklaw27.PathEnds" = some 6 by kernel_rfl).symm.trans hf) |>.symm
      obtain rfl : fn = Tryz.f6 := (Option.some.inj (Tryz.func6.symm.trans hfn)).symm
      exact ⟨by kernel_rfl, fun j t ht => by
        have hm : t ∈ Tryz.f6.params.toList := by simpa using Array.mem_of_getElem? ht
        have hall : (Tryz.f6.params.toList.all fun u => !Tryz.prog.wantsStandIn u) = true := by kernel_rfl
        exact (show Tryz.prog.wantsStandIn t = false by simpa using List.all_eq_true.1 hall t hm)⟩)
    (by kernel_rfl)
end Go.Proofs.YtapgmnjpfcohhaaGreatDoor.pathEnds
