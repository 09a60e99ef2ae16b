/-
  The drawer's arc.
-/
import Derived.Test.YtapgmnjpfcohhaaGreatDoorMDraw
import Derived.Test.YtapgmnjpfcohhaaGreatDoorMFixed
import Derived.Test.YtapgmnjpfcohhaaGreatDoorMGeo
import Derived.Test.YtapgmnjpfcohhaaGreatDoorMPlain
import Derived.Test.YtapgmnjpfcohhaaGreatDoorMSeqP
import Derived.Test.YtapgmnjpfcohhaaGreatDoorMTurnA
import Derived.StillTailTactics
import Derived.Deep.DeepCutAuto
import Derived.Laws.BitsAllLaws
import Derived.Test.YtapgmnjpfcohhaaGreatDoorProg
import Derived.WalkSpells
import Derived.WalkLawsBesides
import Derived.Deep.QuietTactic
import Derived.BigQuiet
import Derived.Lib.ItoaNum
import Derived.Shelf.Small.Bits
import Derived.Shelf.Strconv.Itoa0
import Derived.Shelf.Bits.Mul64
import Derived.Shelf.Spec.BitsCarry
import Derived.WalkKit
import Derived.ProofKit
import Derived.OpenShut
import Derived.Below
import Derived.ChangeSame
import Derived.Test.YtapgmnjpfcohhaaGreatDoorRows
import Derived.Deep.RegionHeld3
import Derived.Deep.RegionWith
import Derived.Deep.AppendLies
import Derived.Deep.RegionLaw
import Derived.BigRegion
namespace Go.Proofs.YtapgmnjpfcohhaaGreatDoor
open Go.RowKit
set_option linter.unusedVariables false
set_option linter.unusedSimpArgs false
set_option maxRecDepth 100000 in
set_option maxHeartbeats 8000000 in
theorem arc_new (base D : Nat) (els : List El) (px py : Int) (gp : Bool) (rad : Int) (v : Value) (cx cy r f s qx qy n N : Int) (w : World) (hn : els.length ≤ 100000) (hN : arcLen cx cy r f s = N) (h1 : 1 ≤ N) (hd : drawAt w base D els px py gp rad v) :
    Calls Tryz.prog 37 #[.pointer (some ⟨D, 0, none⟩), .agg #[.int .i64 cx, .int .i64 cy, .int .i64 r, .int .i64 f, .int .i64 s], .agg #[.int .i64 qx, .int .i64 qy], .int .i64 n] w fun e w' => ∃ g cap, e = .returned (.tuple #[]) ∧ (v.ownBlock = some g ∨ w.heap.size ≤ g) ∧ drawAt w' base D (els ++ [⟨true, px, py, qx, qy, cx, cy, r, f, s, N, n, gp⟩]) qx qy false rad (.slice (some ⟨g, 0, none⟩) (els.length + 1) cap) ∧ Drawn w w' D v.ownBlock := by
  have HD := hide hd
  have zD : D < w.heap.size := World.block_lt_of_cell? _ _ hd.1.1
  clear hd
  have TL := fun W => tlen_any cx cy r f s W
  rw [hN] at TL
  have AD := fun W h => dadd_any base D els px py gp rad v ⟨true, px, py, qx, qy, cx, cy, r, f, s, N, n, false⟩ W hn h
  clear hN
  go_enter Tryz.func37, Tryz.ntmps37
  go_wp2_with fail
  refine (TL _).mono ?_
  rintro e w1 ⟨rfl, hb1⟩
  obtain ⟨f1, f2, f3, f4, f5, f6, f7⟩ : w1.cell? ⟨w.heap.size, 0, none⟩ = some (.int .i64 cx) ∧ w1.cell? ⟨w.heap.size, 1, none⟩ = some (.int .i64 cy) ∧ w1.cell? ⟨w.heap.size, 2, none⟩ = some (.int .i64 r) ∧ w1.cell? ⟨w.heap.size, 3, none⟩ = some (.int .i64 f) ∧ w1.cell? ⟨w.heap.size, 4, none⟩ = some (.int .i64 s) ∧ w1.cell? ⟨w.heap.size + 1, 0, none⟩ = some (.int .i64 qx) ∧ w1.cell? ⟨w.heap.size + 1, 1, none⟩ = some (.int .i64 qy) := by
    refine ⟨?_, ?_, ?_, ?_, ?_, ?_, ?_⟩ <;> (refine cell_below hb1 ?_; repeat (first | (with_reducible assumption) | ((with_reducible refine cell_set ?_ ?_ _); (· first | (simp; done) | (simp; omega) | omega)) | ((with_reducible refine cell_new ?_ ?_); (· (simp; done)); (· rfl)) | (with_reducible refine cell_alloc ?_ _) | (with_reducible refine cell_drew ?_) | (with_reducible refine cell_drewN ?_ _) | (with_reducible refine cell_below (by assumption) ?_)))
  have zf1 : w.heap.size < w1.heap.size := World.block_lt_of_cell? _ _ f1
  have zf6 : w.heap.size + 1 < w1.heap.size := World.block_lt_of_cell? _ _ f6
  have HD1 := hide (drawAt_below (w := w) (show Below w.heap.size w w1 by (repeat (with_reducible (first | assumption | exact Below.refl _ _ | refine Below.drew ?_ | refine below_drewN ?_ _ | refine below_set ?_ (by simp; try omega) _ | refine below_alloc ?_ (Nat.le_refl _) _ | refine below_sub (by assumption) ?_)))) HD.out)
  obtain ⟨⟨d0a, d0b⟩, ⟨d1a, d1b⟩, ⟨d2a, d2b⟩, ⟨d3a, d3b⟩, ⟨d4a, d4b⟩, ho, hDb, hbw⟩ := HD1.out
  clear ho d0b d1b d2b d3b d4b
  have zD1 : D < w1.heap.size := by omega
  go_wp2_with fail
  go_still_tail 10, (by kernel_rfl)
  change wpList _ _ _ _ _ w1.drew
  go_wp2_with fail
  refine (AD _ (drawAt_below ((Below.refl _ w1).drew) HD1.out)).mono ?_
  rintro e wA ⟨g, cap, rfl, hg, hdA, hdr⟩
  go_wp2_with fail
  have hW : Below w.heap.size w w1.drew := by (repeat (with_reducible (first | assumption | exact Below.refl _ _ | refine Below.drew ?_ | refine below_drewN ?_ _ | refine below_set ?_ (by simp; try omega) _ | refine below_alloc ?_ (Nat.le_refl _) _ | refine below_sub (by assumption) ?_)))
  have hB := draw_behind hW hg hdr
  exact bodyPost_ret (v := .tuple #[]) (by simp [results, Tryz.results37, go_sem]) rfl ⟨g, cap, rfl, hB.1, hdA, hB.2⟩
end Go.Proofs.YtapgmnjpfcohhaaGreatDoor
