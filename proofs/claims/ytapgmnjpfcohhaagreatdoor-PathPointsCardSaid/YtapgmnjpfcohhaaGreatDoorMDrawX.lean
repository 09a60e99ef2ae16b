/-
  The drawer's line to another point.
-/
import Derived.Test.YtapgmnjpfcohhaaGreatDoorMDraw
import Derived.Test.YtapgmnjpfcohhaaGreatDoorMFixed
import Derived.Test.YtapgmnjpfcohhaaGreatDoorMGeo
import Derived.Test.YtapgmnjpfcohhaaGreatDoorMLineA
import Derived.Test.YtapgmnjpfcohhaaGreatDoorMPlain
import Derived.Test.YtapgmnjpfcohhaaGreatDoorMSeqP
import Derived.Deep.RegionWith
import Derived.Test.YtapgmnjpfcohhaaGreatDoorProg
import Derived.WalkSpells
import Derived.WalkLawsBesides
import Derived.Deep.QuietTactic
import Derived.BigQuiet
import Derived.Lib.ItoaNum
import Derived.Shelf.Small.Bits
import Derived.Shelf.Strconv.Itoa0
import Derived.Shelf.Bits.Mul64
import Derived.Shelf.Spec.BitsCarry
import Derived.WalkKit
import Derived.ProofKit
import Derived.OpenShut
import Derived.Below
import Derived.ChangeSame
import Derived.Test.YtapgmnjpfcohhaaGreatDoorRows
import Derived.Deep.RegionHeld3
import Derived.Deep.AppendLies
import Derived.Deep.RegionLaw
import Derived.BigRegion
namespace Go.Proofs.YtapgmnjpfcohhaaGreatDoor
open Go.RowKit
set_option linter.unusedVariables false
set_option linter.unusedSimpArgs false
set_option maxRecDepth 100000 in
set_option maxHeartbeats 16000000 in
theorem line_x (base D : Nat) (els : List El) (px py : Int) (gp : Bool) (rad : Int) (v : Value) (qx qy n L : Int) (w : World) (hn : els.length ≤ 100000) (hL : distF px py qx qy = L) (hx2 : (px == qx) = false) (hd : drawAt w base D els px py gp rad v) :
    Calls Tryz.prog 36 #[.pointer (some ⟨D, 0, none⟩), .agg #[.int .i64 qx, .int .i64 qy], .int .i64 n] w fun e w' => ∃ g cap, e = .returned (.tuple #[]) ∧ (v.ownBlock = some g ∨ w.heap.size ≤ g) ∧ drawAt w' base D (els ++ [⟨false, px, py, qx, qy, 0, 0, 0, 0, 0, L, n, gp⟩]) qx qy false rad (.slice (some ⟨g, 0, none⟩) (els.length + 1) cap) ∧ Drawn w w' D v.ownBlock := by
  have HD := hide hd
  obtain ⟨⟨d0a, d0b⟩, ⟨d1a, d1b⟩, ⟨d2a, d2b⟩, ⟨d3a, d3b⟩, ⟨d4a, d4b⟩, ho, hDb, hbw⟩ := hd
  clear ho
  have zD : D < w.heap.size := World.block_lt_of_cell? _ _ d0a
  have neD : w.heap.size ≠ D := by omega
  have neD2 : D ≠ w.heap.size := by omega
  have DI := fun W => dist_any px py qx qy W
  rw [hL] at DI
  have AD := fun W h => dadd_any base D els px py gp rad v ⟨false, px, py, qx, qy, 0, 0, 0, 0, 0, L, n, false⟩ W hn h
  clear hL
  go_enter Tryz.func36, Tryz.ntmps36
  go_wp2_with fail
  go_quiet (fail)
  go_wp2_with fail
  rename_i nq
  have HW : Below w.heap.size w ((w.alloc (.cells #[.int .i64 qx, .int .i64 qy] 33)).drewN nq) := by (repeat (with_reducible (first | assumption | exact Below.refl _ _ | refine Below.drew ?_ | refine below_drewN ?_ _ | refine below_set ?_ (by simp; try omega) _ | refine below_alloc ?_ (Nat.le_refl _) _ | refine below_sub (by assumption) ?_)))
  have k1 : ((w.alloc (.cells #[.int .i64 qx, .int .i64 qy] 33)).drewN nq).cell? ⟨D, 1, none⟩ = some (.int .i64 px) := cell_drewN (cell_alloc d1a _) _
  have k2 : ((w.alloc (.cells #[.int .i64 qx, .int .i64 qy] 33)).drewN nq).cell? ⟨D, 2, none⟩ = some (.int .i64 py) := cell_drewN (cell_alloc d2a _) _
  have k3 : ((w.alloc (.cells #[.int .i64 qx, .int .i64 qy] 33)).drewN nq).cell? ⟨w.heap.size, 0, none⟩ = some (.int .i64 qx) := cell_drewN (cell_new rfl rfl) _
  have k4 : ((w.alloc (.cells #[.int .i64 qx, .int .i64 qy] 33)).drewN nq).cell? ⟨w.heap.size, 1, none⟩ = some (.int .i64 qy) := cell_drewN (cell_new rfl rfl) _
  have HD2 : Hid (drawAt ((w.alloc (.cells #[.int .i64 qx, .int .i64 qy] 33)).drewN nq) base D els px py gp rad v) := hide (drawAt_below HW HD.out)
  clear d0a d0b d1a d1b d2a d2b d3a d3b d4a d4b HD hDb
  generalize ((w.alloc (.cells #[.int .i64 qx, .int .i64 qy] 33)).drewN nq) = w2 at *
  have z1 : D < w2.heap.size := World.block_lt_of_cell? _ _ k1
  have z2 : w.heap.size < w2.heap.size := World.block_lt_of_cell? _ _ k3
  have HDd := hide (drawAt_below ((Below.refl _ w2).drew) HD2.out)
  have HWd := hide (HW.drew)
  clear HW HD2 zD hbw
  go_region_with (first
    | (go_at_call 41; (with_reducible refine (DI _).mono ?_); rintro e wD ⟨rfl, hbD⟩; have HD3 : Hid (drawAt wD base D els px py gp rad v) := hide (drawAt_below hbD HDd.out); have l1 := cell_below hbD (cell_drew k1); have l2 := cell_below hbD (cell_drew k2); have l3 := cell_below hbD (cell_drew k3); have l4 := cell_below hbD (cell_drew k4); have z3 : D < wD.heap.size := World.block_lt_of_cell? _ _ l1; have z4 : w.heap.size < wD.heap.size := World.block_lt_of_cell? _ _ l3; have HW2 := hide (below_sub hbD HWd.out); clear hbD k1 k2 k3 k4 z1 z2 HDd HWd)
    | (go_at_call 82; (with_reducible refine (AD _ HD3.out).mono ?_); rintro e wA ⟨g, cap, rfl, hg, hdA, hdr⟩))
  all_goals
    have hB := draw_behind HW2.out hg hdr
    go_wp2_with fail
    exact bodyPost_end (v := .tuple #[]) (by simp [results, Tryz.results36, go_sem]) rfl ⟨g, cap, rfl, hB.1, hdA, hB.2⟩
end Go.Proofs.YtapgmnjpfcohhaaGreatDoor
