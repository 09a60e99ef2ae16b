/-
  The walk of the law PathLocates.
-/
import Derived.Test.YtapgmnjpfcohhaaGreatDoorMAwake27
import Derived.Test.YtapgmnjpfcohhaaGreatDoorMDraw
import Derived.Test.YtapgmnjpfcohhaaGreatDoorMFixed
import Derived.Test.YtapgmnjpfcohhaaGreatDoorMFrame
import Derived.Test.YtapgmnjpfcohhaaGreatDoorMGeo
import Derived.Test.YtapgmnjpfcohhaaGreatDoorMLaid
import Derived.Test.YtapgmnjpfcohhaaGreatDoorMLoc
import Derived.Test.YtapgmnjpfcohhaaGreatDoorMSeqP
import Derived.Test.YtapgmnjpfcohhaaGreatDoorRows
import Derived.Test.YtapgmnjpfcohhaaGreatDoorCards
import Derived.Test.YtapgmnjpfcohhaaGreatDoorTie
import Derived.SevenTiedAt
import Derived.LaidMore
import Derived.LaidLaws
import Derived.LaidHandle
import Derived.JoinedOf
import Derived.WalkKit
import Derived.ProofKit
import Derived.OpenShut
import Derived.Below
import Derived.ChangeSame
import Derived.Deep.DeepCutAuto
import Derived.Laws.BitsAllLaws
import Derived.Test.YtapgmnjpfcohhaaGreatDoorProg
import Derived.WalkSpells
import Derived.WalkLawsBesides
import Derived.Deep.QuietTactic
import Derived.BigQuiet
import Derived.Lib.ItoaNum
import Derived.Shelf.Small.Bits
import Derived.Shelf.Strconv.Itoa0
import Derived.Shelf.Bits.Mul64
import Derived.Shelf.Spec.BitsCarry
import Derived.Deep.RegionHeld3
import Derived.MakeChecks
import Derived.BigRegion
import Derived.Laws.Tables
import Derived.Deep.WholeRow
import Derived.StillTailTactics
import Derived.Laws.OwnMore
import Derived.Deep.RegionWith
import Derived.Deep.AppendLies
import Derived.Deep.RegionLaw
import Derived.Lib.Bytealg
import Derived.Lib.Strings
import Derived.Deep.Draws
import Derived.Laws.Strings3
namespace Go.Proofs.YtapgmnjpfcohhaaGreatDoor
open Go.RowKit
set_option linter.unusedVariables false
set_option linter.unusedSimpArgs false
set_option maxRecDepth 100000 in
set_option maxHeartbeats 8000000 in
theorem pathLocates_walk0 (w : World) (x0 : Bool) (x1 x2 x3 x4 x5 x6 x7 x8 x9 x10 x11 : Int) (x12 : Bool) (q0 q1 : Int) (hu : Hid (usesAt w))  :
    Calls Tryz.prog 7 #[.agg #[.bool x0, .int .i64 x1, .int .i64 x2, .int .i64 x3, .int .i64 x4, .int .i64 x5, .int .i64 x6, .int .i64 x7, .int .i64 x8, .int .i64 x9, .int .i64 x10, .int .i64 x11, .bool x12], .agg #[.int .i64 q0, .int .i64 q1]] w fun e w' => e = .returned (.bool true) ∧ Below w.heap.size w w' := by
  obtain ⟨R, hR⟩ : ∃ R, R = locF x0 x1 x2 x3 x4 x5 x6 x7 x8 x9 q0 q1 := ⟨_, rfl⟩
  have LO := fun W => loc_any x0 x12 x1 x2 x3 x4 x5 x6 x7 x8 x9 x10 x11 q0 q1 W R hR
  have RO := fun W => rloc_any x0 x12 x1 x2 x3 x4 x5 x6 x7 x8 x9 x10 x11 q0 q1 W R hR
  clear hR
  obtain ⟨a, b, e⟩ := R
  go_enter Tryz.func7, Tryz.ntmps7
  go_wp2_with fail
  refine (awake27_any _ (hide (usesAt_below (show Below w.heap.size w _ by (repeat (with_reducible (first | assumption | exact Below.refl _ _ | refine Below.drew ?_ | refine below_drewN ?_ _ | refine below_set ?_ (by simp; try omega) _ | refine below_alloc ?_ (Nat.le_refl _) _ | refine below_sub (by assumption) ?_)))) hu.out))).mono ?_
  rintro e w1 ⟨rfl, hb1⟩
  obtain ⟨f1, f2, f3, f4, f5, f6, f7, f8, f9, f10, f11, f12, f13, f14, f15⟩ : w1.cell? ⟨w.heap.size, 0, none⟩ = some (.bool x0) ∧ w1.cell? ⟨w.heap.size, 1, none⟩ = some (.int .i64 x1) ∧ w1.cell? ⟨w.heap.size, 2, none⟩ = some (.int .i64 x2) ∧ w1.cell? ⟨w.heap.size, 3, none⟩ = some (.int .i64 x3) ∧ w1.cell? ⟨w.heap.size, 4, none⟩ = some (.int .i64 x4) ∧ w1.cell? ⟨w.heap.size, 5, none⟩ = some (.int .i64 x5) ∧ w1.cell? ⟨w.heap.size, 6, none⟩ = some (.int .i64 x6) ∧ w1.cell? ⟨w.heap.size, 7, none⟩ = some (.int .i64 x7) ∧ w1.cell? ⟨w.heap.size, 8, none⟩ = some (.int .i64 x8) ∧ w1.cell? ⟨w.heap.size, 9, none⟩ = some (.int .i64 x9) ∧ w1.cell? ⟨w.heap.size, 10, none⟩ = some (.int .i64 x10) ∧ w1.cell? ⟨w.heap.size, 11, none⟩ = some (.int .i64 x11) ∧ w1.cell? ⟨w.heap.size, 12, none⟩ = some (.bool x12) ∧ w1.cell? ⟨w.heap.size + 1, 0, none⟩ = some (.int .i64 q0) ∧ w1.cell? ⟨w.heap.size + 1, 1, none⟩ = some (.int .i64 q1) := by
    refine ⟨?_, ?_, ?_, ?_, ?_, ?_, ?_, ?_, ?_, ?_, ?_, ?_, ?_, ?_, ?_⟩ <;> (refine cell_below hb1 ?_; repeat (first | (with_reducible assumption) | ((with_reducible refine cell_set ?_ ?_ _); (· first | (simp; done) | (simp; omega) | omega)) | ((with_reducible refine cell_new ?_ ?_); (· (simp; done)); (· rfl)) | (with_reducible refine cell_alloc ?_ _) | (with_reducible refine cell_drew ?_) | (with_reducible refine cell_drewN ?_ _) | (with_reducible refine cell_below (by assumption) ?_)))
  have zf1 : w.heap.size < w1.heap.size := World.block_lt_of_cell? _ _ f1
  have zf14 : w.heap.size + 1 < w1.heap.size := World.block_lt_of_cell? _ _ f14
  go_wp2_with fail
  refine (LO _).mono ?_
  rintro e w2 ⟨rfl, hb2⟩
  obtain ⟨f16, f17, f18, f19, f20, f21, f22, f23, f24, f25, f26, f27, f28, f29, f30⟩ : w2.cell? ⟨w.heap.size, 0, none⟩ = some (.bool x0) ∧ w2.cell? ⟨w.heap.size, 1, none⟩ = some (.int .i64 x1) ∧ w2.cell? ⟨w.heap.size, 2, none⟩ = some (.int .i64 x2) ∧ w2.cell? ⟨w.heap.size, 3, none⟩ = some (.int .i64 x3) ∧ w2.cell? ⟨w.heap.size, 4, none⟩ = some (.int .i64 x4) ∧ w2.cell? ⟨w.heap.size, 5, none⟩ = some (.int .i64 x5) ∧ w2.cell? ⟨w.heap.size, 6, none⟩ = some (.int .i64 x6) ∧ w2.cell? ⟨w.heap.size, 7, none⟩ = some (.int .i64 x7) ∧ w2.cell? ⟨w.heap.size, 8, none⟩ = some (.int .i64 x8) ∧ w2.cell? ⟨w.heap.size, 9, none⟩ = some (.int .i64 x9) ∧ w2.cell? ⟨w.heap.size, 10, none⟩ = some (.int .i64 x10) ∧ w2.cell? ⟨w.heap.size, 11, none⟩ = some (.int .i64 x11) ∧ w2.cell? ⟨w.heap.size, 12, none⟩ = some (.bool x12) ∧ w2.cell? ⟨w.heap.size + 1, 0, none⟩ = some (.int .i64 q0) ∧ w2.cell? ⟨w.heap.size + 1, 1, none⟩ = some (.int .i64 q1) := by
    refine ⟨?_, ?_, ?_, ?_, ?_, ?_, ?_, ?_, ?_, ?_, ?_, ?_, ?_, ?_, ?_⟩ <;> (refine cell_below hb2 ?_; repeat (first | (with_reducible assumption) | ((with_reducible refine cell_set ?_ ?_ _); (· first | (simp; done) | (simp; omega) | omega)) | ((with_reducible refine cell_new ?_ ?_); (· (simp; done)); (· rfl)) | (with_reducible refine cell_alloc ?_ _) | (with_reducible refine cell_drew ?_) | (with_reducible refine cell_drewN ?_ _) | (with_reducible refine cell_below (by assumption) ?_)))
  have zf16 : w.heap.size < w2.heap.size := World.block_lt_of_cell? _ _ f16
  have zf29 : w.heap.size + 1 < w2.heap.size := World.block_lt_of_cell? _ _ f29
  clear f1 zf1 f2 f3 f4 f5 f6 f7 f8 f9 f10 f11 f12 f13 f14 zf14 f15
  go_wp2_with fail
  refine (RO _).mono ?_
  rintro e w3 ⟨rfl, hb3⟩
  obtain ⟨f31, f32, f33, f34, f35, f36, f37, f38, f39, f40, f41, f42, f43, f44, f45⟩ : w3.cell? ⟨w.heap.size, 0, none⟩ = some (.bool x0) ∧ w3.cell? ⟨w.heap.size, 1, none⟩ = some (.int .i64 x1) ∧ w3.cell? ⟨w.heap.size, 2, none⟩ = some (.int .i64 x2) ∧ w3.cell? ⟨w.heap.size, 3, none⟩ = some (.int .i64 x3) ∧ w3.cell? ⟨w.heap.size, 4, none⟩ = some (.int .i64 x4) ∧ w3.cell? ⟨w.heap.size, 5, none⟩ = some (.int .i64 x5) ∧ w3.cell? ⟨w.heap.size, 6, none⟩ = some (.int .i64 x6) ∧ w3.cell? ⟨w.heap.size, 7, none⟩ = some (.int .i64 x7) ∧ w3.cell? ⟨w.heap.size, 8, none⟩ = some (.int .i64 x8) ∧ w3.cell? ⟨w.heap.size, 9, none⟩ = some (.int .i64 x9) ∧ w3.cell? ⟨w.heap.size, 10, none⟩ = some (.int .i64 x10) ∧ w3.cell? ⟨w.heap.size, 11, none⟩ = some (.int .i64 x11) ∧ w3.cell? ⟨w.heap.size, 12, none⟩ = some (.bool x12) ∧ w3.cell? ⟨w.heap.size + 1, 0, none⟩ = some (.int .i64 q0) ∧ w3.cell? ⟨w.heap.size + 1, 1, none⟩ = some (.int .i64 q1) := by
    refine ⟨?_, ?_, ?_, ?_, ?_, ?_, ?_, ?_, ?_, ?_, ?_, ?_, ?_, ?_, ?_⟩ <;> (refine cell_below hb3 ?_; repeat (first | (with_reducible assumption) | ((with_reducible refine cell_set ?_ ?_ _); (· first | (simp; done) | (simp; omega) | omega)) | ((with_reducible refine cell_new ?_ ?_); (· (simp; done)); (· rfl)) | (with_reducible refine cell_alloc ?_ _) | (with_reducible refine cell_drew ?_) | (with_reducible refine cell_drewN ?_ _) | (with_reducible refine cell_below (by assumption) ?_)))
  have zf31 : w.heap.size < w3.heap.size := World.block_lt_of_cell? _ _ f31
  have zf44 : w.heap.size + 1 < w3.heap.size := World.block_lt_of_cell? _ _ f44
  clear f16 zf16 f17 f18 f19 f20 f21 f22 f23 f24 f25 f26 f27 f28 f29 zf29 f30
  go_wp2_with fail
  all_goals
    go_ret
    exact ⟨rfl, by (repeat (with_reducible (first | assumption | exact Below.refl _ _ | refine Below.drew ?_ | refine below_drewN ?_ _ | refine below_set ?_ (by simp; try omega) _ | refine below_alloc ?_ (Nat.le_refl _) _ | refine below_sub (by assumption) ?_)))⟩
theorem pathLocates_walk {W : World} (x0 : Bool) (x1 x2 x3 x4 x5 x6 x7 x8 x9 x10 x11 : Int) (x12 : Bool) (q0 q1 : Int) (hx1 : I64 x1) (hx2 : I64 x2) (hx3 : I64 x3) (hx4 : I64 x4) (hx5 : I64 x5) (hx6 : I64 x6) (hx7 : I64 x7) (hx8 : I64 x8) (hx9 : I64 x9) (hx10 : I64 x10) (hx11 : I64 x11) (hq0 : I64 q0) (hq1 : I64 q1) (hL : laidMetH Tryz.prog laidL W) (w : World) (hw : w = W := by rfl) :
    Calls Tryz.prog 7 #[.agg #[.bool x0, .int .i64 x1, .int .i64 x2, .int .i64 x3, .int .i64 x4, .int .i64 x5, .int .i64 x6, .int .i64 x7, .int .i64 x8, .int .i64 x9, .int .i64 x10, .int .i64 x11, .bool x12], .agg #[.int .i64 q0, .int .i64 q1]] w fun e w' => e = .returned (.bool true) ∧ Below w.heap.size w w' := by
  subst hw
  exact pathLocates_walk0 w x0 x1 x2 x3 x4 x5 x6 x7 x8 x9 x10 x11 x12 q0 q1 (hide (uses_of hL))
end Go.Proofs.YtapgmnjpfcohhaaGreatDoor

/-
  PathLocates: the row's step: the given statement 'PathLocatesSaid' out of the walk.
-/
namespace Go.Proofs.YtapgmnjpfcohhaaGreatDoor.pathLocates
open Go.ChangeShapes Go.WideShapes Go.ChangeAt Go.RowKit
set_option linter.unusedVariables false

theorem own : ownKnob Tryz.prog.godebug = none := by kernel_rfl
theorem laidOut : laidOutB Tryz.prog = true := pf_laid
theorem typed : (Tryz.f7.params.toList.all fun t => Tryz.prog.readableRec t && decide (t < Tryz.prog.types.size)) = true := by kernel_rfl
theorem typed' : ∀ t ∈ Tryz.f7.params.toList, Tryz.prog.readableRec t = true ∧ t < Tryz.prog.types.size := by
  intro t ht
  have h := List.all_eq_true.1 typed t ht
  simpa using h
theorem cell_at {P : Program} {w : World} {r : Reach} {base : Nat} {ts : List TypeId} {cs : List Value} (h : ∀ (i : Nat) (x : Value), cs[i]? = some x → ∃ u, ts[i]? = some u ∧ Cell.okWide P w r base u x) {k : Nat} {x : Value} {u : TypeId} (hk : cs[k]? = some x) (hu : ts[k]? = some u) : Cell.okWide P w r base u x := by
  obtain ⟨u', h1, h2⟩ := h k x hk
  rw [hu] at h1
  injection h1 with h1
  rw [h1]; exact h2
theorem lst13 {α : Type} {l : List α} (h : l.length = 13) : ∃ x0 x1 x2 x3 x4 x5 x6 x7 x8 x9 x10 x11 x12 : α, l = [x0, x1, x2, x3, x4, x5, x6, x7, x8, x9, x10, x11, x12] := by
  match l, h with
  | [x0, x1, x2, x3, x4, x5, x6, x7, x8, x9, x10, x11, x12], _ => exact ⟨x0, x1, x2, x3, x4, x5, x6, x7, x8, x9, x10, x11, x12, rfl⟩
theorem ct40 : Tryz.prog.cellTypes Tryz.prog.depth 40 = some [4, 2, 2, 2, 2, 2, 2, 2, 2, 2, 2, 3, 4] := by kernel_rfl
theorem cn40 : Tryz.prog.cellsOf 40 = ([4, 2, 2, 2, 2, 2, 2, 2, 2, 2, 2, 3, 4] : List TypeId).length := by kernel_rfl
theorem ct33 : Tryz.prog.cellTypes Tryz.prog.depth 33 = some (List.replicate 2 2) := by kernel_rfl
theorem cn33 : Tryz.prog.cellsOf 33 = (List.replicate 2 2).length := by kernel_rfl
set_option maxRecDepth 100000 in
theorem lifted (os : Os) (started : os.Started) (H : Type) (enc : TypeId × Value → H) :
    ReturnsInHanded {} Tryz.checked os 7 .any (fun w args => (Rows.pathLocatesSpec.pre enc Tryz.prog Tryz.f7 Rows.pathLocatesRow.domain false w args ∧ laidMetH Tryz.prog laidL w) ∧ sizedMet enc Tryz.prog Tryz.f7 (OpenSpec.ofChange Rows.pathLocatesSpec) false w args) (Rows.pathLocatesSpec.post enc Tryz.prog Tryz.f7 false true false false) := by
  refine returnsInHanded_of_change_and (C := Tryz.checked) (X := fun w _ => laidMetH Tryz.prog laidL w) (fun _ _ _ hh h => h.of_heap hh) own started (by kernel_rfl) Tryz.func7
    (ChangeSpec.witness_shaped (enc := enc) (C := Tryz.checked) (os := os) (X := fun w _ => laidMetH Tryz.prog laidL w) false (World.doorLaid Tryz.prog 400 os) #[.agg #[.bool false, .int .i64 0, .int .i64 0, .int .i64 0, .int .i64 0, .int .i64 0, .int .i64 0, .int .i64 0, .int .i64 0, .int .i64 0, .int .i64 0, .int .i64 0, .bool false], .agg #[.int .i64 0, .int .i64 0]] 8 rfl (World.shaped_of_RefB (by kernel_rfl) (by kernel_rfl)) (by kernel_rfl) (by kernel_rfl) (by kernel_rfl) (door_met os _)) ?_
  intro W base args ds gs before hval0 hW hcnd _ hL _
  have hval : ∀ (j : Nat) t v, Tryz.f7.params[j]? = some t → args[j]? = some v → Value.okWide Tryz.prog W .any base t v := hval0
  have hW' := hW
  obtain ⟨p, q, hA0, hV, rfl, hfz, hnd⟩ := hW
  have hlen := trodAll_length _ _ _ _ hA0
  rw [Tryz.params7] at hval hlen
  obtain ⟨v0, v1, rfl⟩ := arr2 hlen.1
  obtain ⟨d0, d1, rfl⟩ := list2 hlen.2
  obtain ⟨lx, rfl, ex, hlx⟩ := ok_agg (Or.inl ⟨_, Tryz.underlying40⟩) ct40 cn40 (hval 0 40 v0 rfl rfl)
  obtain ⟨cx0, cx1, cx2, cx3, cx4, cx5, cx6, cx7, cx8, cx9, cx10, cx11, cx12, rfl⟩ := lst13 (ex.trans (by rfl))
  obtain ⟨x0, rfl⟩ := cell_bool Tryz.underlying4 (cell_at hlx (k := 0) rfl rfl)
  obtain ⟨x1, rfl, hx1⟩ := cell_i64 Tryz.underlying2 (cell_at hlx (k := 1) rfl rfl)
  obtain ⟨x2, rfl, hx2⟩ := cell_i64 Tryz.underlying2 (cell_at hlx (k := 2) rfl rfl)
  obtain ⟨x3, rfl, hx3⟩ := cell_i64 Tryz.underlying2 (cell_at hlx (k := 3) rfl rfl)
  obtain ⟨x4, rfl, hx4⟩ := cell_i64 Tryz.underlying2 (cell_at hlx (k := 4) rfl rfl)
  obtain ⟨x5, rfl, hx5⟩ := cell_i64 Tryz.underlying2 (cell_at hlx (k := 5) rfl rfl)
  obtain ⟨x6, rfl, hx6⟩ := cell_i64 Tryz.underlying2 (cell_at hlx (k := 6) rfl rfl)
  obtain ⟨x7, rfl, hx7⟩ := cell_i64 Tryz.underlying2 (cell_at hlx (k := 7) rfl rfl)
  obtain ⟨x8, rfl, hx8⟩ := cell_i64 Tryz.underlying2 (cell_at hlx (k := 8) rfl rfl)
  obtain ⟨x9, rfl, hx9⟩ := cell_i64 Tryz.underlying2 (cell_at hlx (k := 9) rfl rfl)
  obtain ⟨x10, rfl, hx10⟩ := cell_i64 Tryz.underlying2 (cell_at hlx (k := 10) rfl rfl)
  obtain ⟨x11, rfl, hx11⟩ := cell_i64 Tryz.underlying3 (cell_at hlx (k := 11) rfl rfl)
  obtain ⟨x12, rfl⟩ := cell_bool Tryz.underlying4 (cell_at hlx (k := 12) rfl rfl)
  obtain ⟨lq, rfl, eq, hlq⟩ := ok_ints (Or.inl ⟨_, Tryz.underlying33⟩) ct33 cn33 (fun u hu => by rw [List.eq_of_mem_replicate hu]; exact Tryz.underlying2) (hval 1 33 v1 rfl rfl)
  obtain ⟨q0, q1, rfl⟩ := list2 (eq.trans (by simp))
  have hq0 : I64 q0 := hlq _ (by simp)
  have hq1 : I64 q1 := hlq _ (by simp)
  refine (pathLocates_walk x0 x1 x2 x3 x4 x5 x6 x7 x8 x9 x10 x11 x12 q0 q1 hx1 hx2 hx3 hx4 hx5 hx6 hx7 hx8 hx9 hx10 hx11 hq0 hq1 hL W).mono fun e W' ⟨he, hb⟩ => ?_
  subst he
  exact ⟨_, rfl, law_post (f := Tryz.f7) (s := Rows.pathLocatesSpec) (tb := 4) laidOut typed' rfl (by kernel_rfl) Tryz.underlying4 hW' ⟨rfl, rfl, rfl⟩ hb⟩

theorem k0 : (Rows.pathLocatesRow.wf (OpenSpec.ofChange Rows.pathLocatesSpec)) = true := by kernel_rfl
theorem k3 : (Tryz.f7.params.all (Tryz.prog.readableRec ·)) = true := by kernel_rfl
theorem k4 : (namedTie Tryz.prog Rows.pathLocatesRow.named Rows.pathLocatesSpec.vars) = true := by kernel_rfl
theorem k5 : (Rows.pathLocatesRow.stops == []) = true := by kernel_rfl
theorem k7 : (Rows.pathLocatesRow.knobs == []) = true := by kernel_rfl
theorem k9 : (Rows.pathLocatesRow.inPlace == Tryz.prog.inPlace 7) = true := by kernel_rfl
theorem k10 : (Rows.pathLocatesRow.unfollowed == Tryz.prog.unfollowed 7) = true := by kernel_rfl
theorem k11 : (Rows.pathLocatesRow.recurses == Tryz.prog.recurses 7) = true := by kernel_rfl
theorem k12 : (Rows.pathLocatesRow.named == Tryz.prog.varsNamed 7) = true := by kernel_rfl
theorem k13 : (Rows.pathLocatesRow.maps == (Tryz.f7.params.toList ++ Rows.pathLocatesSpec.plain.varTypes Tryz.prog).any (Tryz.prog.mapsRec ·)) = true := by kernel_rfl
theorem k14 : (Rows.pathLocatesRow.ifaces == (Tryz.f7.params.toList ++ Rows.pathLocatesSpec.plain.varTypes Tryz.prog).any (Tryz.prog.ifacesRec ·)) = true := by kernel_rfl
theorem k15 : (Rows.pathLocatesRow.mapsOut == Tryz.prog.mapsAmong Tryz.f7.resultTypes.toList) = true := by kernel_rfl
theorem k16 : (Rows.pathLocatesRow.loops == (Tryz.f7.params.toList ++ Rows.pathLocatesSpec.plain.varTypes Tryz.prog).any (Tryz.prog.loopsFrom ·)) = true := by kernel_rfl
theorem k17 : (Rows.pathLocatesRow.wideKeys == (Tryz.f7.params.toList ++ Rows.pathLocatesSpec.plain.varTypes Tryz.prog ++ Tryz.f7.resultTypes.toList).any (Tryz.prog.wideKeysFrom ·)) = true := by kernel_rfl
theorem k18 : (Rows.pathLocatesSpec.vars.all (Tryz.prog.varReadable ·)) = true := by kernel_rfl
theorem k19 : (Tryz.f7.resultTypes.all (fun t => Tryz.prog.readableRec t && decide (t < Tryz.prog.types.size))) = true := by kernel_rfl
theorem k20 : (Rows.pathLocatesRow.ifacesOut == Tryz.f7.resultTypes.toList.any (Tryz.prog.ifacesRec ·)) = true := by kernel_rfl
theorem k21 : (Rows.pathLocatesRow.loopsOut == Tryz.f7.resultTypes.toList.any (Tryz.prog.loopsFrom ·)) = true := by kernel_rfl
theorem k22 : (Rows.pathLocatesRow.plainKeys == Tryz.prog.plainKeys) = true := by kernel_rfl
theorem k23 : (Rows.pathLocatesRow.shortTexts.isNone) = true := by kernel_rfl
theorem k26 : (Rows.pathLocatesRow.lifted == Tryz.prog.liftsFinal) = true := by rw [pf_lifts]; rfl
theorem k27 : (Tryz.prog.make == some Rows.pathLocatesRow.make) = true := by rw [pf_make]; rfl
theorem k28 : (Rows.pathLocatesRow.kinds == (if Rows.pathLocatesRow.domain.isEmpty then [] else Tryz.f7.params.toList.map fun t => match Tryz.prog.underlying t with | some (.int k) => some k | _ => none)) = true := by kernel_rfl
theorem k29 : (Rows.pathLocatesRow.pinned == Rows.pathLocatesRow.pinnedBy) = true := by kernel_rfl
theorem k30 : (Rows.pathLocatesRow.veiled == (Tryz.f7.params.toList ++ Rows.pathLocatesSpec.plain.varTypes Tryz.prog ++ Tryz.f7.resultTypes.toList).any (Tryz.prog.veiledRec ·)) = true := by kernel_rfl
theorem k31 : (Rows.pathLocatesRow.veiledFits Tryz.prog Tryz.f7.params.toList (Tryz.f7.params.toList ++ Rows.pathLocatesSpec.plain.varTypes Tryz.prog ++ Tryz.f7.resultTypes.toList)) = true := by kernel_rfl
set_option maxRecDepth 100000 in
theorem closed : joinedFacts Tryz.prog 7 Tryz.f7 Rows.pathLocatesSpec Rows.pathLocatesRow = true := (band (band (band (band (band (band (band (band (band (band (band (band (band (band (band (band (band (band (band (band (band (band (band (band (band (band (band (band (band (band (band k0 pf_laid) pf_maps) k3) k4) k5) pf_stops) k7) pf_knobs) k9) k10) k11) k12) k13) k14) k15) k16) k17) k18) k19) k20) k21) k22) k23) pf_heard) pf_enter) k26) k27) k28) k29) k30) k31)
theorem byName : Tryz.prog.funcNamed Rows.pathLocatesRow.func = some 7 := by kernel_rfl
theorem inst : Tryz.f7.isInstance Tryz.prog Rows.pathLocatesRow.origin Rows.pathLocatesRow.targs := of_decide_eq_true (by kernel_rfl)
theorem over : Rows.pathLocatesRow.holds Tryz.pinned (OpenSpec.ofChange Rows.pathLocatesSpec) :=
  OpenClaim.holds_of_wide 7 Tryz.f7 rfl rfl rfl rfl rfl rfl rfl ⟨rfl, rfl, rfl, rfl, rfl⟩ rfl rfl rfl rfl rfl byName Tryz.func7 closed
    inst (by unfold Func.isWrapper; rw [if_neg (of_decide_eq_false (by kernel_rfl))]; exact ⟨rfl, rfl⟩)
    (fun os started H enc _ => lifted os started H enc)

/-- The given statement: the tied card. -/
theorem proved : Rows.PathLocatesCardSaid :=
  Claim7.holds_tied_plain_at .later [] [.data] true Rows.pathLocatesCard.stood.harness false
    over (fun _ h => by cases h) (by kernel_rfl) (fun _ h => by cases h) pathLocates_row_tie rfl ⟨rfl, rfl⟩ (by kernel_rfl) rfl
    (fun f fn hf hfn => by
      obtain rfl : f = 7 := Option.some.inj ((show Tryz.prog.funcNamed "flightdeck/flightdecklaw27.PathLocates" = some 7 by kernel_rfl).symm.trans hf) |>.symm
      obtain rfl : fn = Tryz.f7 := (Option.some.inj (Tryz.func7.symm.trans hfn)).symm
      exact ⟨by kernel_rfl, fun j t ht => by
        have hm : t ∈ Tryz.f7.params.toList := by simpa using Array.mem_of_getElem? ht
        have hall : (Tryz.f7.params.toList.all fun u => !Tryz.prog.wantsStandIn u) = true := by kernel_rfl
        exact (show Tryz.prog.wantsStandIn t = false by simpa using List.all_eq_true.1 hall t hm)⟩)
    (by kernel_rfl)
end Go.Proofs.YtapgmnjpfcohhaaGreatDoor.pathLocates
