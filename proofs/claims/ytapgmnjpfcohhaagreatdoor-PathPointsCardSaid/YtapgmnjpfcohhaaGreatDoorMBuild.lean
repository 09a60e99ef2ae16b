/-
  path.Build on the example.
-/
import Derived.Test.YtapgmnjpfcohhaaGreatDoorMLawsT
import Derived.Test.YtapgmnjpfcohhaaGreatDoorMDraw
import Derived.Test.YtapgmnjpfcohhaaGreatDoorMDrawX
import Derived.Test.YtapgmnjpfcohhaaGreatDoorMFixed
import Derived.Test.YtapgmnjpfcohhaaGreatDoorMGeo
import Derived.Test.YtapgmnjpfcohhaaGreatDoorMLaid
import Derived.Test.YtapgmnjpfcohhaaGreatDoorMPathM
import Derived.Test.YtapgmnjpfcohhaaGreatDoorMPlanC
import Derived.Test.YtapgmnjpfcohhaaGreatDoorMSeqP
import Derived.Test.YtapgmnjpfcohhaaGreatDoorMStoreN
import Derived.Test.YtapgmnjpfcohhaaGreatDoorMTracks
import Derived.Test.YtapgmnjpfcohhaaGreatDoorMTrans
import Derived.Test.YtapgmnjpfcohhaaGreatDoorMTrkAll
import Derived.Test.YtapgmnjpfcohhaaGreatDoorMTurnA
import Derived.StillTailTactics
import Derived.Laws.OwnMore
import Derived.Deep.DeepCutAuto
import Derived.Laws.BitsAllLaws
import Derived.Test.YtapgmnjpfcohhaaGreatDoorProg
import Derived.WalkSpells
import Derived.WalkLawsBesides
import Derived.Deep.QuietTactic
import Derived.BigQuiet
import Derived.Lib.ItoaNum
import Derived.Shelf.Small.Bits
import Derived.Shelf.Strconv.Itoa0
import Derived.Shelf.Bits.Mul64
import Derived.Shelf.Spec.BitsCarry
import Derived.WalkKit
import Derived.ProofKit
import Derived.OpenShut
import Derived.Below
import Derived.ChangeSame
import Derived.Test.YtapgmnjpfcohhaaGreatDoorRows
import Derived.Deep.RegionHeld3
import Derived.Deep.RegionWith
import Derived.Deep.AppendLies
import Derived.Deep.RegionLaw
import Derived.BigRegion
import Derived.Laws.Tables
import Derived.Deep.WholeRow
import Derived.LaidMore
import Derived.LaidLaws
import Derived.LaidHandle
import Derived.MakeChecks
import Derived.Lib.Bytealg
import Derived.Lib.Strings
import Derived.Deep.Draws
import Derived.Laws.Strings3
namespace Go.Proofs.YtapgmnjpfcohhaaGreatDoor
open Go.RowKit
set_option linter.unusedVariables false
set_option linter.unusedSimpArgs false
theorem sizeL13 : (Tryz.prog.info? 49).map (·.size) = some 13 := by kernel_rfl
theorem drawAt_pen {w : World} {base D : Nat} {els : List El} {px py : Int} {gp : Bool} {rad : Int} {v : Value} (h : drawAt w base D els px py gp rad v) (a b : Int) (c : Bool) :
    drawAt (((w.setCell ⟨D, 1, none⟩ (.int .i64 a)).setCell ⟨D, 2, none⟩ (.int .i64 b)).setCell ⟨D, 3, none⟩ (.bool c)) base D els a b c rad v := by
  obtain ⟨h0, h1, h2, h3, h4, h5, h6, h7⟩ := h
  exact ⟨own_set (by simp) (own_set (by simp) (own_set (by simp) h0 _) _) _, own_set (by simp) (own_set (by simp) (own_same h1 _) _) _, own_set (by simp) (own_same (own_set (by simp) h2 _) _) _, own_same (own_set (by simp) (own_set (by simp) h3 _) _) _, own_set (by simp) (own_set (by simp) (own_set (by simp) h4 _) _) _,
    ownsRow_setCell_below (ownsRow_setCell_below (ownsRow_setCell_below h5 (a := ⟨D, 1, none⟩) h6 _) (a := ⟨D, 2, none⟩) h6 _) (a := ⟨D, 3, none⟩) h6 _, h6, by simpa using h7⟩
theorem results_row3 {fn : Func} {t u x : Tmp} {ty : TypeId} (h : fn.results = #[.cell t ty, .tmp u, .tmp x]) (tmps : Array Value) (w : World) (g : Nat) (cs old : Array Value) (t0 : TypeId) (hr : w.heap[g]? = some (.cells old t0 (0, 0))) (ht : tmps.getD t undef = .pointer (some ⟨g, 0, none⟩)) (v2 : Value) (hv : tmps.getD u undef = v2) (v3 : Value) (hv3 : tmps.getD x undef = v3)
    (fs : Array Field) (hu : Tryz.prog.underlying ty = some (.struct fs)) (hi : (Tryz.prog.info? ty).map (·.size) = some cs.size) :
    (results fn tmps).run Tryz.prog (w.setRow g cs) = .ok (.tuple #[.agg cs, v2, v3]) (w.setRow g cs) := by
  subst hv
  subst hv3
  have := run_loadVar_row (P := Tryz.prog) (w.setRow g cs) g t0 ty cs (0, 0) _ (setRow_heap w g old cs t0 (0, 0) hr) hu rfl hi
  have ht' : tmps[t]?.getD undef = .pointer (some ⟨g, 0, none⟩) := by simpa using ht
  simp [results, h, ht', asAddr, this]
theorem sizeEl : (Tryz.prog.info? 40).map (·.size) = some 13 := by kernel_rfl
theorem sizePa : (Tryz.prog.info? 24).map (·.size) = some 2 := by kernel_rfl
def planC : List Value := planL.flatMap elVals
theorem path_of_row {w : World} {gv : Nat} (h : rowAt w gv planC) : pathAt w (some ⟨gv, 0, none⟩) planL := by
  intro k x hk
  refine ⟨gv, 0, rfl, ?_⟩
  match k, hk with
  | 0, hk => simp [planL] at hk; subst hk; exact ⟨h 0 _ rfl, h 1 _ rfl, h 2 _ rfl, h 3 _ rfl, h 4 _ rfl, h 5 _ rfl, h 6 _ rfl, h 7 _ rfl, h 8 _ rfl, h 9 _ rfl, h 10 _ rfl, h 11 _ rfl, h 12 _ rfl⟩
  | 1, hk => simp [planL] at hk; subst hk; exact ⟨h 13 _ rfl, h 14 _ rfl, h 15 _ rfl, h 16 _ rfl, h 17 _ rfl, h 18 _ rfl, h 19 _ rfl, h 20 _ rfl, h 21 _ rfl, h 22 _ rfl, h 23 _ rfl, h 24 _ rfl, h 25 _ rfl⟩
  | 2, hk => simp [planL] at hk; subst hk; exact ⟨h 26 _ rfl, h 27 _ rfl, h 28 _ rfl, h 29 _ rfl, h 30 _ rfl, h 31 _ rfl, h 32 _ rfl, h 33 _ rfl, h 34 _ rfl, h 35 _ rfl, h 36 _ rfl, h 37 _ rfl, h 38 _ rfl⟩
  | 3, hk => simp [planL] at hk; subst hk; exact ⟨h 39 _ rfl, h 40 _ rfl, h 41 _ rfl, h 42 _ rfl, h 43 _ rfl, h 44 _ rfl, h 45 _ rfl, h 46 _ rfl, h 47 _ rfl, h 48 _ rfl, h 49 _ rfl, h 50 _ rfl, h 51 _ rfl⟩
  | k + 4, hk => simp [planL] at hk
theorem row_set2 {w : World} {p : Addr} {g : Nat} {o : Obj} (hp : g ≠ p.block) (h : w.heap[g]? = some o) (u : Value) : (w.setCell p u).heap[g]? = some o := row_set h hp u
theorem rowAt_drawn {w w' : World} {D : Nat} {row : Option Nat} (h : Drawn w w' D row) {b : Nat} {cs : List Value} (hr : rowAt w b cs) (hD : b ≠ D) (hn : some b ≠ row) : rowAt w' b cs := fun j v hj => h.cell (hr j v hj) hD hn
theorem row_drawn {w w' : World} {D : Nat} {row : Option Nat} (h : Drawn w w' D row) {b : Nat} {o : Obj} (hr : w.heap[b]? = some o) (hD : b ≠ D) (hn : some b ≠ row) : w'.heap[b]? = some o := by
  have hl : b < w.heap.size := by
    rcases Nat.lt_or_ge b w.heap.size with hlt | hge
    · exact hlt
    · rw [Array.getElem?_eq_none hge] at hr; cases hr
  exact (h.block b hl hD hn).trans hr
set_option maxRecDepth 100000 in
set_option maxHeartbeats 16000000 in
theorem build_ex (E : Nat) (w : World) (hu : Hid (usesAt w)) (hE : Hid (rowAt w E exC)) :
    Calls Tryz.prog 19 #[.agg #[.string ⟨#[]⟩, .string ⟨#[]⟩, .slice (some ⟨E, 0, none⟩) 3 3, .int .i64 (-1)], .agg #[.int .i64 0, .int .i64 0], .int .i64 0, .agg #[.int .i64 251, .int .i64 3000, .int .i64 0, .int .i64 30000]] w fun e w' => ∃ gv cap, e = .returned (.tuple #[.agg #[.slice (some ⟨gv, 0, none⟩) 4 cap, .int .i64 55904], .int .i64 0, .int .i64 0]) ∧ Hid (pathAt w' (some ⟨gv, 0, none⟩) planL) ∧ Below w.heap.size w w' := by
  have e0 : w.cell? ⟨E, 0, none⟩ = some (.bool false) := hE.out 0 _ rfl
  have zE : E < w.heap.size := World.block_lt_of_cell? _ _ e0
  clear e0
  have RD := fun W => rad_any 251 3000 W
  rw [aw27_rad] at RD
  go_enter Tryz.func19, Tryz.ntmps19
  go_wp2_with fail
  refine (tracks_ex E _ (hide (usesAt_below (show Below w.heap.size w _ by (repeat (with_reducible (first | assumption | exact Below.refl _ _ | refine Below.drew ?_ | refine below_drewN ?_ _ | refine below_set ?_ (by simp; try omega) _ | refine below_alloc ?_ (Nat.le_refl _) _ | refine below_sub (by assumption) ?_)))) hu.out)) (hide (rowAt_below (show Below w.heap.size w _ by (repeat (with_reducible (first | assumption | exact Below.refl _ _ | refine Below.drew ?_ | refine below_drewN ?_ _ | refine below_set ?_ (by simp; try omega) _ | refine below_alloc ?_ (Nat.le_refl _) _ | refine below_sub (by assumption) ?_)))) hE.out))).mono ?_
  rintro e w1 ⟨g, tcap, rfl, hgs, HT, hb1⟩
  obtain ⟨f1, f2, f3, f4, f5, f6, f7, f8, f9, f10⟩ : w1.cell? ⟨w.heap.size, 0, none⟩ = some (.string ⟨#[]⟩) ∧ w1.cell? ⟨w.heap.size, 1, none⟩ = some (.string ⟨#[]⟩) ∧ w1.cell? ⟨w.heap.size, 2, none⟩ = some (.slice (some ⟨E, 0, none⟩) 3 3) ∧ w1.cell? ⟨w.heap.size, 3, none⟩ = some (.int .i64 (-1)) ∧ w1.cell? ⟨w.heap.size + 1, 0, none⟩ = some (.int .i64 0) ∧ w1.cell? ⟨w.heap.size + 1, 1, none⟩ = some (.int .i64 0) ∧ w1.cell? ⟨w.heap.size + 1 + 1, 0, none⟩ = some (.int .i64 251) ∧ w1.cell? ⟨w.heap.size + 1 + 1, 1, none⟩ = some (.int .i64 3000) ∧ w1.cell? ⟨w.heap.size + 1 + 1, 2, none⟩ = some (.int .i64 0) ∧ w1.cell? ⟨w.heap.size + 1 + 1, 3, none⟩ = some (.int .i64 30000) := by
    refine ⟨?_, ?_, ?_, ?_, ?_, ?_, ?_, ?_, ?_, ?_⟩ <;> (refine cell_below hb1 ?_; repeat (first | (with_reducible assumption) | ((with_reducible refine cell_set ?_ ?_ _); (· first | (simp; done) | (simp; omega) | omega)) | ((with_reducible refine cell_new ?_ ?_); (· (simp; done)); (· rfl)) | (with_reducible refine cell_alloc ?_ _) | (with_reducible refine cell_drew ?_) | (with_reducible refine cell_drewN ?_ _) | (with_reducible refine cell_below (by assumption) ?_)))
  have zf1 : w.heap.size < w1.heap.size := World.block_lt_of_cell? _ _ f1
  have zf5 : w.heap.size + 1 < w1.heap.size := World.block_lt_of_cell? _ _ f5
  have zf7 : w.heap.size + 1 + 1 < w1.heap.size := World.block_lt_of_cell? _ _ f7
  have HR1 : Hid (w1.heap[w.heap.size + 1 + 1 + 1]? = some (.cells #[.slice none 0 0, .int .i64 0] 24)) := hide (row_below hb1 (new_at _ _ _ (by simp)))
  have hg1 : Hid (rowAt w1 g trC) := hide (fun j v hj => (World.ownsRow.cellAt HT.out j (by have := (List.getElem?_eq_some_iff.1 hj).1; have h45 : trC.length = 45 := rfl; omega)).trans hj)
  have hg45 : g < w1.heap.size := World.block_lt_of_cell? _ _ (hg1.out 0 _ rfl)
  simp at hgs
  clear HT
  go_wp2_with fail
  refine (RD _).mono ?_
  rintro e w2 ⟨rfl, hb2⟩
  obtain ⟨f11, f12, f13, f14, f15, f16, f17, f18, f19, f20⟩ : w2.cell? ⟨w.heap.size, 0, none⟩ = some (.string ⟨#[]⟩) ∧ w2.cell? ⟨w.heap.size, 1, none⟩ = some (.string ⟨#[]⟩) ∧ w2.cell? ⟨w.heap.size, 2, none⟩ = some (.slice (some ⟨E, 0, none⟩) 3 3) ∧ w2.cell? ⟨w.heap.size, 3, none⟩ = some (.int .i64 (-1)) ∧ w2.cell? ⟨w.heap.size + 1, 0, none⟩ = some (.int .i64 0) ∧ w2.cell? ⟨w.heap.size + 1, 1, none⟩ = some (.int .i64 0) ∧ w2.cell? ⟨w.heap.size + 1 + 1, 0, none⟩ = some (.int .i64 251) ∧ w2.cell? ⟨w.heap.size + 1 + 1, 1, none⟩ = some (.int .i64 3000) ∧ w2.cell? ⟨w.heap.size + 1 + 1, 2, none⟩ = some (.int .i64 0) ∧ w2.cell? ⟨w.heap.size + 1 + 1, 3, none⟩ = some (.int .i64 30000) := by
    refine ⟨?_, ?_, ?_, ?_, ?_, ?_, ?_, ?_, ?_, ?_⟩ <;> (refine cell_below hb2 ?_; repeat (first | (with_reducible assumption) | ((with_reducible refine cell_set ?_ ?_ _); (· first | (simp; done) | (simp; omega) | omega)) | ((with_reducible refine cell_new ?_ ?_); (· (simp; done)); (· rfl)) | (with_reducible refine cell_alloc ?_ _) | (with_reducible refine cell_drew ?_) | (with_reducible refine cell_drewN ?_ _) | (with_reducible refine cell_below (by assumption) ?_)))
  have zf11 : w.heap.size < w2.heap.size := World.block_lt_of_cell? _ _ f11
  have zf15 : w.heap.size + 1 < w2.heap.size := World.block_lt_of_cell? _ _ f15
  have zf17 : w.heap.size + 1 + 1 < w2.heap.size := World.block_lt_of_cell? _ _ f17
  clear f1 zf1 f2 f3 f4 f5 zf5 f6 f7 zf7 f8 f9 f10
  have HR2 := hide (row_below hb2 HR1.out)
  have hg2 := hide (rowAt_below hb2 hg1.out)
  have hg46 : g < w2.heap.size := World.block_lt_of_cell? _ _ (hg2.out 0 _ rfl)
  clear HR1 hg1 hg45
  go_wp2_with fail
  obtain ⟨D, hD⟩ : ∃ D, D = w2.heap.size := ⟨_, rfl⟩
  have hs2 : w.heap.size + 1 + 1 + 1 < w2.heap.size := by
    have h1 := hb1.size
    have h2 := hb2.size
    simp only [World.size_alloc] at h1
    omega
  go_loopw [16, 55] (fun dn i W => ∃ (k : Nat) (v : Value), k ≤ 3 ∧ dn = .bool (decide (k = 2)) ∧ i = .int .i64 (k : Int) ∧ W.cell? ⟨w.heap.size, 0, none⟩ = some (.string ⟨#[]⟩) ∧ W.cell? ⟨w.heap.size, 1, none⟩ = some (.string ⟨#[]⟩) ∧ W.cell? ⟨w.heap.size, 2, none⟩ = some (.slice (some ⟨E, 0, none⟩) 3 3) ∧ W.cell? ⟨w.heap.size, 3, none⟩ = some (.int .i64 (-1)) ∧ Hid (W.heap[w.heap.size + 1 + 1 + 1]? = some (.cells #[.slice none 0 0, .int .i64 0] 24)) ∧ Hid (drawAt W (D + 1) D (if k = 0 then [] else if k = 1 then [] else if k = 2 then planL.take 3 else planL) (if k = 2 then 9541 else if k = 3 then 30000 else 0) (if k = 1 then -30000 else 0) false 9541 v) ∧ Hid (rowAt W g trC) ∧ (k < 2 → v = .slice none 0 0) ∧ Below w.heap.size w W) (fun _ i _ => 3 - (intOf i).toNat)
  case atStart =>
    subst hD
    exact ⟨0, .slice none 0 0, by omega, rfl, rfl, by (repeat (first | (with_reducible assumption) | ((with_reducible refine cell_set ?_ ?_ _); (· first | (simp; done) | (simp; omega) | omega)) | ((with_reducible refine cell_new ?_ ?_); (· (simp; done)); (· rfl)) | (with_reducible refine cell_alloc ?_ _) | (with_reducible refine cell_drew ?_) | (with_reducible refine cell_drewN ?_ _) | (with_reducible refine cell_below (by assumption) ?_))), by (repeat (first | (with_reducible assumption) | ((with_reducible refine cell_set ?_ ?_ _); (· first | (simp; done) | (simp; omega) | omega)) | ((with_reducible refine cell_new ?_ ?_); (· (simp; done)); (· rfl)) | (with_reducible refine cell_alloc ?_ _) | (with_reducible refine cell_drew ?_) | (with_reducible refine cell_drewN ?_ _) | (with_reducible refine cell_below (by assumption) ?_))), by (repeat (first | (with_reducible assumption) | ((with_reducible refine cell_set ?_ ?_ _); (· first | (simp; done) | (simp; omega) | omega)) | ((with_reducible refine cell_new ?_ ?_); (· (simp; done)); (· rfl)) | (with_reducible refine cell_alloc ?_ _) | (with_reducible refine cell_drew ?_) | (with_reducible refine cell_drewN ?_ _) | (with_reducible refine cell_below (by assumption) ?_))), by (repeat (first | (with_reducible assumption) | ((with_reducible refine cell_set ?_ ?_ _); (· first | (simp; done) | (simp; omega) | omega)) | ((with_reducible refine cell_new ?_ ?_); (· (simp; done)); (· rfl)) | (with_reducible refine cell_alloc ?_ _) | (with_reducible refine cell_drew ?_) | (with_reducible refine cell_drewN ?_ _) | (with_reducible refine cell_below (by assumption) ?_))), hide (row_alloc HR2.out _), hide ⟨own_new rfl rfl, own_new rfl rfl, own_new rfl rfl, own_new rfl rfl, own_new rfl rfl, ⟨rfl, .inl ⟨rfl, rfl⟩⟩, by simp, by simp⟩, hide (rowAt_below ((Below.refl _ w2).alloc (Nat.le_refl _) _) hg2.out), fun _ => rfl, by (repeat (with_reducible (first | assumption | exact Below.refl _ _ | refine Below.drew ?_ | refine below_drewN ?_ _ | refine below_set ?_ (by simp; try omega) _ | refine below_alloc ?_ (Nat.le_refl _) _ | refine below_sub (by assumption) ?_)))⟩
  case round =>
    obtain ⟨k, v, hk, rfl, rfl, p0, p1, p2, p3, HR, HD, HG, HV, K⟩ := hrel
    rw [← hD]
    have HhD := hide hD
    have hs3 : g < D ∧ w.heap.size + 1 + 1 + 1 < D := by omega
    clear hD
    have hEr := hide (rowAt_below K hE.out)
    have zE2 : E < wr.heap.size := by have := K.size; omega
    have zp : w.heap.size < wr.heap.size := World.block_lt_of_cell? _ _ p0
    have zD : D < wr.heap.size := World.block_lt_of_cell? _ _ HD.out.1.1
    have zg : g < wr.heap.size := World.block_lt_of_cell? _ _ (HG.out 0 _ rfl)
    obtain rfl | rfl | rfl | rfl : k = 0 ∨ k = 1 ∨ k = 2 ∨ k = 3 := by omega
    · skip
      have HD0 : Hid (drawAt wr (D + 1) D [] 0 0 false 9541 v) := HD
      clear HD
      obtain ⟨⟨d0a, d0b⟩, ⟨d1a, d1b⟩, ⟨d2a, d2b⟩, ⟨d3a, d3b⟩, ⟨d4a, d4b⟩, ho, hDb, hbw⟩ := HD0.out
      have HO := hide ho
      clear ho
      have nP : some (w.heap.size) ≠ v.ownBlock := fun e => by have := (HO.out.lt _ e.symm).1; omega
      have nG : some g ≠ v.ownBlock := fun e => by have := (HO.out.lt _ e.symm).1; omega
      have nR : some (w.heap.size + 1 + 1 + 1) ≠ v.ownBlock := fun e => by have := (HO.out.lt _ e.symm).1; omega
      have vB : ∀ j, v.ownBlock = some j → w.heap.size ≤ j := fun j e => by have := (HO.out.lt _ e).1; omega
      obtain rfl : v = .slice none 0 0 := HV (by omega)
      clear HV
      have neD : D ≠ wr.heap.size := by omega
      have neD1 : D ≠ wr.heap.size + 1 := by omega
      go_wp2_with (first
        | (with_reducible refine at_ld 77 ?_; refine wpl_load_list (ty := 77) rfl rfl (off := 0) (b := g) rfl [.int .u8 1, .int .i64 0, .int .i64 (-30000), .int .i64 0, .int .i64 (-30000), .int .i64 0, .int .i64 0, .int .i64 0, .int .i64 0, .int .i64 0, .int .i64 0, .int .i64 0, .int .i64 0, .int .i64 0, .bool false] Tryz.isAgg77 sizeT rfl (rowAt_part HG.out 0 15 _ rfl) ?_)
        | (with_reducible refine at_st 77 ?_; (refine wpl_store_new (ty := 77) rfl rfl rfl rfl ?_ sizeT rfl rfl (by simp [Value.oneCell']) ?_; (· first | rfl | (simp; done))))
        | (with_reducible refine at_ld 49 ?_; refine wpl_load_list (ty := 49) rfl rfl (off := 1) (b := E) rfl [.int .u8 1, .string ⟨#[65, 47, 48, 48]⟩, .string ⟨#[]⟩, .int .u8 0, .bool false, .int .i64 0, .int .i64 0, .int .i64 0, .int .i64 0, .int .i64 (-200000), .int .i64 6000000, .int .i64 0, .int .i64 0] Tryz.isAgg49 sizeL13 rfl (rowAt_part (rowAt_below ?_ hEr.out) 1 13 _ rfl) ?_; (· (repeat (with_reducible (first | assumption | exact Below.refl _ _ | refine Below.drew ?_ | refine below_drewN ?_ _ | refine below_set ?_ (by simp; try omega) _ | refine below_alloc ?_ (Nat.le_refl _) _ | refine below_sub (by assumption) ?_)))))
        | (with_reducible refine at_st 49 ?_; (refine wpl_store_new (ty := 49) rfl rfl rfl rfl ?_ sizeL13 rfl rfl (by simp [Value.oneCell']) ?_; (· first | rfl | (simp; done)))))
      have HA : Hid (drawAt (((((wr.setCell ⟨D, 1, none⟩ (.int .i64 0)).setCell ⟨D, 2, none⟩ (.int .i64 (-30000))).setCell ⟨D, 3, none⟩ (.bool false)).alloc (.cells #[.int .u8 1, .int .i64 0, .int .i64 (-30000), .int .i64 0, .int .i64 (-30000), .int .i64 0, .int .i64 0, .int .i64 0, .int .i64 0, .int .i64 0, .int .i64 0, .int .i64 0, .int .i64 0, .int .i64 0, .bool false] 77)).alloc (.cells #[.int .u8 1, .string ⟨#[65, 47, 48, 48]⟩, .string ⟨#[]⟩, .int .u8 0, .bool false, .int .i64 0, .int .i64 0, .int .i64 0, .int .i64 0, .int .i64 (-200000), .int .i64 6000000, .int .i64 0, .int .i64 0] 49)) (D + 1) D [] 0 (-30000) false 9541 (.slice none 0 0)) := hide (drawAt_below (((Below.refl _ (((wr.setCell ⟨D, 1, none⟩ (.int .i64 0)).setCell ⟨D, 2, none⟩ (.int .i64 (-30000))).setCell ⟨D, 3, none⟩ (.bool false))).alloc (Nat.le_refl _) _).alloc (by simp) _) (drawAt_pen HD0.out 0 (-30000) false))
      refine (line_same (D + 1) D [] 0 (-30000) false 9541 (.slice none 0 0) 0 _ HA.out).mono ?_
      rintro e w1 ⟨rfl, hb1⟩
      obtain ⟨f1, f2, f3, f4, f5, f6, f7, f8, f9, f10, f11, f12, f13, f14, f15, f16, f17, f18, f19, f20, f21, f22, f23, f24, f25, f26, f27, f28, f29, f30, f31, f32⟩ : w1.cell? ⟨w.heap.size, 0, none⟩ = some (.string ⟨#[]⟩) ∧ w1.cell? ⟨w.heap.size, 1, none⟩ = some (.string ⟨#[]⟩) ∧ w1.cell? ⟨w.heap.size, 2, none⟩ = some (.slice (some ⟨E, 0, none⟩) 3 3) ∧ w1.cell? ⟨w.heap.size, 3, none⟩ = some (.int .i64 (-1)) ∧ w1.cell? ⟨wr.heap.size, 0, none⟩ = some (.int .u8 1) ∧ w1.cell? ⟨wr.heap.size, 1, none⟩ = some (.int .i64 0) ∧ w1.cell? ⟨wr.heap.size, 2, none⟩ = some (.int .i64 (-30000)) ∧ w1.cell? ⟨wr.heap.size, 3, none⟩ = some (.int .i64 0) ∧ w1.cell? ⟨wr.heap.size, 4, none⟩ = some (.int .i64 (-30000)) ∧ w1.cell? ⟨wr.heap.size, 5, none⟩ = some (.int .i64 0) ∧ w1.cell? ⟨wr.heap.size, 6, none⟩ = some (.int .i64 0) ∧ w1.cell? ⟨wr.heap.size, 7, none⟩ = some (.int .i64 0) ∧ w1.cell? ⟨wr.heap.size, 8, none⟩ = some (.int .i64 0) ∧ w1.cell? ⟨wr.heap.size, 9, none⟩ = some (.int .i64 0) ∧ w1.cell? ⟨wr.heap.size, 10, none⟩ = some (.int .i64 0) ∧ w1.cell? ⟨wr.heap.size, 11, none⟩ = some (.int .i64 0) ∧ w1.cell? ⟨wr.heap.size, 12, none⟩ = some (.int .i64 0) ∧ w1.cell? ⟨wr.heap.size, 13, none⟩ = some (.int .i64 0) ∧ w1.cell? ⟨wr.heap.size, 14, none⟩ = some (.bool false) ∧ w1.cell? ⟨wr.heap.size + 1, 0, none⟩ = some (.int .u8 1) ∧ w1.cell? ⟨wr.heap.size + 1, 1, none⟩ = some (.string ⟨#[65, 47, 48, 48]⟩) ∧ w1.cell? ⟨wr.heap.size + 1, 2, none⟩ = some (.string ⟨#[]⟩) ∧ w1.cell? ⟨wr.heap.size + 1, 3, none⟩ = some (.int .u8 0) ∧ w1.cell? ⟨wr.heap.size + 1, 4, none⟩ = some (.bool false) ∧ w1.cell? ⟨wr.heap.size + 1, 5, none⟩ = some (.int .i64 0) ∧ w1.cell? ⟨wr.heap.size + 1, 6, none⟩ = some (.int .i64 0) ∧ w1.cell? ⟨wr.heap.size + 1, 7, none⟩ = some (.int .i64 0) ∧ w1.cell? ⟨wr.heap.size + 1, 8, none⟩ = some (.int .i64 0) ∧ w1.cell? ⟨wr.heap.size + 1, 9, none⟩ = some (.int .i64 (-200000)) ∧ w1.cell? ⟨wr.heap.size + 1, 10, none⟩ = some (.int .i64 6000000) ∧ w1.cell? ⟨wr.heap.size + 1, 11, none⟩ = some (.int .i64 0) ∧ w1.cell? ⟨wr.heap.size + 1, 12, none⟩ = some (.int .i64 0) := by
        refine ⟨?_, ?_, ?_, ?_, ?_, ?_, ?_, ?_, ?_, ?_, ?_, ?_, ?_, ?_, ?_, ?_, ?_, ?_, ?_, ?_, ?_, ?_, ?_, ?_, ?_, ?_, ?_, ?_, ?_, ?_, ?_, ?_⟩ <;> (refine cell_below hb1 ?_; repeat (first | (with_reducible assumption) | ((with_reducible refine cell_set ?_ ?_ _); (· first | (simp; done) | (simp; omega) | omega)) | ((with_reducible refine cell_new ?_ ?_); (· (simp; done)); (· rfl)) | (with_reducible refine cell_alloc ?_ _) | (with_reducible refine cell_drew ?_) | (with_reducible refine cell_drewN ?_ _) | (with_reducible refine cell_below (by assumption) ?_)))
      have zf1 : w.heap.size < w1.heap.size := World.block_lt_of_cell? _ _ f1
      have zf5 : wr.heap.size < w1.heap.size := World.block_lt_of_cell? _ _ f5
      have zf20 : wr.heap.size + 1 < w1.heap.size := World.block_lt_of_cell? _ _ f20
      clear p0 zp p1 p2 p3
      have HD1 := hide (drawAt_below hb1 HA.out)
      clear HA HD0 d0a d0b d1a d1b d2a d2b d3a d3b d4a d4b
      have zD1 : D < w1.heap.size := World.block_lt_of_cell? _ _ HD1.out.1.1
      have HR1 : Hid (w1.heap[w.heap.size + 1 + 1 + 1]? = some (.cells #[.slice none 0 0, .int .i64 0] 24)) := hide (row_below hb1 (by have := HR.out; (repeat (first | (with_reducible assumption) | ((with_reducible refine new_at _ _ _ ?_); (· (simp; done))) | (with_reducible refine row_alloc ?_ _) | ((with_reducible refine row_set2 ?_ ?_ _); (· first | (simp; done) | (simp; omega) | omega)) | (with_reducible refine row_below (by assumption) ?_)))))
      have HG1 : Hid (rowAt w1 g trC) := hide (fun j u hj => cell_below hb1 (by have := HG.out j u hj; (repeat (first | (with_reducible assumption) | ((with_reducible refine cell_set ?_ ?_ _); (· first | (simp; done) | (simp; omega) | omega)) | ((with_reducible refine cell_new ?_ ?_); (· (simp; done)); (· rfl)) | (with_reducible refine cell_alloc ?_ _) | (with_reducible refine cell_drew ?_) | (with_reducible refine cell_drewN ?_ _) | (with_reducible refine cell_below (by assumption) ?_)))))
      have gap0 : w1.cell? ⟨g, 29, none⟩ = some (.bool false) := HG1.out 29 _ rfl
      have zg1 : g < w1.heap.size := World.block_lt_of_cell? _ _ gap0
      clear HR HG
      go_wp2_with fail
      have iw : IntKind.i64.wrap 1 = 1 := by decide
      go_still_tail 7, (by kernel_rfl)
      change wpList _ _ _ _ _ w1.drew
      go_wp2_with fail
      have HG1d := hide (rowAt_below ((Below.refl _ w1).drew) HG1.out)
      refine (trans_no D E g _ HG1d).mono ?_
      rintro e w2 ⟨rfl, hb2⟩
      obtain ⟨f33, f34, f35, f36, f37, f38, f39, f40, f41, f42, f43, f44, f45, f46, f47, f48, f49, f50, f51, f52, f53, f54, f55, f56, f57, f58, f59, f60, f61, f62, f63, f64⟩ : w2.cell? ⟨w.heap.size, 0, none⟩ = some (.string ⟨#[]⟩) ∧ w2.cell? ⟨w.heap.size, 1, none⟩ = some (.string ⟨#[]⟩) ∧ w2.cell? ⟨w.heap.size, 2, none⟩ = some (.slice (some ⟨E, 0, none⟩) 3 3) ∧ w2.cell? ⟨w.heap.size, 3, none⟩ = some (.int .i64 (-1)) ∧ w2.cell? ⟨wr.heap.size, 0, none⟩ = some (.int .u8 1) ∧ w2.cell? ⟨wr.heap.size, 1, none⟩ = some (.int .i64 0) ∧ w2.cell? ⟨wr.heap.size, 2, none⟩ = some (.int .i64 (-30000)) ∧ w2.cell? ⟨wr.heap.size, 3, none⟩ = some (.int .i64 0) ∧ w2.cell? ⟨wr.heap.size, 4, none⟩ = some (.int .i64 (-30000)) ∧ w2.cell? ⟨wr.heap.size, 5, none⟩ = some (.int .i64 0) ∧ w2.cell? ⟨wr.heap.size, 6, none⟩ = some (.int .i64 0) ∧ w2.cell? ⟨wr.heap.size, 7, none⟩ = some (.int .i64 0) ∧ w2.cell? ⟨wr.heap.size, 8, none⟩ = some (.int .i64 0) ∧ w2.cell? ⟨wr.heap.size, 9, none⟩ = some (.int .i64 0) ∧ w2.cell? ⟨wr.heap.size, 10, none⟩ = some (.int .i64 0) ∧ w2.cell? ⟨wr.heap.size, 11, none⟩ = some (.int .i64 0) ∧ w2.cell? ⟨wr.heap.size, 12, none⟩ = some (.int .i64 0) ∧ w2.cell? ⟨wr.heap.size, 13, none⟩ = some (.int .i64 0) ∧ w2.cell? ⟨wr.heap.size, 14, none⟩ = some (.bool false) ∧ w2.cell? ⟨wr.heap.size + 1, 0, none⟩ = some (.int .u8 1) ∧ w2.cell? ⟨wr.heap.size + 1, 1, none⟩ = some (.string ⟨#[65, 47, 48, 48]⟩) ∧ w2.cell? ⟨wr.heap.size + 1, 2, none⟩ = some (.string ⟨#[]⟩) ∧ w2.cell? ⟨wr.heap.size + 1, 3, none⟩ = some (.int .u8 0) ∧ w2.cell? ⟨wr.heap.size + 1, 4, none⟩ = some (.bool false) ∧ w2.cell? ⟨wr.heap.size + 1, 5, none⟩ = some (.int .i64 0) ∧ w2.cell? ⟨wr.heap.size + 1, 6, none⟩ = some (.int .i64 0) ∧ w2.cell? ⟨wr.heap.size + 1, 7, none⟩ = some (.int .i64 0) ∧ w2.cell? ⟨wr.heap.size + 1, 8, none⟩ = some (.int .i64 0) ∧ w2.cell? ⟨wr.heap.size + 1, 9, none⟩ = some (.int .i64 (-200000)) ∧ w2.cell? ⟨wr.heap.size + 1, 10, none⟩ = some (.int .i64 6000000) ∧ w2.cell? ⟨wr.heap.size + 1, 11, none⟩ = some (.int .i64 0) ∧ w2.cell? ⟨wr.heap.size + 1, 12, none⟩ = some (.int .i64 0) := by
        refine ⟨?_, ?_, ?_, ?_, ?_, ?_, ?_, ?_, ?_, ?_, ?_, ?_, ?_, ?_, ?_, ?_, ?_, ?_, ?_, ?_, ?_, ?_, ?_, ?_, ?_, ?_, ?_, ?_, ?_, ?_, ?_, ?_⟩ <;> (refine cell_below hb2 ?_; repeat (first | (with_reducible assumption) | ((with_reducible refine cell_set ?_ ?_ _); (· first | (simp; done) | (simp; omega) | omega)) | ((with_reducible refine cell_new ?_ ?_); (· (simp; done)); (· rfl)) | (with_reducible refine cell_alloc ?_ _) | (with_reducible refine cell_drew ?_) | (with_reducible refine cell_drewN ?_ _) | (with_reducible refine cell_below (by assumption) ?_)))
      have zf33 : w.heap.size < w2.heap.size := World.block_lt_of_cell? _ _ f33
      have zf37 : wr.heap.size < w2.heap.size := World.block_lt_of_cell? _ _ f37
      have zf52 : wr.heap.size + 1 < w2.heap.size := World.block_lt_of_cell? _ _ f52
      clear f1 zf1 f2 f3 f4 f5 zf5 f6 f7 f8 f9 f10 f11 f12 f13 f14 f15 f16 f17 f18 f19 f20 zf20 f21 f22 f23 f24 f25 f26 f27 f28 f29 f30 f31 f32
      have HD2 := hide (drawAt_below hb2 (drawAt_below ((Below.refl _ w1).drew) HD1.out))
      have HR2 : Hid (w2.heap[w.heap.size + 1 + 1 + 1]? = some (.cells #[.slice none 0 0, .int .i64 0] 24)) := hide (row_below hb2 HR1.out)
      have HG2 := hide (rowAt_below hb2 HG1d.out)
      have zD2 : D < w2.heap.size := World.block_lt_of_cell? _ _ HD2.out.1.1
      go_wp2_with fail
      refine (line_same (D + 1) D [] 0 (-30000) false 9541 (.slice none 0 0) 0 _ HD2.out).mono ?_
      rintro e w3 ⟨rfl, hb3⟩
      obtain ⟨f65, f66, f67, f68, f69, f70, f71, f72, f73, f74, f75, f76, f77, f78, f79, f80, f81, f82, f83, f84, f85, f86, f87, f88, f89, f90, f91, f92, f93, f94, f95, f96⟩ : w3.cell? ⟨w.heap.size, 0, none⟩ = some (.string ⟨#[]⟩) ∧ w3.cell? ⟨w.heap.size, 1, none⟩ = some (.string ⟨#[]⟩) ∧ w3.cell? ⟨w.heap.size, 2, none⟩ = some (.slice (some ⟨E, 0, none⟩) 3 3) ∧ w3.cell? ⟨w.heap.size, 3, none⟩ = some (.int .i64 (-1)) ∧ w3.cell? ⟨wr.heap.size, 0, none⟩ = some (.int .u8 1) ∧ w3.cell? ⟨wr.heap.size, 1, none⟩ = some (.int .i64 0) ∧ w3.cell? ⟨wr.heap.size, 2, none⟩ = some (.int .i64 (-30000)) ∧ w3.cell? ⟨wr.heap.size, 3, none⟩ = some (.int .i64 0) ∧ w3.cell? ⟨wr.heap.size, 4, none⟩ = some (.int .i64 (-30000)) ∧ w3.cell? ⟨wr.heap.size, 5, none⟩ = some (.int .i64 0) ∧ w3.cell? ⟨wr.heap.size, 6, none⟩ = some (.int .i64 0) ∧ w3.cell? ⟨wr.heap.size, 7, none⟩ = some (.int .i64 0) ∧ w3.cell? ⟨wr.heap.size, 8, none⟩ = some (.int .i64 0) ∧ w3.cell? ⟨wr.heap.size, 9, none⟩ = some (.int .i64 0) ∧ w3.cell? ⟨wr.heap.size, 10, none⟩ = some (.int .i64 0) ∧ w3.cell? ⟨wr.heap.size, 11, none⟩ = some (.int .i64 0) ∧ w3.cell? ⟨wr.heap.size, 12, none⟩ = some (.int .i64 0) ∧ w3.cell? ⟨wr.heap.size, 13, none⟩ = some (.int .i64 0) ∧ w3.cell? ⟨wr.heap.size, 14, none⟩ = some (.bool false) ∧ w3.cell? ⟨wr.heap.size + 1, 0, none⟩ = some (.int .u8 1) ∧ w3.cell? ⟨wr.heap.size + 1, 1, none⟩ = some (.string ⟨#[65, 47, 48, 48]⟩) ∧ w3.cell? ⟨wr.heap.size + 1, 2, none⟩ = some (.string ⟨#[]⟩) ∧ w3.cell? ⟨wr.heap.size + 1, 3, none⟩ = some (.int .u8 0) ∧ w3.cell? ⟨wr.heap.size + 1, 4, none⟩ = some (.bool false) ∧ w3.cell? ⟨wr.heap.size + 1, 5, none⟩ = some (.int .i64 0) ∧ w3.cell? ⟨wr.heap.size + 1, 6, none⟩ = some (.int .i64 0) ∧ w3.cell? ⟨wr.heap.size + 1, 7, none⟩ = some (.int .i64 0) ∧ w3.cell? ⟨wr.heap.size + 1, 8, none⟩ = some (.int .i64 0) ∧ w3.cell? ⟨wr.heap.size + 1, 9, none⟩ = some (.int .i64 (-200000)) ∧ w3.cell? ⟨wr.heap.size + 1, 10, none⟩ = some (.int .i64 6000000) ∧ w3.cell? ⟨wr.heap.size + 1, 11, none⟩ = some (.int .i64 0) ∧ w3.cell? ⟨wr.heap.size + 1, 12, none⟩ = some (.int .i64 0) := by
        refine ⟨?_, ?_, ?_, ?_, ?_, ?_, ?_, ?_, ?_, ?_, ?_, ?_, ?_, ?_, ?_, ?_, ?_, ?_, ?_, ?_, ?_, ?_, ?_, ?_, ?_, ?_, ?_, ?_, ?_, ?_, ?_, ?_⟩ <;> (refine cell_below hb3 ?_; repeat (first | (with_reducible assumption) | ((with_reducible refine cell_set ?_ ?_ _); (· first | (simp; done) | (simp; omega) | omega)) | ((with_reducible refine cell_new ?_ ?_); (· (simp; done)); (· rfl)) | (with_reducible refine cell_alloc ?_ _) | (with_reducible refine cell_drew ?_) | (with_reducible refine cell_drewN ?_ _) | (with_reducible refine cell_below (by assumption) ?_)))
      have zf65 : w.heap.size < w3.heap.size := World.block_lt_of_cell? _ _ f65
      have zf69 : wr.heap.size < w3.heap.size := World.block_lt_of_cell? _ _ f69
      have zf84 : wr.heap.size + 1 < w3.heap.size := World.block_lt_of_cell? _ _ f84
      clear f33 zf33 f34 f35 f36 f37 zf37 f38 f39 f40 f41 f42 f43 f44 f45 f46 f47 f48 f49 f50 f51 f52 zf52 f53 f54 f55 f56 f57 f58 f59 f60 f61 f62 f63 f64
      have HD3 := hide (drawAt_below hb3 HD2.out)
      have HR3 : Hid (w3.heap[w.heap.size + 1 + 1 + 1]? = some (.cells #[.slice none 0 0, .int .i64 0] 24)) := hide (row_below hb3 HR2.out)
      have HG3 := hide (rowAt_below hb3 HG2.out)
      have hb4 := hide (show Below w.heap.size w w3 by (repeat (with_reducible (first | assumption | exact Below.refl _ _ | refine Below.drew ?_ | refine below_drewN ?_ _ | refine below_set ?_ (by simp; try omega) _ | refine below_alloc ?_ (Nat.le_refl _) _ | refine below_sub (by assumption) ?_))))
      go_wp2_with fail
      all_goals
        go_roundw
        case rel => exact ⟨1, .slice none 0 0, by omega, rfl, rfl, f65, f66, f67, f68, HR3, HD3, HG3, fun _ => rfl, hb4.out⟩
        case measure => simp [intOf]
    · skip
      have HD0 : Hid (drawAt wr (D + 1) D [] 0 (-30000) false 9541 v) := HD
      clear HD
      obtain ⟨⟨d0a, d0b⟩, ⟨d1a, d1b⟩, ⟨d2a, d2b⟩, ⟨d3a, d3b⟩, ⟨d4a, d4b⟩, ho, hDb, hbw⟩ := HD0.out
      have HO := hide ho
      clear ho
      have nP : some (w.heap.size) ≠ v.ownBlock := fun e => by have := (HO.out.lt _ e.symm).1; omega
      have nG : some g ≠ v.ownBlock := fun e => by have := (HO.out.lt _ e.symm).1; omega
      have nR : some (w.heap.size + 1 + 1 + 1) ≠ v.ownBlock := fun e => by have := (HO.out.lt _ e.symm).1; omega
      have vB : ∀ j, v.ownBlock = some j → w.heap.size ≤ j := fun j e => by have := (HO.out.lt _ e).1; omega
      obtain rfl : v = .slice none 0 0 := HV (by omega)
      clear HV
      have neD : D ≠ wr.heap.size := by omega
      have neD1 : D ≠ wr.heap.size + 1 := by omega
      go_wp2_with (first
        | (with_reducible refine at_ld 77 ?_; refine wpl_load_list (ty := 77) rfl rfl (off := 15) (b := g) rfl [.int .u8 1, .int .i64 0, .int .i64 (-30000), .int .i64 0, .int .i64 0, .int .i64 0, .int .i64 0, .int .i64 0, .int .i64 0, .int .i64 0, .int .i64 0, .int .i64 0, .int .i64 30000, .int .i64 1, .bool false] Tryz.isAgg77 sizeT rfl (rowAt_part HG.out 15 15 _ rfl) ?_)
        | (with_reducible refine at_st 77 ?_; (refine wpl_store_new (ty := 77) rfl rfl rfl rfl ?_ sizeT rfl rfl (by simp [Value.oneCell']) ?_; (· first | rfl | (simp; done))))
        | (with_reducible refine at_ld 49 ?_; refine wpl_load_list (ty := 49) rfl rfl (off := 21) (b := E) rfl [.int .u8 2, .string ⟨#[66, 47, 48, 48]⟩, .string ⟨#[]⟩, .int .u8 0, .bool false, .int .i64 0, .int .i64 0, .int .i64 0, .int .i64 0, .int .i64 (-200000), .int .i64 6000000, .int .i64 0, .int .i64 0] Tryz.isAgg49 sizeL13 rfl (rowAt_part (rowAt_below ?_ hEr.out) 21 13 _ rfl) ?_; (· (repeat (with_reducible (first | assumption | exact Below.refl _ _ | refine Below.drew ?_ | refine below_drewN ?_ _ | refine below_set ?_ (by simp; try omega) _ | refine below_alloc ?_ (Nat.le_refl _) _ | refine below_sub (by assumption) ?_)))))
        | (with_reducible refine at_st 49 ?_; (refine wpl_store_new (ty := 49) rfl rfl rfl rfl ?_ sizeL13 rfl rfl (by simp [Value.oneCell']) ?_; (· first | rfl | (simp; done)))))
      have HA : Hid (drawAt ((wr.alloc (.cells #[.int .u8 1, .int .i64 0, .int .i64 (-30000), .int .i64 0, .int .i64 0, .int .i64 0, .int .i64 0, .int .i64 0, .int .i64 0, .int .i64 0, .int .i64 0, .int .i64 0, .int .i64 30000, .int .i64 1, .bool false] 77)).alloc (.cells #[.int .u8 2, .string ⟨#[66, 47, 48, 48]⟩, .string ⟨#[]⟩, .int .u8 0, .bool false, .int .i64 0, .int .i64 0, .int .i64 0, .int .i64 0, .int .i64 (-200000), .int .i64 6000000, .int .i64 0, .int .i64 0] 49)) (D + 1) D [] 0 (-30000) false 9541 (.slice none 0 0)) := hide (drawAt_below (w := wr) (show Below wr.heap.size wr _ by (repeat (with_reducible (first | assumption | exact Below.refl _ _ | refine Below.drew ?_ | refine below_drewN ?_ _ | refine below_set ?_ (by simp; try omega) _ | refine below_alloc ?_ (Nat.le_refl _) _ | refine below_sub (by assumption) ?_)))) HD0.out)
      refine (line_same (D + 1) D [] 0 (-30000) false 9541 (.slice none 0 0) 1 _ HA.out).mono ?_
      rintro e w1 ⟨rfl, hb1⟩
      obtain ⟨f1, f2, f3, f4, f5, f6, f7, f8, f9, f10, f11, f12, f13, f14, f15, f16, f17, f18, f19, f20, f21, f22, f23, f24, f25, f26, f27, f28, f29, f30, f31, f32⟩ : w1.cell? ⟨w.heap.size, 0, none⟩ = some (.string ⟨#[]⟩) ∧ w1.cell? ⟨w.heap.size, 1, none⟩ = some (.string ⟨#[]⟩) ∧ w1.cell? ⟨w.heap.size, 2, none⟩ = some (.slice (some ⟨E, 0, none⟩) 3 3) ∧ w1.cell? ⟨w.heap.size, 3, none⟩ = some (.int .i64 (-1)) ∧ w1.cell? ⟨wr.heap.size, 0, none⟩ = some (.int .u8 1) ∧ w1.cell? ⟨wr.heap.size, 1, none⟩ = some (.int .i64 0) ∧ w1.cell? ⟨wr.heap.size, 2, none⟩ = some (.int .i64 (-30000)) ∧ w1.cell? ⟨wr.heap.size, 3, none⟩ = some (.int .i64 0) ∧ w1.cell? ⟨wr.heap.size, 4, none⟩ = some (.int .i64 0) ∧ w1.cell? ⟨wr.heap.size, 5, none⟩ = some (.int .i64 0) ∧ w1.cell? ⟨wr.heap.size, 6, none⟩ = some (.int .i64 0) ∧ w1.cell? ⟨wr.heap.size, 7, none⟩ = some (.int .i64 0) ∧ w1.cell? ⟨wr.heap.size, 8, none⟩ = some (.int .i64 0) ∧ w1.cell? ⟨wr.heap.size, 9, none⟩ = some (.int .i64 0) ∧ w1.cell? ⟨wr.heap.size, 10, none⟩ = some (.int .i64 0) ∧ w1.cell? ⟨wr.heap.size, 11, none⟩ = some (.int .i64 0) ∧ w1.cell? ⟨wr.heap.size, 12, none⟩ = some (.int .i64 30000) ∧ w1.cell? ⟨wr.heap.size, 13, none⟩ = some (.int .i64 1) ∧ w1.cell? ⟨wr.heap.size, 14, none⟩ = some (.bool false) ∧ w1.cell? ⟨wr.heap.size + 1, 0, none⟩ = some (.int .u8 2) ∧ w1.cell? ⟨wr.heap.size + 1, 1, none⟩ = some (.string ⟨#[66, 47, 48, 48]⟩) ∧ w1.cell? ⟨wr.heap.size + 1, 2, none⟩ = some (.string ⟨#[]⟩) ∧ w1.cell? ⟨wr.heap.size + 1, 3, none⟩ = some (.int .u8 0) ∧ w1.cell? ⟨wr.heap.size + 1, 4, none⟩ = some (.bool false) ∧ w1.cell? ⟨wr.heap.size + 1, 5, none⟩ = some (.int .i64 0) ∧ w1.cell? ⟨wr.heap.size + 1, 6, none⟩ = some (.int .i64 0) ∧ w1.cell? ⟨wr.heap.size + 1, 7, none⟩ = some (.int .i64 0) ∧ w1.cell? ⟨wr.heap.size + 1, 8, none⟩ = some (.int .i64 0) ∧ w1.cell? ⟨wr.heap.size + 1, 9, none⟩ = some (.int .i64 (-200000)) ∧ w1.cell? ⟨wr.heap.size + 1, 10, none⟩ = some (.int .i64 6000000) ∧ w1.cell? ⟨wr.heap.size + 1, 11, none⟩ = some (.int .i64 0) ∧ w1.cell? ⟨wr.heap.size + 1, 12, none⟩ = some (.int .i64 0) := by
        refine ⟨?_, ?_, ?_, ?_, ?_, ?_, ?_, ?_, ?_, ?_, ?_, ?_, ?_, ?_, ?_, ?_, ?_, ?_, ?_, ?_, ?_, ?_, ?_, ?_, ?_, ?_, ?_, ?_, ?_, ?_, ?_, ?_⟩ <;> (refine cell_below hb1 ?_; repeat (first | (with_reducible assumption) | ((with_reducible refine cell_set ?_ ?_ _); (· first | (simp; done) | (simp; omega) | omega)) | ((with_reducible refine cell_new ?_ ?_); (· (simp; done)); (· rfl)) | (with_reducible refine cell_alloc ?_ _) | (with_reducible refine cell_drew ?_) | (with_reducible refine cell_drewN ?_ _) | (with_reducible refine cell_below (by assumption) ?_)))
      have zf1 : w.heap.size < w1.heap.size := World.block_lt_of_cell? _ _ f1
      have zf5 : wr.heap.size < w1.heap.size := World.block_lt_of_cell? _ _ f5
      have zf20 : wr.heap.size + 1 < w1.heap.size := World.block_lt_of_cell? _ _ f20
      clear p0 zp p1 p2 p3
      have HD1 := hide (drawAt_below hb1 HA.out)
      clear HA HD0 d0a d0b d1a d1b d2a d2b d3a d3b d4a d4b
      have zD1 : D < w1.heap.size := World.block_lt_of_cell? _ _ HD1.out.1.1
      have HR1 : Hid (w1.heap[w.heap.size + 1 + 1 + 1]? = some (.cells #[.slice none 0 0, .int .i64 0] 24)) := hide (row_below hb1 (by have := HR.out; (repeat (first | (with_reducible assumption) | ((with_reducible refine new_at _ _ _ ?_); (· (simp; done))) | (with_reducible refine row_alloc ?_ _) | ((with_reducible refine row_set2 ?_ ?_ _); (· first | (simp; done) | (simp; omega) | omega)) | (with_reducible refine row_below (by assumption) ?_)))))
      have HG1 : Hid (rowAt w1 g trC) := hide (fun j u hj => cell_below hb1 (by have := HG.out j u hj; (repeat (first | (with_reducible assumption) | ((with_reducible refine cell_set ?_ ?_ _); (· first | (simp; done) | (simp; omega) | omega)) | ((with_reducible refine cell_new ?_ ?_); (· (simp; done)); (· rfl)) | (with_reducible refine cell_alloc ?_ _) | (with_reducible refine cell_drew ?_) | (with_reducible refine cell_drewN ?_ _) | (with_reducible refine cell_below (by assumption) ?_)))))
      have gap1 : w1.cell? ⟨g, 44, none⟩ = some (.bool false) := HG1.out 44 _ rfl
      have zg1 : g < w1.heap.size := World.block_lt_of_cell? _ _ gap1
      clear HR HG
      go_wp2_with fail
      have iw : IntKind.i64.wrap 2 = 2 := by decide
      go_still_tail 7, (by kernel_rfl)
      change wpList _ _ _ _ _ w1.drew
      go_wp2_with fail
      have hw1 : Below w.heap.size w w1.drew := by (repeat (with_reducible (first | assumption | exact Below.refl _ _ | refine Below.drew ?_ | refine below_drewN ?_ _ | refine below_set ?_ (by simp; try omega) _ | refine below_alloc ?_ (Nat.le_refl _) _ | refine below_sub (by assumption) ?_)))
      refine (trans_fly (D + 1) D E g _ (drawAt_below ((Below.refl _ w1).drew) HD1.out) (hide (rowAt_below hw1 hE.out)) (hide (rowAt_below ((Below.refl _ w1).drew) HG1.out))).mono ?_
      rintro e wA ⟨gg, cap, rfl, hgg, hdA, hdr⟩
      have HDA := hide hdA
      clear hdA
      have r33 : wA.cell? ⟨w.heap.size, 0, none⟩ = some (.string ⟨#[]⟩) := hdr.cell (w := w1.drew) (cell_drew f1) (by omega) (fun e => by cases e)
      have r34 : wA.cell? ⟨w.heap.size, 1, none⟩ = some (.string ⟨#[]⟩) := hdr.cell (w := w1.drew) (cell_drew f2) (by omega) (fun e => by cases e)
      have r35 : wA.cell? ⟨w.heap.size, 2, none⟩ = some (.slice (some ⟨E, 0, none⟩) 3 3) := hdr.cell (w := w1.drew) (cell_drew f3) (by omega) (fun e => by cases e)
      have r36 : wA.cell? ⟨w.heap.size, 3, none⟩ = some (.int .i64 (-1)) := hdr.cell (w := w1.drew) (cell_drew f4) (by omega) (fun e => by cases e)
      have HRA : Hid (wA.heap[w.heap.size + 1 + 1 + 1]? = some (.cells #[.slice none 0 0, .int .i64 0] 24)) := hide (row_drawn hdr (w := w1.drew) HR1.out (by omega) (fun e => by cases e))
      have HGA := hide (rowAt_drawn hdr (rowAt_below ((Below.refl _ w1).drew) HG1.out) (by omega) (fun e => by cases e))
      have hbA := hide (hdr.below hw1 (by omega) (fun j e => by cases e))
      clear hdr HD1 HR1 HG1
      go_wp2_with fail
      all_goals
        go_roundw
        case rel => exact ⟨2, .slice (some ⟨gg, 0, none⟩) 3 cap, by omega, rfl, rfl, r33, r34, r35, r36, HRA, HDA, HGA, fun h => absurd h (by decide), hbA.out⟩
        case measure => simp [intOf]
    · skip
      have HD0 : Hid (drawAt wr (D + 1) D (planL.take 3) 9541 0 false 9541 v) := HD
      clear HD
      obtain ⟨⟨d0a, d0b⟩, ⟨d1a, d1b⟩, ⟨d2a, d2b⟩, ⟨d3a, d3b⟩, ⟨d4a, d4b⟩, ho, hDb, hbw⟩ := HD0.out
      have HO := hide ho
      clear ho
      have nP : some (w.heap.size) ≠ v.ownBlock := fun e => by have := (HO.out.lt _ e.symm).1; omega
      have nG : some g ≠ v.ownBlock := fun e => by have := (HO.out.lt _ e.symm).1; omega
      have nR : some (w.heap.size + 1 + 1 + 1) ≠ v.ownBlock := fun e => by have := (HO.out.lt _ e.symm).1; omega
      have vB : ∀ j, v.ownBlock = some j → w.heap.size ≤ j := fun j e => by have := (HO.out.lt _ e).1; omega
      clear HV
      have neD : D ≠ wr.heap.size := by omega
      have neD1 : D ≠ wr.heap.size + 1 := by omega
      go_wp2_with (first
        | (with_reducible refine at_ld 77 ?_; refine wpl_load_list (ty := 77) rfl rfl (off := 30) (b := g) rfl [.int .u8 1, .int .i64 0, .int .i64 0, .int .i64 30000, .int .i64 0, .int .i64 0, .int .i64 0, .int .i64 0, .int .i64 0, .int .i64 0, .int .i64 32400000, .int .i64 32400000, .int .i64 30000, .int .i64 2, .bool false] Tryz.isAgg77 sizeT rfl (rowAt_part HG.out 30 15 _ rfl) ?_)
        | (with_reducible refine at_st 77 ?_; (refine wpl_store_new (ty := 77) rfl rfl rfl rfl ?_ sizeT rfl rfl (by simp [Value.oneCell']) ?_; (· first | rfl | (simp; done))))
        | (with_reducible refine at_ld 49 ?_; refine wpl_load_list (ty := 49) rfl rfl (off := 41) (b := E) rfl [.int .u8 2, .string ⟨#[67, 47, 48, 48]⟩, .string ⟨#[]⟩, .int .u8 0, .bool false, .int .i64 0, .int .i64 0, .int .i64 0, .int .i64 0, .int .i64 (-200000), .int .i64 6000000, .int .i64 0, .int .i64 0] Tryz.isAgg49 sizeL13 rfl (rowAt_part (rowAt_below ?_ hEr.out) 41 13 _ rfl) ?_; (· (repeat (with_reducible (first | assumption | exact Below.refl _ _ | refine Below.drew ?_ | refine below_drewN ?_ _ | refine below_set ?_ (by simp; try omega) _ | refine below_alloc ?_ (Nat.le_refl _) _ | refine below_sub (by assumption) ?_)))))
        | (with_reducible refine at_st 49 ?_; (refine wpl_store_new (ty := 49) rfl rfl rfl rfl ?_ sizeL13 rfl rfl (by simp [Value.oneCell']) ?_; (· first | rfl | (simp; done)))))
      have HA := hide (drawAt_below (w := wr) (show Below wr.heap.size wr ((wr.alloc (.cells #[.int .u8 1, .int .i64 0, .int .i64 0, .int .i64 30000, .int .i64 0, .int .i64 0, .int .i64 0, .int .i64 0, .int .i64 0, .int .i64 0, .int .i64 32400000, .int .i64 32400000, .int .i64 30000, .int .i64 2, .bool false] 77)).alloc (.cells #[.int .u8 2, .string ⟨#[67, 47, 48, 48]⟩, .string ⟨#[]⟩, .int .u8 0, .bool false, .int .i64 0, .int .i64 0, .int .i64 0, .int .i64 0, .int .i64 (-200000), .int .i64 6000000, .int .i64 0, .int .i64 0] 49)) by (repeat (with_reducible (first | assumption | exact Below.refl _ _ | refine Below.drew ?_ | refine below_drewN ?_ _ | refine below_set ?_ (by simp; try omega) _ | refine below_alloc ?_ (Nat.le_refl _) _ | refine below_sub (by assumption) ?_)))) HD0.out)
      have hwA : Below w.heap.size w ((wr.alloc (.cells #[.int .u8 1, .int .i64 0, .int .i64 0, .int .i64 30000, .int .i64 0, .int .i64 0, .int .i64 0, .int .i64 0, .int .i64 0, .int .i64 0, .int .i64 32400000, .int .i64 32400000, .int .i64 30000, .int .i64 2, .bool false] 77)).alloc (.cells #[.int .u8 2, .string ⟨#[67, 47, 48, 48]⟩, .string ⟨#[]⟩, .int .u8 0, .bool false, .int .i64 0, .int .i64 0, .int .i64 0, .int .i64 0, .int .i64 (-200000), .int .i64 6000000, .int .i64 0, .int .i64 0] 49)) := by (repeat (with_reducible (first | assumption | exact Below.refl _ _ | refine Below.drew ?_ | refine below_drewN ?_ _ | refine below_set ?_ (by simp; try omega) _ | refine below_alloc ?_ (Nat.le_refl _) _ | refine below_sub (by assumption) ?_)))
      refine (line_x (D + 1) D (planL.take 3) 9541 0 false 9541 v 30000 0 2 20459 _ (by decide) aw27_d4 (by decide) HA.out).mono ?_
      rintro e wX ⟨gX, cX, rfl, hgX, hdX, hdrX⟩
      have HDX := hide hdX
      clear hdX
      have r1 : wX.cell? ⟨w.heap.size, 0, none⟩ = some (.string ⟨#[]⟩) := hdrX.cell (cell_alloc (cell_alloc p0 _) _) (by omega) nP
      have r2 : wX.cell? ⟨w.heap.size, 1, none⟩ = some (.string ⟨#[]⟩) := hdrX.cell (cell_alloc (cell_alloc p1 _) _) (by omega) nP
      have r3 : wX.cell? ⟨w.heap.size, 2, none⟩ = some (.slice (some ⟨E, 0, none⟩) 3 3) := hdrX.cell (cell_alloc (cell_alloc p2 _) _) (by omega) nP
      have r4 : wX.cell? ⟨w.heap.size, 3, none⟩ = some (.int .i64 (-1)) := hdrX.cell (cell_alloc (cell_alloc p3 _) _) (by omega) nP
      have HRX : Hid (wX.heap[w.heap.size + 1 + 1 + 1]? = some (.cells #[.slice none 0 0, .int .i64 0] 24)) := hide (row_drawn hdrX (row_alloc (row_alloc HR.out _) _) (by omega) nR)
      have HGX := hide (rowAt_drawn hdrX (fun j u hj => cell_alloc (cell_alloc (HG.out j u hj) _) _) (by omega) nG)
      have hbX := hide (hdrX.below hwA (by omega) vB)
      clear hdrX HA
      go_wp2_with fail
      all_goals
        go_roundw
        case rel => exact ⟨3, .slice (some ⟨gX, 0, none⟩) (3 + 1) cX, by omega, rfl, rfl, r1, r2, r3, r4, HRX, HDX, HGX, fun h => absurd h (by decide), hbX.out⟩
        case measure => simp [intOf]
    · skip
      have HD0 : Hid (drawAt wr (D + 1) D planL 30000 0 false 9541 v) := HD
      clear HD
      obtain ⟨⟨d0a, d0b⟩, ⟨d1a, d1b⟩, ⟨d2a, d2b⟩, ⟨d3a, d3b⟩, ⟨d4a, d4b⟩, ho, hDb, hbw⟩ := HD0.out
      have HO := hide ho
      clear ho
      have nP : some (w.heap.size) ≠ v.ownBlock := fun e => by have := (HO.out.lt _ e.symm).1; omega
      have nG : some g ≠ v.ownBlock := fun e => by have := (HO.out.lt _ e.symm).1; omega
      have nR : some (w.heap.size + 1 + 1 + 1) ≠ v.ownBlock := fun e => by have := (HO.out.lt _ e.symm).1; omega
      have vB : ∀ j, v.ownBlock = some j → w.heap.size ≤ j := fun j e => by have := (HO.out.lt _ e).1; omega
      clear HV
      obtain ⟨gv, cv, rfl, hgD⟩ : ∃ gv cv, v = .slice (some ⟨gv, 0, none⟩) 4 cv ∧ D + 1 ≤ gv := by
        rcases HO.out.2 with ⟨_, h⟩ | ⟨gv, cv, cur, hv, hg, _⟩
        · exact absurd h (by decide)
        · exact ⟨gv, cv, hv, hg⟩
      have HV := hide (show rowAt wr gv planC from fun j u hj => (World.ownsRow.cellAt HO.out j (by have := (List.getElem?_eq_some_iff.1 hj).1; have h52 : planC.length = 52 := rfl; have h53 : (planL.flatMap elVals).length = 52 := rfl; omega)).trans hj)
      have zgv : gv < wr.heap.size := World.block_lt_of_cell? _ _ (HV.out 0 _ rfl)
      clear HO nP nG nR vB HD0 hDb hbw
      have neD : D ≠ wr.heap.size := by omega
      simp only [show (decide ((3 : Nat) = 2)) = false from rfl, show ((3 : Nat) : Int) = 3 from rfl]
      go_wp2_with fail
      obtain ⟨wq, hwq⟩ : ∃ wq, wq = wr := ⟨_, rfl⟩
      subst hwq
      go_loopw [184] (fun i W => ∃ k : Nat, k ≤ 4 ∧ i = .int .i64 (k : Int) ∧ W.cell? ⟨wq.heap.size, 0, none⟩ = some (.slice (some ⟨gv, 0, none⟩) 4 cv) ∧ (W.cell? ⟨wq.heap.size, 1, none⟩ = some (.int .i64 (if k = 0 then 0 else if k = 1 then 20459 else if k = 2 then 27952 else if k = 3 then 35445 else 55904)) ∧ W.frozen? ⟨wq.heap.size, 1, none⟩ = false) ∧ Hid (W.heap[w.heap.size + 1 + 1 + 1]? = some (.cells #[.slice none 0 0, .int .i64 0] 24)) ∧ Hid (rowAt W gv planC) ∧ Below w.heap.size w W) (fun i _ => 4 - (intOf i).toNat)
      case atStart => exact ⟨0, by omega, rfl, by (repeat (first | (with_reducible assumption) | ((with_reducible refine cell_set ?_ ?_ _); (· first | (simp; done) | (simp; omega) | omega)) | ((with_reducible refine cell_new ?_ ?_); (· (simp; done)); (· rfl)) | (with_reducible refine cell_alloc ?_ _) | (with_reducible refine cell_drew ?_) | (with_reducible refine cell_drewN ?_ _) | (with_reducible refine cell_below (by assumption) ?_))), own_new rfl rfl, hide (row_alloc HR.out _), hide (fun j u hj => cell_alloc (HV.out j u hj) _), by (repeat (with_reducible (first | assumption | exact Below.refl _ _ | refine Below.drew ?_ | refine below_drewN ?_ _ | refine below_set ?_ (by simp; try omega) _ | refine below_alloc ?_ (Nat.le_refl _) _ | refine below_sub (by assumption) ?_)))⟩
      case round =>
        obtain ⟨k, hk, rfl, q0, q1, HR2, HV2, K2⟩ := hrel
        have hzw : wq.heap.size < wr.heap.size := World.block_lt_of_cell? _ _ q0
        have zgv2 : gv < wr.heap.size := World.block_lt_of_cell? _ _ (HV2.out 0 _ rfl)
        obtain rfl | rfl | rfl | rfl | rfl : k = 0 ∨ k = 1 ∨ k = 2 ∨ k = 3 ∨ k = 4 := by omega
        · obtain ⟨q1a, q1b⟩ : wr.cell? ⟨wq.heap.size, 1, none⟩ = some (.int .i64 0) ∧ wr.frozen? ⟨wq.heap.size, 1, none⟩ = false := q1
          have ne1 : wq.heap.size ≠ wr.heap.size := by omega
          go_wp2_with (first
            | (with_reducible refine at_ld 40 ?_; refine wpl_load_list (ty := 40) rfl rfl (off := 0) (b := gv) rfl [.bool false, .int .i64 0, .int .i64 (-30000), .int .i64 0, .int .i64 (-9541), .int .i64 0, .int .i64 0, .int .i64 0, .int .i64 0, .int .i64 0, .int .i64 20459, .int .i64 1, .bool false] Tryz.isAgg40 sizeEl rfl (rowAt_part HV2.out 0 13 _ rfl) ?_)
            | (with_reducible refine at_st 40 ?_; (refine wpl_store_new (ty := 40) rfl rfl rfl rfl ?_ sizeEl rfl rfl (by simp [Value.oneCell']) ?_; (· first | rfl | (simp; done)))))
          go_roundw
          case rel => exact ⟨1, by omega, rfl, cell_alloc ((World.cell?_setCell_other _ _ _ _ (by simp)).trans q0) _, own_alloc (own_same ⟨q1a, q1b⟩ _) _, hide (by have := HR2.out; (repeat (first | (with_reducible assumption) | ((with_reducible refine new_at _ _ _ ?_); (· (simp; done))) | (with_reducible refine row_alloc ?_ _) | ((with_reducible refine row_set2 ?_ ?_ _); (· first | (simp; done) | (simp; omega) | omega)) | (with_reducible refine row_below (by assumption) ?_)))), hide (fun j u hj => by have := HV2.out j u hj; (repeat (first | (with_reducible assumption) | ((with_reducible refine cell_set ?_ ?_ _); (· first | (simp; done) | (simp; omega) | omega)) | ((with_reducible refine cell_new ?_ ?_); (· (simp; done)); (· rfl)) | (with_reducible refine cell_alloc ?_ _) | (with_reducible refine cell_drew ?_) | (with_reducible refine cell_drewN ?_ _) | (with_reducible refine cell_below (by assumption) ?_)))), by (repeat (with_reducible (first | assumption | exact Below.refl _ _ | refine Below.drew ?_ | refine below_drewN ?_ _ | refine below_set ?_ (by simp; try omega) _ | refine below_alloc ?_ (Nat.le_refl _) _ | refine below_sub (by assumption) ?_)))⟩
          case measure => simp [intOf]
        · obtain ⟨q1a, q1b⟩ : wr.cell? ⟨wq.heap.size, 1, none⟩ = some (.int .i64 20459) ∧ wr.frozen? ⟨wq.heap.size, 1, none⟩ = false := q1
          have ne1 : wq.heap.size ≠ wr.heap.size := by omega
          go_wp2_with (first
            | (with_reducible refine at_ld 40 ?_; refine wpl_load_list (ty := 40) rfl rfl (off := 13) (b := gv) rfl [.bool true, .int .i64 0, .int .i64 (-9541), .int .i64 2794, .int .i64 (-2794), .int .i64 9541, .int .i64 (-9541), .int .i64 9541, .int .i64 97200000, .int .i64 16200000, .int .i64 7493, .int .i64 1, .bool false] Tryz.isAgg40 sizeEl rfl (rowAt_part HV2.out 13 13 _ rfl) ?_)
            | (with_reducible refine at_st 40 ?_; (refine wpl_store_new (ty := 40) rfl rfl rfl rfl ?_ sizeEl rfl rfl (by simp [Value.oneCell']) ?_; (· first | rfl | (simp; done)))))
          go_roundw
          case rel => exact ⟨2, by omega, rfl, cell_alloc ((World.cell?_setCell_other _ _ _ _ (by simp)).trans q0) _, own_alloc (own_same ⟨q1a, q1b⟩ _) _, hide (by have := HR2.out; (repeat (first | (with_reducible assumption) | ((with_reducible refine new_at _ _ _ ?_); (· (simp; done))) | (with_reducible refine row_alloc ?_ _) | ((with_reducible refine row_set2 ?_ ?_ _); (· first | (simp; done) | (simp; omega) | omega)) | (with_reducible refine row_below (by assumption) ?_)))), hide (fun j u hj => by have := HV2.out j u hj; (repeat (first | (with_reducible assumption) | ((with_reducible refine cell_set ?_ ?_ _); (· first | (simp; done) | (simp; omega) | omega)) | ((with_reducible refine cell_new ?_ ?_); (· (simp; done)); (· rfl)) | (with_reducible refine cell_alloc ?_ _) | (with_reducible refine cell_drew ?_) | (with_reducible refine cell_drewN ?_ _) | (with_reducible refine cell_below (by assumption) ?_)))), by (repeat (with_reducible (first | assumption | exact Below.refl _ _ | refine Below.drew ?_ | refine below_drewN ?_ _ | refine below_set ?_ (by simp; try omega) _ | refine below_alloc ?_ (Nat.le_refl _) _ | refine below_sub (by assumption) ?_)))⟩
          case measure => simp [intOf]
        · obtain ⟨q1a, q1b⟩ : wr.cell? ⟨wq.heap.size, 1, none⟩ = some (.int .i64 27952) ∧ wr.frozen? ⟨wq.heap.size, 1, none⟩ = false := q1
          have ne1 : wq.heap.size ≠ wr.heap.size := by omega
          go_wp2_with (first
            | (with_reducible refine at_ld 40 ?_; refine wpl_load_list (ty := 40) rfl rfl (off := 26) (b := gv) rfl [.bool true, .int .i64 2794, .int .i64 (-2794), .int .i64 9541, .int .i64 0, .int .i64 9541, .int .i64 (-9541), .int .i64 9541, .int .i64 113400000, .int .i64 16200000, .int .i64 7493, .int .i64 2, .bool false] Tryz.isAgg40 sizeEl rfl (rowAt_part HV2.out 26 13 _ rfl) ?_)
            | (with_reducible refine at_st 40 ?_; (refine wpl_store_new (ty := 40) rfl rfl rfl rfl ?_ sizeEl rfl rfl (by simp [Value.oneCell']) ?_; (· first | rfl | (simp; done)))))
          go_roundw
          case rel => exact ⟨3, by omega, rfl, cell_alloc ((World.cell?_setCell_other _ _ _ _ (by simp)).trans q0) _, own_alloc (own_same ⟨q1a, q1b⟩ _) _, hide (by have := HR2.out; (repeat (first | (with_reducible assumption) | ((with_reducible refine new_at _ _ _ ?_); (· (simp; done))) | (with_reducible refine row_alloc ?_ _) | ((with_reducible refine row_set2 ?_ ?_ _); (· first | (simp; done) | (simp; omega) | omega)) | (with_reducible refine row_below (by assumption) ?_)))), hide (fun j u hj => by have := HV2.out j u hj; (repeat (first | (with_reducible assumption) | ((with_reducible refine cell_set ?_ ?_ _); (· first | (simp; done) | (simp; omega) | omega)) | ((with_reducible refine cell_new ?_ ?_); (· (simp; done)); (· rfl)) | (with_reducible refine cell_alloc ?_ _) | (with_reducible refine cell_drew ?_) | (with_reducible refine cell_drewN ?_ _) | (with_reducible refine cell_below (by assumption) ?_)))), by (repeat (with_reducible (first | assumption | exact Below.refl _ _ | refine Below.drew ?_ | refine below_drewN ?_ _ | refine below_set ?_ (by simp; try omega) _ | refine below_alloc ?_ (Nat.le_refl _) _ | refine below_sub (by assumption) ?_)))⟩
          case measure => simp [intOf]
        · obtain ⟨q1a, q1b⟩ : wr.cell? ⟨wq.heap.size, 1, none⟩ = some (.int .i64 35445) ∧ wr.frozen? ⟨wq.heap.size, 1, none⟩ = false := q1
          have ne1 : wq.heap.size ≠ wr.heap.size := by omega
          go_wp2_with (first
            | (with_reducible refine at_ld 40 ?_; refine wpl_load_list (ty := 40) rfl rfl (off := 39) (b := gv) rfl [.bool false, .int .i64 9541, .int .i64 0, .int .i64 30000, .int .i64 0, .int .i64 0, .int .i64 0, .int .i64 0, .int .i64 0, .int .i64 0, .int .i64 20459, .int .i64 2, .bool false] Tryz.isAgg40 sizeEl rfl (rowAt_part HV2.out 39 13 _ rfl) ?_)
            | (with_reducible refine at_st 40 ?_; (refine wpl_store_new (ty := 40) rfl rfl rfl rfl ?_ sizeEl rfl rfl (by simp [Value.oneCell']) ?_; (· first | rfl | (simp; done)))))
          go_roundw
          case rel => exact ⟨4, by omega, rfl, cell_alloc ((World.cell?_setCell_other _ _ _ _ (by simp)).trans q0) _, own_alloc (own_same ⟨q1a, q1b⟩ _) _, hide (by have := HR2.out; (repeat (first | (with_reducible assumption) | ((with_reducible refine new_at _ _ _ ?_); (· (simp; done))) | (with_reducible refine row_alloc ?_ _) | ((with_reducible refine row_set2 ?_ ?_ _); (· first | (simp; done) | (simp; omega) | omega)) | (with_reducible refine row_below (by assumption) ?_)))), hide (fun j u hj => by have := HV2.out j u hj; (repeat (first | (with_reducible assumption) | ((with_reducible refine cell_set ?_ ?_ _); (· first | (simp; done) | (simp; omega) | omega)) | ((with_reducible refine cell_new ?_ ?_); (· (simp; done)); (· rfl)) | (with_reducible refine cell_alloc ?_ _) | (with_reducible refine cell_drew ?_) | (with_reducible refine cell_drewN ?_ _) | (with_reducible refine cell_below (by assumption) ?_)))), by (repeat (with_reducible (first | assumption | exact Below.refl _ _ | refine Below.drew ?_ | refine below_drewN ?_ _ | refine below_set ?_ (by simp; try omega) _ | refine below_alloc ?_ (Nat.le_refl _) _ | refine below_sub (by assumption) ?_)))⟩
          case measure => simp [intOf]
        · obtain ⟨q1a, q1b⟩ : wr.cell? ⟨wq.heap.size, 1, none⟩ = some (.int .i64 55904) ∧ wr.frozen? ⟨wq.heap.size, 1, none⟩ = false := q1
          have hneP : wq.heap.size ≠ w.heap.size + 1 + 1 + 1 := by omega
          go_wp2_with (first
            | (with_reducible refine at_st 24 ?_; refine wpl_store_row (ty := 24) rfl rfl rfl rfl (HR2.out) sizePa rfl rfl (by simp [Value.oneCell']) ?_))
          all_goals
            refine bodyPost_ret (v := .tuple #[.agg #[.slice (some ⟨gv, 0, none⟩) 4 cv, .int .i64 55904], .int .i64 0, .int .i64 0]) ?_ rfl ⟨gv, cv, rfl, hide (path_of_row (fun j u hj => cell_setr (by simp; try omega) (HV2.out j u hj))), by (repeat (with_reducible (first | assumption | exact Below.refl _ _ | refine Below.drew ?_ | refine below_drewN ?_ _ | ((refine below_setRow ?_ ?_ _); rotate_left; (· omega)) | refine below_set ?_ (by simp; try omega) _ | refine below_alloc ?_ (Nat.le_refl _) _ | refine below_sub (by assumption) ?_)))⟩
            refine results_row3 (t := 8) (u := 9) (x := 10) ?_ _ _ _ #[.slice (some ⟨gv, 0, none⟩) 4 cv, .int .i64 55904] _ _ HR2.out ?_ _ ?_ _ ?_ _ Tryz.underlying24 sizePa <;> rfl
end Go.Proofs.YtapgmnjpfcohhaaGreatDoor
