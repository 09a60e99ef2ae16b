/-
  The drawer's flyBy on the example.
-/
import Derived.Test.YtapgmnjpfcohhaaGreatDoorMLawsT
import Derived.Test.YtapgmnjpfcohhaaGreatDoorMDraw
import Derived.Test.YtapgmnjpfcohhaaGreatDoorMDrawA
import Derived.Test.YtapgmnjpfcohhaaGreatDoorMDrawY
import Derived.Test.YtapgmnjpfcohhaaGreatDoorMFixed
import Derived.Test.YtapgmnjpfcohhaaGreatDoorMFrame
import Derived.Test.YtapgmnjpfcohhaaGreatDoorMGeo
import Derived.Test.YtapgmnjpfcohhaaGreatDoorMLineA
import Derived.Test.YtapgmnjpfcohhaaGreatDoorMPathM
import Derived.Test.YtapgmnjpfcohhaaGreatDoorMPlain
import Derived.Test.YtapgmnjpfcohhaaGreatDoorMScale
import Derived.Test.YtapgmnjpfcohhaaGreatDoorMTrig
import Derived.Test.YtapgmnjpfcohhaaGreatDoorMTurnA
import Derived.Test.YtapgmnjpfcohhaaGreatDoorMTurnB
import Derived.Test.YtapgmnjpfcohhaaGreatDoorMTurnG
import Derived.Deep.DeepCutAuto
import Derived.Below
import Derived.Deep.RegionHeld3
import Derived.Test.YtapgmnjpfcohhaaGreatDoorProg
import Derived.WalkSpells
import Derived.WalkLawsBesides
import Derived.Deep.QuietTactic
import Derived.BigQuiet
import Derived.Lib.ItoaNum
import Derived.Shelf.Small.Bits
import Derived.Shelf.Strconv.Itoa0
import Derived.Shelf.Bits.Mul64
import Derived.Shelf.Spec.BitsCarry
import Derived.WalkKit
import Derived.ProofKit
import Derived.OpenShut
import Derived.ChangeSame
import Derived.Test.YtapgmnjpfcohhaaGreatDoorRows
import Derived.Laws.BitsAllLaws
import Derived.Deep.RegionWith
import Derived.Deep.AppendLies
import Derived.Deep.RegionLaw
import Derived.BigRegion
import Derived.StillTailTactics
namespace Go.Proofs.YtapgmnjpfcohhaaGreatDoor
open Go.RowKit
set_option linter.unusedVariables false
set_option linter.unusedSimpArgs false
theorem quiet_m {P : Program} {f : FuncId} {args : Array Value} {w : World} {n : Nat} {v : Value}
    (h : Calls P f args (w.drewN n) fun e w' => e = .returned v ∧ ∃ m, w' = (w.drewN n).drewN m) : Calls P f args (w.drewN n) fun e w'' => e = .returned v ∧ ∃ m, w'' = w.drewN m :=
  h.mono fun _ _ hh => ⟨hh.1, hh.2.elim fun m hm => ⟨n + m, by rw [hm, World.drewN_drewN]⟩⟩
set_option maxRecDepth 100000 in
set_option maxHeartbeats 16000000 in
theorem flyby_ex (base D : Nat) (w : World) (hd : drawAt w base D [] 0 (-30000) false 9541 (.slice none 0 0)) :
    Calls Tryz.prog 88 #[.pointer (some ⟨D, 0, none⟩), .agg #[.int .u8 1, .int .i64 0, .int .i64 (-30000), .int .i64 0, .int .i64 0, .int .i64 0, .int .i64 0, .int .i64 0, .int .i64 0, .int .i64 0, .int .i64 0, .int .i64 0, .int .i64 30000, .int .i64 1, .bool false], .agg #[.int .u8 1, .int .i64 0, .int .i64 0, .int .i64 30000, .int .i64 0, .int .i64 0, .int .i64 0, .int .i64 0, .int .i64 0, .int .i64 0, .int .i64 32400000, .int .i64 32400000, .int .i64 30000, .int .i64 2, .bool false]] w fun e w' => ∃ g cap, e = .returned (.bool true) ∧ w.heap.size ≤ g ∧ drawAt w' base D (planL.take 3) 9541 0 false 9541 (.slice (some ⟨g, 0, none⟩) 3 cap) ∧ Drawn w w' D none := by
  have HD := hide hd
  have zD0 : D < w.heap.size := World.block_lt_of_cell? _ _ hd.1.1
  clear hd
  have CA := fun W => course_any 0 (-30000) 0 0 W
  have CB := fun W => course_any 0 0 30000 0 W
  rw [aw27_c1] at CA
  rw [aw27_c2] at CB
  have DF := fun W => diff_any 0 32400000 (by unfold I64; omega) (by unfold I64; omega) W
  rw [show diffF 0 32400000 = 32400000 from by decide +kernel] at DF
  have AB := fun W => abs_any 32400000 (by unfold I64; omega) (by decide) W
  rw [show (((32400000 : Int).natAbs : Nat) : Int) = 32400000 from rfl] at AB
  have SN := fun W => Sin_any 16200000 (by unfold I64; omega) W
  have CN := fun W => Cos_any 16200000 (by unfold I64; omega) W
  have MU := fun W => muldivup_any 9541 (Sin 16200000) (Cos 16200000) (by unfold I64; omega) (by unfold I64; exact ⟨by decide +kernel, by decide +kernel⟩) (by unfold I64; exact ⟨by decide +kernel, by decide +kernel⟩) W
  rw [aw27_lead] at MU
  generalize Sin 16200000 = SI at *
  generalize Cos 16200000 = CO at *
  have FB := fun W => fly_good 0 (-30000) 0 0 30000 0 9541 (by unfold I64; omega) W 9541 (-9541) 9541 97200000 32400000 0 (-9541) 9541 0 9541 0 (by decide +kernel) (by decide +kernel) (by decide +kernel) (by decide) (by decide) (by decide) (hide rfl) aw27_fly.symm
  have NM := fun W => norm_any 113400000 (by unfold I64; omega) W
  rw [show norm 113400000 = 113400000 from by decide +kernel] at NM
  have TL := fun W => tlen_any 9541 (-9541) 9541 97200000 16200000 W
  rw [aw27_len1] at TL
  have TA := fun W => arcat_any 9541 (-9541) 9541 97200000 16200000 7493 W (2794, -2794, 16200000, 0) aw27_mid.symm
  go_enter Tryz.func88, Tryz.ntmps88
  go_wp2_with fail
  refine (CA _).mono ?_
  rintro e w1 ⟨rfl, hb1⟩
  obtain ⟨f1, f2, f3, f4, f5, f6, f7, f8, f9, f10, f11, f12, f13, f14, f15, f16, f17, f18, f19, f20, f21, f22, f23, f24, f25, f26, f27, f28, f29, f30⟩ : w1.cell? ⟨w.heap.size, 0, none⟩ = some (.int .u8 1) ∧ w1.cell? ⟨w.heap.size, 1, none⟩ = some (.int .i64 0) ∧ w1.cell? ⟨w.heap.size, 2, none⟩ = some (.int .i64 (-30000)) ∧ w1.cell? ⟨w.heap.size, 3, none⟩ = some (.int .i64 0) ∧ w1.cell? ⟨w.heap.size, 4, none⟩ = some (.int .i64 0) ∧ w1.cell? ⟨w.heap.size, 5, none⟩ = some (.int .i64 0) ∧ w1.cell? ⟨w.heap.size, 6, none⟩ = some (.int .i64 0) ∧ w1.cell? ⟨w.heap.size, 7, none⟩ = some (.int .i64 0) ∧ w1.cell? ⟨w.heap.size, 8, none⟩ = some (.int .i64 0) ∧ w1.cell? ⟨w.heap.size, 9, none⟩ = some (.int .i64 0) ∧ w1.cell? ⟨w.heap.size, 10, none⟩ = some (.int .i64 0) ∧ w1.cell? ⟨w.heap.size, 11, none⟩ = some (.int .i64 0) ∧ w1.cell? ⟨w.heap.size, 12, none⟩ = some (.int .i64 30000) ∧ w1.cell? ⟨w.heap.size, 13, none⟩ = some (.int .i64 1) ∧ w1.cell? ⟨w.heap.size, 14, none⟩ = some (.bool false) ∧ w1.cell? ⟨w.heap.size + 1, 0, none⟩ = some (.int .u8 1) ∧ w1.cell? ⟨w.heap.size + 1, 1, none⟩ = some (.int .i64 0) ∧ w1.cell? ⟨w.heap.size + 1, 2, none⟩ = some (.int .i64 0) ∧ w1.cell? ⟨w.heap.size + 1, 3, none⟩ = some (.int .i64 30000) ∧ w1.cell? ⟨w.heap.size + 1, 4, none⟩ = some (.int .i64 0) ∧ w1.cell? ⟨w.heap.size + 1, 5, none⟩ = some (.int .i64 0) ∧ w1.cell? ⟨w.heap.size + 1, 6, none⟩ = some (.int .i64 0) ∧ w1.cell? ⟨w.heap.size + 1, 7, none⟩ = some (.int .i64 0) ∧ w1.cell? ⟨w.heap.size + 1, 8, none⟩ = some (.int .i64 0) ∧ w1.cell? ⟨w.heap.size + 1, 9, none⟩ = some (.int .i64 0) ∧ w1.cell? ⟨w.heap.size + 1, 10, none⟩ = some (.int .i64 32400000) ∧ w1.cell? ⟨w.heap.size + 1, 11, none⟩ = some (.int .i64 32400000) ∧ w1.cell? ⟨w.heap.size + 1, 12, none⟩ = some (.int .i64 30000) ∧ w1.cell? ⟨w.heap.size + 1, 13, none⟩ = some (.int .i64 2) ∧ w1.cell? ⟨w.heap.size + 1, 14, none⟩ = some (.bool false) := by
    refine ⟨?_, ?_, ?_, ?_, ?_, ?_, ?_, ?_, ?_, ?_, ?_, ?_, ?_, ?_, ?_, ?_, ?_, ?_, ?_, ?_, ?_, ?_, ?_, ?_, ?_, ?_, ?_, ?_, ?_, ?_⟩ <;> (refine cell_below hb1 ?_; repeat (first | (with_reducible assumption) | ((with_reducible refine cell_set ?_ ?_ _); (· first | (simp; done) | (simp; omega) | omega)) | ((with_reducible refine cell_new ?_ ?_); (· (simp; done)); (· rfl)) | (with_reducible refine cell_alloc ?_ _) | (with_reducible refine cell_drew ?_) | (with_reducible refine cell_drewN ?_ _) | (with_reducible refine cell_below (by assumption) ?_)))
  have zf1 : w.heap.size < w1.heap.size := World.block_lt_of_cell? _ _ f1
  have zf16 : w.heap.size + 1 < w1.heap.size := World.block_lt_of_cell? _ _ f16
  have HD1 := hide (drawAt_below (w := w) (show Below w.heap.size w w1 by (repeat (with_reducible (first | assumption | exact Below.refl _ _ | refine Below.drew ?_ | refine below_drewN ?_ _ | refine below_set ?_ (by simp; try omega) _ | refine below_alloc ?_ (Nat.le_refl _) _ | refine below_sub (by assumption) ?_)))) HD.out)
  go_wp2_with fail
  refine (CB _).mono ?_
  rintro e w2 ⟨rfl, hb2⟩
  obtain ⟨f31, f32, f33, f34, f35, f36, f37, f38, f39, f40, f41, f42, f43, f44, f45, f46, f47, f48, f49, f50, f51, f52, f53, f54, f55, f56, f57, f58, f59, f60⟩ : w2.cell? ⟨w.heap.size, 0, none⟩ = some (.int .u8 1) ∧ w2.cell? ⟨w.heap.size, 1, none⟩ = some (.int .i64 0) ∧ w2.cell? ⟨w.heap.size, 2, none⟩ = some (.int .i64 (-30000)) ∧ w2.cell? ⟨w.heap.size, 3, none⟩ = some (.int .i64 0) ∧ w2.cell? ⟨w.heap.size, 4, none⟩ = some (.int .i64 0) ∧ w2.cell? ⟨w.heap.size, 5, none⟩ = some (.int .i64 0) ∧ w2.cell? ⟨w.heap.size, 6, none⟩ = some (.int .i64 0) ∧ w2.cell? ⟨w.heap.size, 7, none⟩ = some (.int .i64 0) ∧ w2.cell? ⟨w.heap.size, 8, none⟩ = some (.int .i64 0) ∧ w2.cell? ⟨w.heap.size, 9, none⟩ = some (.int .i64 0) ∧ w2.cell? ⟨w.heap.size, 10, none⟩ = some (.int .i64 0) ∧ w2.cell? ⟨w.heap.size, 11, none⟩ = some (.int .i64 0) ∧ w2.cell? ⟨w.heap.size, 12, none⟩ = some (.int .i64 30000) ∧ w2.cell? ⟨w.heap.size, 13, none⟩ = some (.int .i64 1) ∧ w2.cell? ⟨w.heap.size, 14, none⟩ = some (.bool false) ∧ w2.cell? ⟨w.heap.size + 1, 0, none⟩ = some (.int .u8 1) ∧ w2.cell? ⟨w.heap.size + 1, 1, none⟩ = some (.int .i64 0) ∧ w2.cell? ⟨w.heap.size + 1, 2, none⟩ = some (.int .i64 0) ∧ w2.cell? ⟨w.heap.size + 1, 3, none⟩ = some (.int .i64 30000) ∧ w2.cell? ⟨w.heap.size + 1, 4, none⟩ = some (.int .i64 0) ∧ w2.cell? ⟨w.heap.size + 1, 5, none⟩ = some (.int .i64 0) ∧ w2.cell? ⟨w.heap.size + 1, 6, none⟩ = some (.int .i64 0) ∧ w2.cell? ⟨w.heap.size + 1, 7, none⟩ = some (.int .i64 0) ∧ w2.cell? ⟨w.heap.size + 1, 8, none⟩ = some (.int .i64 0) ∧ w2.cell? ⟨w.heap.size + 1, 9, none⟩ = some (.int .i64 0) ∧ w2.cell? ⟨w.heap.size + 1, 10, none⟩ = some (.int .i64 32400000) ∧ w2.cell? ⟨w.heap.size + 1, 11, none⟩ = some (.int .i64 32400000) ∧ w2.cell? ⟨w.heap.size + 1, 12, none⟩ = some (.int .i64 30000) ∧ w2.cell? ⟨w.heap.size + 1, 13, none⟩ = some (.int .i64 2) ∧ w2.cell? ⟨w.heap.size + 1, 14, none⟩ = some (.bool false) := by
    refine ⟨?_, ?_, ?_, ?_, ?_, ?_, ?_, ?_, ?_, ?_, ?_, ?_, ?_, ?_, ?_, ?_, ?_, ?_, ?_, ?_, ?_, ?_, ?_, ?_, ?_, ?_, ?_, ?_, ?_, ?_⟩ <;> (refine cell_below hb2 ?_; repeat (first | (with_reducible assumption) | ((with_reducible refine cell_set ?_ ?_ _); (· first | (simp; done) | (simp; omega) | omega)) | ((with_reducible refine cell_new ?_ ?_); (· (simp; done)); (· rfl)) | (with_reducible refine cell_alloc ?_ _) | (with_reducible refine cell_drew ?_) | (with_reducible refine cell_drewN ?_ _) | (with_reducible refine cell_below (by assumption) ?_)))
  have zf31 : w.heap.size < w2.heap.size := World.block_lt_of_cell? _ _ f31
  have zf46 : w.heap.size + 1 < w2.heap.size := World.block_lt_of_cell? _ _ f46
  clear f1 zf1 f2 f3 f4 f5 f6 f7 f8 f9 f10 f11 f12 f13 f14 f15 f16 zf16 f17 f18 f19 f20 f21 f22 f23 f24 f25 f26 f27 f28 f29 f30
  have HD2 := hide (drawAt_below (w := w1) (show Below w1.heap.size w1 w2 by (repeat (with_reducible (first | assumption | exact Below.refl _ _ | refine Below.drew ?_ | refine below_drewN ?_ _ | refine below_set ?_ (by simp; try omega) _ | refine below_alloc ?_ (Nat.le_refl _) _ | refine below_sub (by assumption) ?_)))) HD1.out)
  have d4a := HD2.out.2.2.2.2.1.1
  have zD : D < w2.heap.size := World.block_lt_of_cell? _ _ d4a
  go_wp2_with (first
    | (go_at_call 132; (with_reducible refine (DF _).mono ?_); rintro e w' ⟨rfl, rfl⟩)
    | (go_at_call 50; (with_reducible refine (AB _).mono ?_); rintro e w' ⟨rfl, rfl⟩))
  go_quiet ((first
    | (go_at_call 64; exact quiet_l (SN _))
    | (go_at_call 65; exact quiet_l (CN _))
    | (go_at_call 81; exact quiet_m (MU _))))
  try simp only [show (min 15000 15000 : Int) = 15000 from by decide]
  go_wp2_with fail
  refine (FB _).mono ?_
  rintro e w3 ⟨rfl, hb3⟩
  obtain ⟨f61, f62, f63, f64, f65, f66, f67, f68, f69, f70, f71, f72, f73, f74, f75, f76, f77, f78, f79, f80, f81, f82, f83, f84, f85, f86, f87, f88, f89, f90⟩ : w3.cell? ⟨w.heap.size, 0, none⟩ = some (.int .u8 1) ∧ w3.cell? ⟨w.heap.size, 1, none⟩ = some (.int .i64 0) ∧ w3.cell? ⟨w.heap.size, 2, none⟩ = some (.int .i64 (-30000)) ∧ w3.cell? ⟨w.heap.size, 3, none⟩ = some (.int .i64 0) ∧ w3.cell? ⟨w.heap.size, 4, none⟩ = some (.int .i64 0) ∧ w3.cell? ⟨w.heap.size, 5, none⟩ = some (.int .i64 0) ∧ w3.cell? ⟨w.heap.size, 6, none⟩ = some (.int .i64 0) ∧ w3.cell? ⟨w.heap.size, 7, none⟩ = some (.int .i64 0) ∧ w3.cell? ⟨w.heap.size, 8, none⟩ = some (.int .i64 0) ∧ w3.cell? ⟨w.heap.size, 9, none⟩ = some (.int .i64 0) ∧ w3.cell? ⟨w.heap.size, 10, none⟩ = some (.int .i64 0) ∧ w3.cell? ⟨w.heap.size, 11, none⟩ = some (.int .i64 0) ∧ w3.cell? ⟨w.heap.size, 12, none⟩ = some (.int .i64 30000) ∧ w3.cell? ⟨w.heap.size, 13, none⟩ = some (.int .i64 1) ∧ w3.cell? ⟨w.heap.size, 14, none⟩ = some (.bool false) ∧ w3.cell? ⟨w.heap.size + 1, 0, none⟩ = some (.int .u8 1) ∧ w3.cell? ⟨w.heap.size + 1, 1, none⟩ = some (.int .i64 0) ∧ w3.cell? ⟨w.heap.size + 1, 2, none⟩ = some (.int .i64 0) ∧ w3.cell? ⟨w.heap.size + 1, 3, none⟩ = some (.int .i64 30000) ∧ w3.cell? ⟨w.heap.size + 1, 4, none⟩ = some (.int .i64 0) ∧ w3.cell? ⟨w.heap.size + 1, 5, none⟩ = some (.int .i64 0) ∧ w3.cell? ⟨w.heap.size + 1, 6, none⟩ = some (.int .i64 0) ∧ w3.cell? ⟨w.heap.size + 1, 7, none⟩ = some (.int .i64 0) ∧ w3.cell? ⟨w.heap.size + 1, 8, none⟩ = some (.int .i64 0) ∧ w3.cell? ⟨w.heap.size + 1, 9, none⟩ = some (.int .i64 0) ∧ w3.cell? ⟨w.heap.size + 1, 10, none⟩ = some (.int .i64 32400000) ∧ w3.cell? ⟨w.heap.size + 1, 11, none⟩ = some (.int .i64 32400000) ∧ w3.cell? ⟨w.heap.size + 1, 12, none⟩ = some (.int .i64 30000) ∧ w3.cell? ⟨w.heap.size + 1, 13, none⟩ = some (.int .i64 2) ∧ w3.cell? ⟨w.heap.size + 1, 14, none⟩ = some (.bool false) := by
    refine ⟨?_, ?_, ?_, ?_, ?_, ?_, ?_, ?_, ?_, ?_, ?_, ?_, ?_, ?_, ?_, ?_, ?_, ?_, ?_, ?_, ?_, ?_, ?_, ?_, ?_, ?_, ?_, ?_, ?_, ?_⟩ <;> (refine cell_below hb3 ?_; repeat (first | (with_reducible assumption) | ((with_reducible refine cell_set ?_ ?_ _); (· first | (simp; done) | (simp; omega) | omega)) | ((with_reducible refine cell_new ?_ ?_); (· (simp; done)); (· rfl)) | (with_reducible refine cell_alloc ?_ _) | (with_reducible refine cell_drew ?_) | (with_reducible refine cell_drewN ?_ _) | (with_reducible refine cell_below (by assumption) ?_)))
  have zf61 : w.heap.size < w3.heap.size := World.block_lt_of_cell? _ _ f61
  have zf76 : w.heap.size + 1 < w3.heap.size := World.block_lt_of_cell? _ _ f76
  clear f31 zf31 f32 f33 f34 f35 f36 f37 f38 f39 f40 f41 f42 f43 f44 f45 f46 zf46 f47 f48 f49 f50 f51 f52 f53 f54 f55 f56 f57 f58 f59 f60
  have HD3 := hide (drawAt_below (w := w2) (show Below w2.heap.size w2 w3 by (repeat (with_reducible (first | assumption | exact Below.refl _ _ | refine Below.drew ?_ | refine below_drewN ?_ _ | refine below_set ?_ (by simp; try omega) _ | refine below_alloc ?_ (Nat.le_refl _) _ | refine below_sub (by assumption) ?_)))) HD2.out)
  have hs3 : w.heap.size < w3.heap.size := World.block_lt_of_cell? _ _ f61
  go_wp2_with fail
  have HDp : Hid (drawAt (w3.alloc (.cells #[.int .i64 9541, .int .i64 (-9541), .int .i64 9541, .int .i64 97200000, .int .i64 32400000, .int .i64 0, .int .i64 (-9541), .int .i64 9541, .int .i64 0, .int .i64 9541] 159)) base D [] 0 (-30000) false 9541 (.slice none 0 0)) := hide (drawAt_below (w := w) (by (repeat (with_reducible (first | assumption | exact Below.refl _ _ | refine Below.drew ?_ | refine below_drewN ?_ _ | refine below_set ?_ (by simp; try omega) _ | refine below_alloc ?_ (Nat.le_refl _) _ | refine below_sub (by assumption) ?_)))) HD.out)
  generalize hwwp : w3.alloc (.cells #[.int .i64 9541, .int .i64 (-9541), .int .i64 9541, .int .i64 97200000, .int .i64 32400000, .int .i64 0, .int .i64 (-9541), .int .i64 9541, .int .i64 0, .int .i64 9541] 159) = wp
  have x91 : wp.cell? ⟨w.heap.size, 0, none⟩ = some (.int .u8 1) := by
    rw [← hwwp]; exact cell_alloc f61 _
  have x92 : wp.cell? ⟨w.heap.size, 1, none⟩ = some (.int .i64 0) := by
    rw [← hwwp]; exact cell_alloc f62 _
  have x93 : wp.cell? ⟨w.heap.size, 2, none⟩ = some (.int .i64 (-30000)) := by
    rw [← hwwp]; exact cell_alloc f63 _
  have x94 : wp.cell? ⟨w.heap.size, 3, none⟩ = some (.int .i64 0) := by
    rw [← hwwp]; exact cell_alloc f64 _
  have x95 : wp.cell? ⟨w.heap.size, 4, none⟩ = some (.int .i64 0) := by
    rw [← hwwp]; exact cell_alloc f65 _
  have x96 : wp.cell? ⟨w.heap.size, 5, none⟩ = some (.int .i64 0) := by
    rw [← hwwp]; exact cell_alloc f66 _
  have x97 : wp.cell? ⟨w.heap.size, 6, none⟩ = some (.int .i64 0) := by
    rw [← hwwp]; exact cell_alloc f67 _
  have x98 : wp.cell? ⟨w.heap.size, 7, none⟩ = some (.int .i64 0) := by
    rw [← hwwp]; exact cell_alloc f68 _
  have x99 : wp.cell? ⟨w.heap.size, 8, none⟩ = some (.int .i64 0) := by
    rw [← hwwp]; exact cell_alloc f69 _
  have x100 : wp.cell? ⟨w.heap.size, 9, none⟩ = some (.int .i64 0) := by
    rw [← hwwp]; exact cell_alloc f70 _
  have x101 : wp.cell? ⟨w.heap.size, 10, none⟩ = some (.int .i64 0) := by
    rw [← hwwp]; exact cell_alloc f71 _
  have x102 : wp.cell? ⟨w.heap.size, 11, none⟩ = some (.int .i64 0) := by
    rw [← hwwp]; exact cell_alloc f72 _
  have x103 : wp.cell? ⟨w.heap.size, 12, none⟩ = some (.int .i64 30000) := by
    rw [← hwwp]; exact cell_alloc f73 _
  have x104 : wp.cell? ⟨w.heap.size, 13, none⟩ = some (.int .i64 1) := by
    rw [← hwwp]; exact cell_alloc f74 _
  have x105 : wp.cell? ⟨w.heap.size, 14, none⟩ = some (.bool false) := by
    rw [← hwwp]; exact cell_alloc f75 _
  have x106 : wp.cell? ⟨w.heap.size + 1, 0, none⟩ = some (.int .u8 1) := by
    rw [← hwwp]; exact cell_alloc f76 _
  have x107 : wp.cell? ⟨w.heap.size + 1, 1, none⟩ = some (.int .i64 0) := by
    rw [← hwwp]; exact cell_alloc f77 _
  have x108 : wp.cell? ⟨w.heap.size + 1, 2, none⟩ = some (.int .i64 0) := by
    rw [← hwwp]; exact cell_alloc f78 _
  have x109 : wp.cell? ⟨w.heap.size + 1, 3, none⟩ = some (.int .i64 30000) := by
    rw [← hwwp]; exact cell_alloc f79 _
  have x110 : wp.cell? ⟨w.heap.size + 1, 4, none⟩ = some (.int .i64 0) := by
    rw [← hwwp]; exact cell_alloc f80 _
  have x111 : wp.cell? ⟨w.heap.size + 1, 5, none⟩ = some (.int .i64 0) := by
    rw [← hwwp]; exact cell_alloc f81 _
  have x112 : wp.cell? ⟨w.heap.size + 1, 6, none⟩ = some (.int .i64 0) := by
    rw [← hwwp]; exact cell_alloc f82 _
  have x113 : wp.cell? ⟨w.heap.size + 1, 7, none⟩ = some (.int .i64 0) := by
    rw [← hwwp]; exact cell_alloc f83 _
  have x114 : wp.cell? ⟨w.heap.size + 1, 8, none⟩ = some (.int .i64 0) := by
    rw [← hwwp]; exact cell_alloc f84 _
  have x115 : wp.cell? ⟨w.heap.size + 1, 9, none⟩ = some (.int .i64 0) := by
    rw [← hwwp]; exact cell_alloc f85 _
  have x116 : wp.cell? ⟨w.heap.size + 1, 10, none⟩ = some (.int .i64 32400000) := by
    rw [← hwwp]; exact cell_alloc f86 _
  have x117 : wp.cell? ⟨w.heap.size + 1, 11, none⟩ = some (.int .i64 32400000) := by
    rw [← hwwp]; exact cell_alloc f87 _
  have x118 : wp.cell? ⟨w.heap.size + 1, 12, none⟩ = some (.int .i64 30000) := by
    rw [← hwwp]; exact cell_alloc f88 _
  have x119 : wp.cell? ⟨w.heap.size + 1, 13, none⟩ = some (.int .i64 2) := by
    rw [← hwwp]; exact cell_alloc f89 _
  have x120 : wp.cell? ⟨w.heap.size + 1, 14, none⟩ = some (.bool false) := by
    rw [← hwwp]; exact cell_alloc f90 _
  have x121 : wp.cell? ⟨w3.heap.size, 0, none⟩ = some (.int .i64 9541) := by
    rw [← hwwp]; exact cell_new rfl rfl
  have x122 : wp.cell? ⟨w3.heap.size, 1, none⟩ = some (.int .i64 (-9541)) := by
    rw [← hwwp]; exact cell_new rfl rfl
  have x123 : wp.cell? ⟨w3.heap.size, 2, none⟩ = some (.int .i64 9541) := by
    rw [← hwwp]; exact cell_new rfl rfl
  have x124 : wp.cell? ⟨w3.heap.size, 3, none⟩ = some (.int .i64 97200000) := by
    rw [← hwwp]; exact cell_new rfl rfl
  have x125 : wp.cell? ⟨w3.heap.size, 4, none⟩ = some (.int .i64 32400000) := by
    rw [← hwwp]; exact cell_new rfl rfl
  have x126 : wp.cell? ⟨w3.heap.size, 5, none⟩ = some (.int .i64 0) := by
    rw [← hwwp]; exact cell_new rfl rfl
  have x127 : wp.cell? ⟨w3.heap.size, 6, none⟩ = some (.int .i64 (-9541)) := by
    rw [← hwwp]; exact cell_new rfl rfl
  have x128 : wp.cell? ⟨w3.heap.size, 7, none⟩ = some (.int .i64 9541) := by
    rw [← hwwp]; exact cell_new rfl rfl
  have x129 : wp.cell? ⟨w3.heap.size, 8, none⟩ = some (.int .i64 0) := by
    rw [← hwwp]; exact cell_new rfl rfl
  have x130 : wp.cell? ⟨w3.heap.size, 9, none⟩ = some (.int .i64 9541) := by
    rw [← hwwp]; exact cell_new rfl rfl
  have Bwp : Below w.heap.size w wp := by
    rw [← hwwp]
    (repeat (with_reducible (first | assumption | exact Below.refl _ _ | refine Below.drew ?_ | refine below_drewN ?_ _ | refine below_set ?_ (by simp; try omega) _ | refine below_alloc ?_ (Nat.le_refl _) _ | refine below_sub (by assumption) ?_)))
  rw [hwwp] at HDp
  clear f61 zf61 f62 f63 f64 f65 f66 f67 f68 f69 f70 f71 f72 f73 f74 f75 f76 zf76 f77 f78 f79 f80 f81 f82 f83 f84 f85 f86 f87 f88 f89 f90 hwwp
  have zzx91 : w.heap.size < wp.heap.size := World.block_lt_of_cell? _ _ x91
  have zzx106 : w.heap.size + 1 < wp.heap.size := World.block_lt_of_cell? _ _ x106
  have zzx121 : w3.heap.size < wp.heap.size := World.block_lt_of_cell? _ _ x121
  have zp0 : wp.heap.size ≤ wp.heap.size := Nat.le_refl _
  go_cut [18, 19] (fun sA sB wx => ∃ (a b : Nat) (wz : World), sA = .pointer (some ⟨a, 0, none⟩) ∧ sB = .pointer (some ⟨b, 0, none⟩) ∧ wz = wx ∧ a ≠ b ∧ wp.heap.size ≤ a ∧ wp.heap.size ≤ b ∧ (wz.cell? ⟨a, 0, none⟩ = some (.int .i64 9541) ∧ wz.frozen? ⟨a, 0, none⟩ = false) ∧ (wz.cell? ⟨a, 1, none⟩ = some (.int .i64 (-9541)) ∧ wz.frozen? ⟨a, 1, none⟩ = false) ∧ (wz.cell? ⟨a, 2, none⟩ = some (.int .i64 9541) ∧ wz.frozen? ⟨a, 2, none⟩ = false) ∧ (wz.cell? ⟨a, 3, none⟩ = some (.int .i64 97200000) ∧ wz.frozen? ⟨a, 3, none⟩ = false) ∧ (wz.cell? ⟨a, 4, none⟩ = some (.int .i64 32400000) ∧ wz.frozen? ⟨a, 4, none⟩ = false) ∧ (wz.cell? ⟨b, 0, none⟩ = some (.int .i64 9541) ∧ wz.frozen? ⟨b, 0, none⟩ = false) ∧ (wz.cell? ⟨b, 1, none⟩ = some (.int .i64 (-9541)) ∧ wz.frozen? ⟨b, 1, none⟩ = false) ∧ (wz.cell? ⟨b, 2, none⟩ = some (.int .i64 9541) ∧ wz.frozen? ⟨b, 2, none⟩ = false) ∧ (wz.cell? ⟨b, 3, none⟩ = some (.int .i64 97200000) ∧ wz.frozen? ⟨b, 3, none⟩ = false) ∧ (wz.cell? ⟨b, 4, none⟩ = some (.int .i64 32400000) ∧ wz.frozen? ⟨b, 4, none⟩ = false) ∧ Below wp.heap.size wp wz)
  case first =>
    go_region
    all_goals
      go_wp2_with fail
      go_meet
      refine ⟨_, _, _, rfl, rfl, rfl, ?_, ?_, ?_, ?_, ?_, ?_, ?_, ?_, ?_, ?_, ?_, ?_, ?_, ?_⟩
      · first | omega | (simp; done) | (simp; omega)
      · first | omega | (simp; done) | (simp; omega)
      · first | omega | (simp; done) | (simp; omega)
      · (repeat (first | (refine ⟨?_, ?_⟩ <;> (with_reducible assumption)) | (with_reducible apply own_same) | ((with_reducible refine own_set ?_ ?_ _); (· first | (simp; done) | (simp; omega))) | ((with_reducible refine own_new ?_ ?_); (· (simp; done)); (· rfl)) | (with_reducible refine own_alloc ?_ _) | (with_reducible refine own_drew ?_) | (with_reducible refine own_drewN ?_ _) | (with_reducible refine own_below (by assumption) ?_)))
      · (repeat (first | (refine ⟨?_, ?_⟩ <;> (with_reducible assumption)) | (with_reducible apply own_same) | ((with_reducible refine own_set ?_ ?_ _); (· first | (simp; done) | (simp; omega))) | ((with_reducible refine own_new ?_ ?_); (· (simp; done)); (· rfl)) | (with_reducible refine own_alloc ?_ _) | (with_reducible refine own_drew ?_) | (with_reducible refine own_drewN ?_ _) | (with_reducible refine own_below (by assumption) ?_)))
      · (repeat (first | (refine ⟨?_, ?_⟩ <;> (with_reducible assumption)) | (with_reducible apply own_same) | ((with_reducible refine own_set ?_ ?_ _); (· first | (simp; done) | (simp; omega))) | ((with_reducible refine own_new ?_ ?_); (· (simp; done)); (· rfl)) | (with_reducible refine own_alloc ?_ _) | (with_reducible refine own_drew ?_) | (with_reducible refine own_drewN ?_ _) | (with_reducible refine own_below (by assumption) ?_)))
      · (repeat (first | (refine ⟨?_, ?_⟩ <;> (with_reducible assumption)) | (with_reducible apply own_same) | ((with_reducible refine own_set ?_ ?_ _); (· first | (simp; done) | (simp; omega))) | ((with_reducible refine own_new ?_ ?_); (· (simp; done)); (· rfl)) | (with_reducible refine own_alloc ?_ _) | (with_reducible refine own_drew ?_) | (with_reducible refine own_drewN ?_ _) | (with_reducible refine own_below (by assumption) ?_)))
      · (repeat (first | (refine ⟨?_, ?_⟩ <;> (with_reducible assumption)) | (with_reducible apply own_same) | ((with_reducible refine own_set ?_ ?_ _); (· first | (simp; done) | (simp; omega))) | ((with_reducible refine own_new ?_ ?_); (· (simp; done)); (· rfl)) | (with_reducible refine own_alloc ?_ _) | (with_reducible refine own_drew ?_) | (with_reducible refine own_drewN ?_ _) | (with_reducible refine own_below (by assumption) ?_)))
      · (repeat (first | (refine ⟨?_, ?_⟩ <;> (with_reducible assumption)) | (with_reducible apply own_same) | ((with_reducible refine own_set ?_ ?_ _); (· first | (simp; done) | (simp; omega))) | ((with_reducible refine own_new ?_ ?_); (· (simp; done)); (· rfl)) | (with_reducible refine own_alloc ?_ _) | (with_reducible refine own_drew ?_) | (with_reducible refine own_drewN ?_ _) | (with_reducible refine own_below (by assumption) ?_)))
      · (repeat (first | (refine ⟨?_, ?_⟩ <;> (with_reducible assumption)) | (with_reducible apply own_same) | ((with_reducible refine own_set ?_ ?_ _); (· first | (simp; done) | (simp; omega))) | ((with_reducible refine own_new ?_ ?_); (· (simp; done)); (· rfl)) | (with_reducible refine own_alloc ?_ _) | (with_reducible refine own_drew ?_) | (with_reducible refine own_drewN ?_ _) | (with_reducible refine own_below (by assumption) ?_)))
      · (repeat (first | (refine ⟨?_, ?_⟩ <;> (with_reducible assumption)) | (with_reducible apply own_same) | ((with_reducible refine own_set ?_ ?_ _); (· first | (simp; done) | (simp; omega))) | ((with_reducible refine own_new ?_ ?_); (· (simp; done)); (· rfl)) | (with_reducible refine own_alloc ?_ _) | (with_reducible refine own_drew ?_) | (with_reducible refine own_drewN ?_ _) | (with_reducible refine own_below (by assumption) ?_)))
      · (repeat (first | (refine ⟨?_, ?_⟩ <;> (with_reducible assumption)) | (with_reducible apply own_same) | ((with_reducible refine own_set ?_ ?_ _); (· first | (simp; done) | (simp; omega))) | ((with_reducible refine own_new ?_ ?_); (· (simp; done)); (· rfl)) | (with_reducible refine own_alloc ?_ _) | (with_reducible refine own_drew ?_) | (with_reducible refine own_drewN ?_ _) | (with_reducible refine own_below (by assumption) ?_)))
      · (repeat (first | (refine ⟨?_, ?_⟩ <;> (with_reducible assumption)) | (with_reducible apply own_same) | ((with_reducible refine own_set ?_ ?_ _); (· first | (simp; done) | (simp; omega))) | ((with_reducible refine own_new ?_ ?_); (· (simp; done)); (· rfl)) | (with_reducible refine own_alloc ?_ _) | (with_reducible refine own_drew ?_) | (with_reducible refine own_drewN ?_ _) | (with_reducible refine own_below (by assumption) ?_)))
      · (repeat (with_reducible (first | assumption | exact Below.refl _ _ | refine Below.drew ?_ | refine below_drewN ?_ _ | refine below_set ?_ (by simp; try omega) _ | refine below_alloc ?_ (Nat.le_refl _) _ | refine below_sub (by assumption) ?_)))
  case rest =>
    obtain ⟨g1, g2, wz, rfl, rfl, rfl, hne, hg1, hg2, ⟨a0a, a0b⟩, ⟨a1a, a1b⟩, ⟨a2a, a2b⟩, ⟨a3a, a3b⟩, ⟨a4a, a4b⟩, ⟨a5a, a5b⟩, ⟨a6a, a6b⟩, ⟨a7a, a7b⟩, ⟨a8a, a8b⟩, ⟨a9a, a9b⟩, hbz⟩ := hcut
    have lp0 : w.heap.size < wp.heap.size := by omega
    have lp1 : w.heap.size + 1 < wp.heap.size := by omega
    have lp2 : w3.heap.size < wp.heap.size := by omega
    obtain ⟨t131, t132, t133, t134, t135, t136, t137, t138, t139, t140, t141, t142, t143, t144, t145, t146, t147, t148, t149, t150, t151, t152, t153, t154, t155, t156, t157, t158, t159, t160, t161, t162, t163, t164, t165, t166, t167, t168, t169, t170⟩ : wz.cell? ⟨w.heap.size, 0, none⟩ = some (.int .u8 1) ∧ wz.cell? ⟨w.heap.size, 1, none⟩ = some (.int .i64 0) ∧ wz.cell? ⟨w.heap.size, 2, none⟩ = some (.int .i64 (-30000)) ∧ wz.cell? ⟨w.heap.size, 3, none⟩ = some (.int .i64 0) ∧ wz.cell? ⟨w.heap.size, 4, none⟩ = some (.int .i64 0) ∧ wz.cell? ⟨w.heap.size, 5, none⟩ = some (.int .i64 0) ∧ wz.cell? ⟨w.heap.size, 6, none⟩ = some (.int .i64 0) ∧ wz.cell? ⟨w.heap.size, 7, none⟩ = some (.int .i64 0) ∧ wz.cell? ⟨w.heap.size, 8, none⟩ = some (.int .i64 0) ∧ wz.cell? ⟨w.heap.size, 9, none⟩ = some (.int .i64 0) ∧ wz.cell? ⟨w.heap.size, 10, none⟩ = some (.int .i64 0) ∧ wz.cell? ⟨w.heap.size, 11, none⟩ = some (.int .i64 0) ∧ wz.cell? ⟨w.heap.size, 12, none⟩ = some (.int .i64 30000) ∧ wz.cell? ⟨w.heap.size, 13, none⟩ = some (.int .i64 1) ∧ wz.cell? ⟨w.heap.size, 14, none⟩ = some (.bool false) ∧ wz.cell? ⟨w.heap.size + 1, 0, none⟩ = some (.int .u8 1) ∧ wz.cell? ⟨w.heap.size + 1, 1, none⟩ = some (.int .i64 0) ∧ wz.cell? ⟨w.heap.size + 1, 2, none⟩ = some (.int .i64 0) ∧ wz.cell? ⟨w.heap.size + 1, 3, none⟩ = some (.int .i64 30000) ∧ wz.cell? ⟨w.heap.size + 1, 4, none⟩ = some (.int .i64 0) ∧ wz.cell? ⟨w.heap.size + 1, 5, none⟩ = some (.int .i64 0) ∧ wz.cell? ⟨w.heap.size + 1, 6, none⟩ = some (.int .i64 0) ∧ wz.cell? ⟨w.heap.size + 1, 7, none⟩ = some (.int .i64 0) ∧ wz.cell? ⟨w.heap.size + 1, 8, none⟩ = some (.int .i64 0) ∧ wz.cell? ⟨w.heap.size + 1, 9, none⟩ = some (.int .i64 0) ∧ wz.cell? ⟨w.heap.size + 1, 10, none⟩ = some (.int .i64 32400000) ∧ wz.cell? ⟨w.heap.size + 1, 11, none⟩ = some (.int .i64 32400000) ∧ wz.cell? ⟨w.heap.size + 1, 12, none⟩ = some (.int .i64 30000) ∧ wz.cell? ⟨w.heap.size + 1, 13, none⟩ = some (.int .i64 2) ∧ wz.cell? ⟨w.heap.size + 1, 14, none⟩ = some (.bool false) ∧ wz.cell? ⟨w3.heap.size, 0, none⟩ = some (.int .i64 9541) ∧ wz.cell? ⟨w3.heap.size, 1, none⟩ = some (.int .i64 (-9541)) ∧ wz.cell? ⟨w3.heap.size, 2, none⟩ = some (.int .i64 9541) ∧ wz.cell? ⟨w3.heap.size, 3, none⟩ = some (.int .i64 97200000) ∧ wz.cell? ⟨w3.heap.size, 4, none⟩ = some (.int .i64 32400000) ∧ wz.cell? ⟨w3.heap.size, 5, none⟩ = some (.int .i64 0) ∧ wz.cell? ⟨w3.heap.size, 6, none⟩ = some (.int .i64 (-9541)) ∧ wz.cell? ⟨w3.heap.size, 7, none⟩ = some (.int .i64 9541) ∧ wz.cell? ⟨w3.heap.size, 8, none⟩ = some (.int .i64 0) ∧ wz.cell? ⟨w3.heap.size, 9, none⟩ = some (.int .i64 9541) := by
      refine ⟨?_, ?_, ?_, ?_, ?_, ?_, ?_, ?_, ?_, ?_, ?_, ?_, ?_, ?_, ?_, ?_, ?_, ?_, ?_, ?_, ?_, ?_, ?_, ?_, ?_, ?_, ?_, ?_, ?_, ?_, ?_, ?_, ?_, ?_, ?_, ?_, ?_, ?_, ?_, ?_⟩ <;> (refine cell_below hbz ?_; repeat (first | (with_reducible assumption) | ((with_reducible refine cell_set ?_ ?_ _); (· first | (simp; done) | (simp; omega) | omega)) | ((with_reducible refine cell_new ?_ ?_); (· (simp; done)); (· rfl)) | (with_reducible refine cell_alloc ?_ _) | (with_reducible refine cell_drew ?_) | (with_reducible refine cell_drewN ?_ _) | (with_reducible refine cell_below (by assumption) ?_)))
    have zt131 : w.heap.size < wz.heap.size := World.block_lt_of_cell? _ _ t131
    have zt146 : w.heap.size + 1 < wz.heap.size := World.block_lt_of_cell? _ _ t146
    have zt161 : w3.heap.size < wz.heap.size := World.block_lt_of_cell? _ _ t161
    clear x91 zzx91 x92 x93 x94 x95 x96 x97 x98 x99 x100 x101 x102 x103 x104 x105 x106 zzx106 x107 x108 x109 x110 x111 x112 x113 x114 x115 x116 x117 x118 x119 x120 x121 zzx121 x122 x123 x124 x125 x126 x127 x128 x129 x130
    have HDz : Hid (drawAt wz base D [] 0 (-30000) false 9541 (.slice none 0 0)) := hide (drawAt_below hbz HDp.out)
    have ne_g1_0 : g1 ≠ w.heap.size := by omega
    have en_g1_0 : w.heap.size ≠ g1 := by omega
    have ne_g1_1 : g1 ≠ w.heap.size + 1 := by omega
    have en_g1_1 : w.heap.size + 1 ≠ g1 := by omega
    have ne_g1_2 : g1 ≠ w3.heap.size := by omega
    have en_g1_2 : w3.heap.size ≠ g1 := by omega
    have ne_g2_0 : g2 ≠ w.heap.size := by omega
    have en_g2_0 : w.heap.size ≠ g2 := by omega
    have ne_g2_1 : g2 ≠ w.heap.size + 1 := by omega
    have en_g2_1 : w.heap.size + 1 ≠ g2 := by omega
    have ne_g2_2 : g2 ≠ w3.heap.size := by omega
    have en_g2_2 : w3.heap.size ≠ g2 := by omega
    have hne2 : g2 ≠ g1 := fun e => hne e.symm
    have zg1 : g1 < wz.heap.size := World.block_lt_of_cell? _ _ a0a
    have zg2 : g2 < wz.heap.size := World.block_lt_of_cell? _ _ a5a
    have ltD : D < wp.heap.size := World.block_lt_of_cell? _ _ HDp.out.1.1
    go_wp2_with (go_at_call 66; (with_reducible refine (NM _).mono ?_); rintro e w' ⟨rfl, rfl⟩)
    have HDy : Hid (drawAt ((((wz.setCell ⟨g1, 4, none⟩ (.int .i64 16200000)).setCell ⟨g2, 4, none⟩ (.int .i64 16200000)).setCell ⟨g2, 3, none⟩ (.int .i64 113400000))) base D [] 0 (-30000) false 9541 (.slice none 0 0)) := hide (drawAt_below (w := w) (by (repeat (with_reducible (first | assumption | exact Below.refl _ _ | refine Below.drew ?_ | refine below_drewN ?_ _ | refine below_set ?_ (by simp; try omega) _ | refine below_alloc ?_ (Nat.le_refl _) _ | refine below_sub (by assumption) ?_)))) HD.out)
    generalize hwwy : (((wz.setCell ⟨g1, 4, none⟩ (.int .i64 16200000)).setCell ⟨g2, 4, none⟩ (.int .i64 16200000)).setCell ⟨g2, 3, none⟩ (.int .i64 113400000)) = wy
    have x171 : wy.cell? ⟨w.heap.size, 0, none⟩ = some (.int .u8 1) := by
      rw [← hwwy]; exact (cell_set ne_g2_0 (cell_set ne_g2_0 (cell_set ne_g1_0 t131 _) _) _)
    have x172 : wy.cell? ⟨w.heap.size, 1, none⟩ = some (.int .i64 0) := by
      rw [← hwwy]; exact (cell_set ne_g2_0 (cell_set ne_g2_0 (cell_set ne_g1_0 t132 _) _) _)
    have x173 : wy.cell? ⟨w.heap.size, 2, none⟩ = some (.int .i64 (-30000)) := by
      rw [← hwwy]; exact (cell_set ne_g2_0 (cell_set ne_g2_0 (cell_set ne_g1_0 t133 _) _) _)
    have x174 : wy.cell? ⟨w.heap.size, 3, none⟩ = some (.int .i64 0) := by
      rw [← hwwy]; exact (cell_set ne_g2_0 (cell_set ne_g2_0 (cell_set ne_g1_0 t134 _) _) _)
    have x175 : wy.cell? ⟨w.heap.size, 4, none⟩ = some (.int .i64 0) := by
      rw [← hwwy]; exact (cell_set ne_g2_0 (cell_set ne_g2_0 (cell_set ne_g1_0 t135 _) _) _)
    have x176 : wy.cell? ⟨w.heap.size, 5, none⟩ = some (.int .i64 0) := by
      rw [← hwwy]; exact (cell_set ne_g2_0 (cell_set ne_g2_0 (cell_set ne_g1_0 t136 _) _) _)
    have x177 : wy.cell? ⟨w.heap.size, 6, none⟩ = some (.int .i64 0) := by
      rw [← hwwy]; exact (cell_set ne_g2_0 (cell_set ne_g2_0 (cell_set ne_g1_0 t137 _) _) _)
    have x178 : wy.cell? ⟨w.heap.size, 7, none⟩ = some (.int .i64 0) := by
      rw [← hwwy]; exact (cell_set ne_g2_0 (cell_set ne_g2_0 (cell_set ne_g1_0 t138 _) _) _)
    have x179 : wy.cell? ⟨w.heap.size, 8, none⟩ = some (.int .i64 0) := by
      rw [← hwwy]; exact (cell_set ne_g2_0 (cell_set ne_g2_0 (cell_set ne_g1_0 t139 _) _) _)
    have x180 : wy.cell? ⟨w.heap.size, 9, none⟩ = some (.int .i64 0) := by
      rw [← hwwy]; exact (cell_set ne_g2_0 (cell_set ne_g2_0 (cell_set ne_g1_0 t140 _) _) _)
    have x181 : wy.cell? ⟨w.heap.size, 10, none⟩ = some (.int .i64 0) := by
      rw [← hwwy]; exact (cell_set ne_g2_0 (cell_set ne_g2_0 (cell_set ne_g1_0 t141 _) _) _)
    have x182 : wy.cell? ⟨w.heap.size, 11, none⟩ = some (.int .i64 0) := by
      rw [← hwwy]; exact (cell_set ne_g2_0 (cell_set ne_g2_0 (cell_set ne_g1_0 t142 _) _) _)
    have x183 : wy.cell? ⟨w.heap.size, 12, none⟩ = some (.int .i64 30000) := by
      rw [← hwwy]; exact (cell_set ne_g2_0 (cell_set ne_g2_0 (cell_set ne_g1_0 t143 _) _) _)
    have x184 : wy.cell? ⟨w.heap.size, 13, none⟩ = some (.int .i64 1) := by
      rw [← hwwy]; exact (cell_set ne_g2_0 (cell_set ne_g2_0 (cell_set ne_g1_0 t144 _) _) _)
    have x185 : wy.cell? ⟨w.heap.size, 14, none⟩ = some (.bool false) := by
      rw [← hwwy]; exact (cell_set ne_g2_0 (cell_set ne_g2_0 (cell_set ne_g1_0 t145 _) _) _)
    have x186 : wy.cell? ⟨w.heap.size + 1, 0, none⟩ = some (.int .u8 1) := by
      rw [← hwwy]; exact (cell_set ne_g2_1 (cell_set ne_g2_1 (cell_set ne_g1_1 t146 _) _) _)
    have x187 : wy.cell? ⟨w.heap.size + 1, 1, none⟩ = some (.int .i64 0) := by
      rw [← hwwy]; exact (cell_set ne_g2_1 (cell_set ne_g2_1 (cell_set ne_g1_1 t147 _) _) _)
    have x188 : wy.cell? ⟨w.heap.size + 1, 2, none⟩ = some (.int .i64 0) := by
      rw [← hwwy]; exact (cell_set ne_g2_1 (cell_set ne_g2_1 (cell_set ne_g1_1 t148 _) _) _)
    have x189 : wy.cell? ⟨w.heap.size + 1, 3, none⟩ = some (.int .i64 30000) := by
      rw [← hwwy]; exact (cell_set ne_g2_1 (cell_set ne_g2_1 (cell_set ne_g1_1 t149 _) _) _)
    have x190 : wy.cell? ⟨w.heap.size + 1, 4, none⟩ = some (.int .i64 0) := by
      rw [← hwwy]; exact (cell_set ne_g2_1 (cell_set ne_g2_1 (cell_set ne_g1_1 t150 _) _) _)
    have x191 : wy.cell? ⟨w.heap.size + 1, 5, none⟩ = some (.int .i64 0) := by
      rw [← hwwy]; exact (cell_set ne_g2_1 (cell_set ne_g2_1 (cell_set ne_g1_1 t151 _) _) _)
    have x192 : wy.cell? ⟨w.heap.size + 1, 6, none⟩ = some (.int .i64 0) := by
      rw [← hwwy]; exact (cell_set ne_g2_1 (cell_set ne_g2_1 (cell_set ne_g1_1 t152 _) _) _)
    have x193 : wy.cell? ⟨w.heap.size + 1, 7, none⟩ = some (.int .i64 0) := by
      rw [← hwwy]; exact (cell_set ne_g2_1 (cell_set ne_g2_1 (cell_set ne_g1_1 t153 _) _) _)
    have x194 : wy.cell? ⟨w.heap.size + 1, 8, none⟩ = some (.int .i64 0) := by
      rw [← hwwy]; exact (cell_set ne_g2_1 (cell_set ne_g2_1 (cell_set ne_g1_1 t154 _) _) _)
    have x195 : wy.cell? ⟨w.heap.size + 1, 9, none⟩ = some (.int .i64 0) := by
      rw [← hwwy]; exact (cell_set ne_g2_1 (cell_set ne_g2_1 (cell_set ne_g1_1 t155 _) _) _)
    have x196 : wy.cell? ⟨w.heap.size + 1, 10, none⟩ = some (.int .i64 32400000) := by
      rw [← hwwy]; exact (cell_set ne_g2_1 (cell_set ne_g2_1 (cell_set ne_g1_1 t156 _) _) _)
    have x197 : wy.cell? ⟨w.heap.size + 1, 11, none⟩ = some (.int .i64 32400000) := by
      rw [← hwwy]; exact (cell_set ne_g2_1 (cell_set ne_g2_1 (cell_set ne_g1_1 t157 _) _) _)
    have x198 : wy.cell? ⟨w.heap.size + 1, 12, none⟩ = some (.int .i64 30000) := by
      rw [← hwwy]; exact (cell_set ne_g2_1 (cell_set ne_g2_1 (cell_set ne_g1_1 t158 _) _) _)
    have x199 : wy.cell? ⟨w.heap.size + 1, 13, none⟩ = some (.int .i64 2) := by
      rw [← hwwy]; exact (cell_set ne_g2_1 (cell_set ne_g2_1 (cell_set ne_g1_1 t159 _) _) _)
    have x200 : wy.cell? ⟨w.heap.size + 1, 14, none⟩ = some (.bool false) := by
      rw [← hwwy]; exact (cell_set ne_g2_1 (cell_set ne_g2_1 (cell_set ne_g1_1 t160 _) _) _)
    have x201 : wy.cell? ⟨w3.heap.size, 0, none⟩ = some (.int .i64 9541) := by
      rw [← hwwy]; exact (cell_set ne_g2_2 (cell_set ne_g2_2 (cell_set ne_g1_2 t161 _) _) _)
    have x202 : wy.cell? ⟨w3.heap.size, 1, none⟩ = some (.int .i64 (-9541)) := by
      rw [← hwwy]; exact (cell_set ne_g2_2 (cell_set ne_g2_2 (cell_set ne_g1_2 t162 _) _) _)
    have x203 : wy.cell? ⟨w3.heap.size, 2, none⟩ = some (.int .i64 9541) := by
      rw [← hwwy]; exact (cell_set ne_g2_2 (cell_set ne_g2_2 (cell_set ne_g1_2 t163 _) _) _)
    have x204 : wy.cell? ⟨w3.heap.size, 3, none⟩ = some (.int .i64 97200000) := by
      rw [← hwwy]; exact (cell_set ne_g2_2 (cell_set ne_g2_2 (cell_set ne_g1_2 t164 _) _) _)
    have x205 : wy.cell? ⟨w3.heap.size, 4, none⟩ = some (.int .i64 32400000) := by
      rw [← hwwy]; exact (cell_set ne_g2_2 (cell_set ne_g2_2 (cell_set ne_g1_2 t165 _) _) _)
    have x206 : wy.cell? ⟨w3.heap.size, 5, none⟩ = some (.int .i64 0) := by
      rw [← hwwy]; exact (cell_set ne_g2_2 (cell_set ne_g2_2 (cell_set ne_g1_2 t166 _) _) _)
    have x207 : wy.cell? ⟨w3.heap.size, 6, none⟩ = some (.int .i64 (-9541)) := by
      rw [← hwwy]; exact (cell_set ne_g2_2 (cell_set ne_g2_2 (cell_set ne_g1_2 t167 _) _) _)
    have x208 : wy.cell? ⟨w3.heap.size, 7, none⟩ = some (.int .i64 9541) := by
      rw [← hwwy]; exact (cell_set ne_g2_2 (cell_set ne_g2_2 (cell_set ne_g1_2 t168 _) _) _)
    have x209 : wy.cell? ⟨w3.heap.size, 8, none⟩ = some (.int .i64 0) := by
      rw [← hwwy]; exact (cell_set ne_g2_2 (cell_set ne_g2_2 (cell_set ne_g1_2 t169 _) _) _)
    have x210 : wy.cell? ⟨w3.heap.size, 9, none⟩ = some (.int .i64 9541) := by
      rw [← hwwy]; exact (cell_set ne_g2_2 (cell_set ne_g2_2 (cell_set ne_g1_2 t170 _) _) _)
    have x211 : wy.cell? ⟨g1, 0, none⟩ = some (.int .i64 9541) := by
      rw [← hwwy]; exact ((own_set (fun e => hne2 (congrArg Addr.block e)) (own_set (fun e => hne2 (congrArg Addr.block e)) (own_set (by simp) ⟨a0a, a0b⟩ _) _) _)).1
    have x212 : wy.cell? ⟨g1, 1, none⟩ = some (.int .i64 (-9541)) := by
      rw [← hwwy]; exact ((own_set (fun e => hne2 (congrArg Addr.block e)) (own_set (fun e => hne2 (congrArg Addr.block e)) (own_set (by simp) ⟨a1a, a1b⟩ _) _) _)).1
    have x213 : wy.cell? ⟨g1, 2, none⟩ = some (.int .i64 9541) := by
      rw [← hwwy]; exact ((own_set (fun e => hne2 (congrArg Addr.block e)) (own_set (fun e => hne2 (congrArg Addr.block e)) (own_set (by simp) ⟨a2a, a2b⟩ _) _) _)).1
    have x214 : wy.cell? ⟨g1, 3, none⟩ = some (.int .i64 97200000) := by
      rw [← hwwy]; exact ((own_set (fun e => hne2 (congrArg Addr.block e)) (own_set (fun e => hne2 (congrArg Addr.block e)) (own_set (by simp) ⟨a3a, a3b⟩ _) _) _)).1
    have x215 : wy.cell? ⟨g1, 4, none⟩ = some (.int .i64 16200000) := by
      rw [← hwwy]; exact ((own_set (fun e => hne2 (congrArg Addr.block e)) (own_set (fun e => hne2 (congrArg Addr.block e)) (own_same ⟨a4a, a4b⟩ _) _) _)).1
    have x216 : wy.cell? ⟨g2, 0, none⟩ = some (.int .i64 9541) := by
      rw [← hwwy]; exact ((own_set (by simp) (own_set (by simp) (own_set (fun e => hne (congrArg Addr.block e)) ⟨a5a, a5b⟩ _) _) _)).1
    have x217 : wy.cell? ⟨g2, 1, none⟩ = some (.int .i64 (-9541)) := by
      rw [← hwwy]; exact ((own_set (by simp) (own_set (by simp) (own_set (fun e => hne (congrArg Addr.block e)) ⟨a6a, a6b⟩ _) _) _)).1
    have x218 : wy.cell? ⟨g2, 2, none⟩ = some (.int .i64 9541) := by
      rw [← hwwy]; exact ((own_set (by simp) (own_set (by simp) (own_set (fun e => hne (congrArg Addr.block e)) ⟨a7a, a7b⟩ _) _) _)).1
    have x219 : wy.cell? ⟨g2, 3, none⟩ = some (.int .i64 113400000) := by
      rw [← hwwy]; exact ((own_same (own_set (by simp) (own_set (fun e => hne (congrArg Addr.block e)) ⟨a8a, a8b⟩ _) _) _)).1
    have x220 : wy.cell? ⟨g2, 4, none⟩ = some (.int .i64 16200000) := by
      rw [← hwwy]; exact ((own_set (by simp) (own_same (own_set (fun e => hne (congrArg Addr.block e)) ⟨a9a, a9b⟩ _) _) _)).1
    have Bwy : Below w.heap.size w wy := by
      rw [← hwwy]
      (repeat (with_reducible (first | assumption | exact Below.refl _ _ | refine Below.drew ?_ | refine below_drewN ?_ _ | refine below_set ?_ (by simp; try omega) _ | refine below_alloc ?_ (Nat.le_refl _) _ | refine below_sub (by assumption) ?_)))
    rw [hwwy] at HDy
    clear t131 zt131 t132 t133 t134 t135 t136 t137 t138 t139 t140 t141 t142 t143 t144 t145 t146 zt146 t147 t148 t149 t150 t151 t152 t153 t154 t155 t156 t157 t158 t159 t160 t161 zt161 t162 t163 t164 t165 t166 t167 t168 t169 t170 a0a a0b a1a a1b a2a a2b a3a a3b a4a a4b a5a a5b a6a a6b a7a a7b a8a a8b a9a a9b hwwy
    have zzx171 : w.heap.size < wy.heap.size := World.block_lt_of_cell? _ _ x171
    have zzx186 : w.heap.size + 1 < wy.heap.size := World.block_lt_of_cell? _ _ x186
    have zzx201 : w3.heap.size < wy.heap.size := World.block_lt_of_cell? _ _ x201
    have zzx211 : g1 < wy.heap.size := World.block_lt_of_cell? _ _ x211
    have zzx216 : g2 < wy.heap.size := World.block_lt_of_cell? _ _ x216
    have HF := hide (show wy.cell? ⟨w.heap.size, 13, none⟩ = some (.int .i64 1) ∧ wy.cell? ⟨w.heap.size + 1, 13, none⟩ = some (.int .i64 2) ∧ wy.cell? ⟨w3.heap.size, 5, none⟩ = some (.int .i64 0) ∧ wy.cell? ⟨w3.heap.size, 6, none⟩ = some (.int .i64 (-9541)) ∧ wy.cell? ⟨w3.heap.size, 7, none⟩ = some (.int .i64 9541) ∧ wy.cell? ⟨w3.heap.size, 8, none⟩ = some (.int .i64 0) ∧ wy.cell? ⟨g2, 0, none⟩ = some (.int .i64 9541) ∧ wy.cell? ⟨g2, 1, none⟩ = some (.int .i64 (-9541)) ∧ wy.cell? ⟨g2, 2, none⟩ = some (.int .i64 9541) ∧ wy.cell? ⟨g2, 3, none⟩ = some (.int .i64 113400000) ∧ wy.cell? ⟨g2, 4, none⟩ = some (.int .i64 16200000) from ⟨x184, x199, x206, x207, x208, x209, x216, x217, x218, x219, x220⟩)
    have HZ := hide hne
    clear x171 zzx171 x172 x173 x174 x175 x176 x177 x178 x179 x180 x181 x182 x183 x185 x186 zzx186 x187 x188 x189 x190 x191 x192 x193 x194 x195 x196 x197 x198 x200 x201 zzx201 x202 x203 x204 x205 x210 x184 x199 x206 x207 x208 x209 x216 zzx216 x217 x218 x219 x220 hne2 ne_g1_0 en_g1_0 ne_g1_1 en_g1_1 ne_g1_2 en_g1_2 ne_g2_0 en_g2_0 ne_g2_1 en_g2_1 ne_g2_2 en_g2_2
    go_cut [20, 15] (fun sA sB wx => ∃ (g : Nat) (wv : World), sA = .pointer (some ⟨g, 0, none⟩) ∧ sB = .int .i64 0 ∧ wv = wx ∧ (wv.cell? ⟨g, 0, none⟩ = some (.int .i64 2794) ∧ wv.cell? ⟨g, 1, none⟩ = some (.int .i64 (-2794))) ∧ Below (wy).heap.size (wy) wv)
    case first =>
      go_region_with (first
        | (go_at_call 43; refine (TL _).mono ?_; rintro e wL ⟨rfl, hL⟩; have hzL := hL.size; refine (fun hT0 => ?_) (cell_below hL (b := g1) (o := 0) (v := .int .i64 9541) ?_); rotate_left; (· (repeat (first | (with_reducible assumption) | ((with_reducible refine cell_set ?_ ?_ _); (· first | (simp; done) | (simp; omega) | omega)) | ((with_reducible refine cell_new ?_ ?_); (· (simp; done)); (· rfl)) | (with_reducible refine cell_alloc ?_ _) | (with_reducible refine cell_drew ?_) | (with_reducible refine cell_drewN ?_ _) | (with_reducible refine cell_below (by assumption) ?_)))); refine (fun hT1 => ?_) (cell_below hL (b := g1) (o := 1) (v := .int .i64 (-9541)) ?_); rotate_left; (· (repeat (first | (with_reducible assumption) | ((with_reducible refine cell_set ?_ ?_ _); (· first | (simp; done) | (simp; omega) | omega)) | ((with_reducible refine cell_new ?_ ?_); (· (simp; done)); (· rfl)) | (with_reducible refine cell_alloc ?_ _) | (with_reducible refine cell_drew ?_) | (with_reducible refine cell_drewN ?_ _) | (with_reducible refine cell_below (by assumption) ?_)))); refine (fun hT2 => ?_) (cell_below hL (b := g1) (o := 2) (v := .int .i64 9541) ?_); rotate_left; (· (repeat (first | (with_reducible assumption) | ((with_reducible refine cell_set ?_ ?_ _); (· first | (simp; done) | (simp; omega) | omega)) | ((with_reducible refine cell_new ?_ ?_); (· (simp; done)); (· rfl)) | (with_reducible refine cell_alloc ?_ _) | (with_reducible refine cell_drew ?_) | (with_reducible refine cell_drewN ?_ _) | (with_reducible refine cell_below (by assumption) ?_)))); refine (fun hT3 => ?_) (cell_below hL (b := g1) (o := 3) (v := .int .i64 97200000) ?_); rotate_left; (· (repeat (first | (with_reducible assumption) | ((with_reducible refine cell_set ?_ ?_ _); (· first | (simp; done) | (simp; omega) | omega)) | ((with_reducible refine cell_new ?_ ?_); (· (simp; done)); (· rfl)) | (with_reducible refine cell_alloc ?_ _) | (with_reducible refine cell_drew ?_) | (with_reducible refine cell_drewN ?_ _) | (with_reducible refine cell_below (by assumption) ?_)))); refine (fun hT4 => ?_) (cell_below hL (b := g1) (o := 4) (v := .int .i64 16200000) ?_); rotate_left; (· (repeat (first | (with_reducible assumption) | ((with_reducible refine cell_set ?_ ?_ _); (· first | (simp; done) | (simp; omega) | omega)) | ((with_reducible refine cell_new ?_ ?_); (· (simp; done)); (· rfl)) | (with_reducible refine cell_alloc ?_ _) | (with_reducible refine cell_drew ?_) | (with_reducible refine cell_drewN ?_ _) | (with_reducible refine cell_below (by assumption) ?_)))); have hTz := World.block_lt_of_cell? _ _ hT0; refine (fun hzM => ?_) (Nat.le_trans ?_ hL.size : (wy).heap.size ≤ wL.heap.size); rotate_left; (· first | exact Nat.le_refl _ | (simp; done) | (simp; omega)); try (refine (fun n0 => ?_) (mine_below hL (a := ⟨wy.heap.size, 0, none⟩) ?_); rotate_left; (· first | (refine ⟨?_, ?_⟩ <;> (with_reducible assumption)) | (refine mine_of (v := .int .i64 0) ?_ ?_ <;> (simp [go_sem]; done))); obtain ⟨n0a, n0b⟩ := n0; refine (fun n1 => ?_) (mine_below hL (a := ⟨wy.heap.size, 1, none⟩) ?_); rotate_left; (· first | (refine ⟨?_, ?_⟩ <;> (with_reducible assumption)) | (refine mine_of (v := .int .i64 0) ?_ ?_ <;> (simp [go_sem]; done))); obtain ⟨n1a, n1b⟩ := n1))
        | (go_at_call 22; refine (TA _).mono ?_; rintro e w' ⟨rfl, hb'⟩; have hz' := hb'.size; try (first | (refine (fun n2 => ?_) (mine_below hb' (a := ⟨wy.heap.size, 0, none⟩) ?_); rotate_left; (· first | (refine ⟨?_, ?_⟩ <;> (with_reducible assumption)) | (refine mine_of (v := .int .i64 0) ?_ ?_ <;> (simp [go_sem]; done))); obtain ⟨n2a, n2b⟩ := n2; refine (fun n3 => ?_) (mine_below hb' (a := ⟨wy.heap.size, 1, none⟩) ?_); rotate_left; (· first | (refine ⟨?_, ?_⟩ <;> (with_reducible assumption)) | (refine mine_of (v := .int .i64 0) ?_ ?_ <;> (simp [go_sem]; done))); obtain ⟨n3a, n3b⟩ := n3) | (refine (fun n2 => ?_) (mine_below hb' (a := ⟨wL.heap.size, 0, none⟩) ?_); rotate_left; (· first | (refine ⟨?_, ?_⟩ <;> (with_reducible assumption)) | (refine mine_of (v := .int .i64 0) ?_ ?_ <;> (simp [go_sem]; done))); obtain ⟨n2a, n2b⟩ := n2; refine (fun n3 => ?_) (mine_below hb' (a := ⟨wL.heap.size, 1, none⟩) ?_); rotate_left; (· first | (refine ⟨?_, ?_⟩ <;> (with_reducible assumption)) | (refine mine_of (v := .int .i64 0) ?_ ?_ <;> (simp [go_sem]; done))); obtain ⟨n3a, n3b⟩ := n3))))
      all_goals
        go_wp2_with fail
        go_meet
        refine ⟨_, _, rfl, rfl, rfl, ?_, ?_⟩
        · constructor <;> (first | (simp [go_sem]; done) | (simp [go_sem, *]; done) | (simp [World.cell?_setCell, *]; done))
        · (repeat (with_reducible (first | assumption | exact Below.refl _ _ | refine Below.drew ?_ | refine below_drewN ?_ _ | refine below_set ?_ (by simp; try omega) _ | refine below_alloc ?_ (Nat.le_refl _) _ | refine below_sub (by assumption) ?_)))
    case rest =>
      obtain ⟨g9, wv, rfl, rfl, rfl, ⟨cg91, cg92⟩, hbcg9⟩ := hcut
      obtain ⟨t221, t222, t223, t224, t225⟩ : wv.cell? ⟨g1, 0, none⟩ = some (.int .i64 9541) ∧ wv.cell? ⟨g1, 1, none⟩ = some (.int .i64 (-9541)) ∧ wv.cell? ⟨g1, 2, none⟩ = some (.int .i64 9541) ∧ wv.cell? ⟨g1, 3, none⟩ = some (.int .i64 97200000) ∧ wv.cell? ⟨g1, 4, none⟩ = some (.int .i64 16200000) := by
        refine ⟨?_, ?_, ?_, ?_, ?_⟩ <;> (refine cell_below hbcg9 ?_; repeat (first | (with_reducible assumption) | ((with_reducible refine cell_set ?_ ?_ _); (· first | (simp; done) | (simp; omega) | omega)) | ((with_reducible refine cell_new ?_ ?_); (· (simp; done)); (· rfl)) | (with_reducible refine cell_alloc ?_ _) | (with_reducible refine cell_drew ?_) | (with_reducible refine cell_drewN ?_ _) | (with_reducible refine cell_below (by assumption) ?_)))
      have zt221 : g1 < wv.heap.size := World.block_lt_of_cell? _ _ t221
      clear x211 zzx211 x212 x213 x214 x215
      have zcg9 : g9 < wv.heap.size := World.block_lt_of_cell? _ _ cg91
      obtain ⟨y0, y1, y2, y3, y4, y5, y6, y7, y8, y9, y10⟩ := HF.out
      have v226 : wv.cell? ⟨w.heap.size, 13, none⟩ = some (.int .i64 1) := cell_below hbcg9 y0
      have v227 : wv.cell? ⟨w.heap.size + 1, 13, none⟩ = some (.int .i64 2) := cell_below hbcg9 y1
      have v228 : wv.cell? ⟨w3.heap.size, 5, none⟩ = some (.int .i64 0) := cell_below hbcg9 y2
      have v229 : wv.cell? ⟨w3.heap.size, 6, none⟩ = some (.int .i64 (-9541)) := cell_below hbcg9 y3
      have v230 : wv.cell? ⟨w3.heap.size, 7, none⟩ = some (.int .i64 9541) := cell_below hbcg9 y4
      have v231 : wv.cell? ⟨w3.heap.size, 8, none⟩ = some (.int .i64 0) := cell_below hbcg9 y5
      have v232 : wv.cell? ⟨g2, 0, none⟩ = some (.int .i64 9541) := cell_below hbcg9 y6
      have v233 : wv.cell? ⟨g2, 1, none⟩ = some (.int .i64 (-9541)) := cell_below hbcg9 y7
      have v234 : wv.cell? ⟨g2, 2, none⟩ = some (.int .i64 9541) := cell_below hbcg9 y8
      have v235 : wv.cell? ⟨g2, 3, none⟩ = some (.int .i64 113400000) := cell_below hbcg9 y9
      have v236 : wv.cell? ⟨g2, 4, none⟩ = some (.int .i64 16200000) := cell_below hbcg9 y10
      have HDv : Hid (drawAt wv base D [] 0 (-30000) false 9541 (.slice none 0 0)) := hide (drawAt_below hbcg9 HDy.out)
      clear HF HDy y0 y1 y2 y3 y4 y5 y6 y7 y8 y9 y10
      have zq237 : w.heap.size < wv.heap.size := World.block_lt_of_cell? _ _ v226
      have zq238 : w.heap.size + 1 < wv.heap.size := World.block_lt_of_cell? _ _ v227
      have zq239 : w3.heap.size < wv.heap.size := World.block_lt_of_cell? _ _ v228
      have zq240 : g2 < wv.heap.size := World.block_lt_of_cell? _ _ v232
      have h9D : g9 ≠ D := by
        intro e
        have h1 := HDv.out.1.1
        rw [← e] at h1
        have h2 := cg91
        rw [h1] at h2
        cases h2
      have Bwv : Below w.heap.size w wv := below_sub hbcg9 Bwy
      have hswv := Bwv.size
      have hwp : w.heap.size ≤ wp.heap.size := by omega
      have zg91 : g9 < wv.heap.size := World.block_lt_of_cell? _ _ cg91
      have zg11 : g1 < wv.heap.size := World.block_lt_of_cell? _ _ t221
      go_wp2_with fail
      refine (line_y base D [] 0 (-30000) false 9541 (.slice none 0 0) (-9541) 1 20459 _ (by decide) aw27_d3 (by decide) HDv.out).mono ?_
      rintro e wA ⟨gA, cA, rfl, hgA, hdA, hdrA⟩
      have hgA2 : wv.heap.size ≤ gA := by
        rcases hgA with h | h
        · cases h
        · exact h
      have HDA := hide hdA
      clear hdA hgA
      have r241 : wA.cell? ⟨g1, 0, none⟩ = some (.int .i64 9541) := hdrA.cell t221 (by omega) (fun e => by cases e)
      have r242 : wA.cell? ⟨g1, 1, none⟩ = some (.int .i64 (-9541)) := hdrA.cell t222 (by omega) (fun e => by cases e)
      have r243 : wA.cell? ⟨g1, 2, none⟩ = some (.int .i64 9541) := hdrA.cell t223 (by omega) (fun e => by cases e)
      have r244 : wA.cell? ⟨g1, 3, none⟩ = some (.int .i64 97200000) := hdrA.cell t224 (by omega) (fun e => by cases e)
      have r245 : wA.cell? ⟨g1, 4, none⟩ = some (.int .i64 16200000) := hdrA.cell t225 (by omega) (fun e => by cases e)
      have r246 : wA.cell? ⟨g9, 0, none⟩ = some (.int .i64 2794) := hdrA.cell cg91 h9D (fun e => by cases e)
      have r247 : wA.cell? ⟨g9, 1, none⟩ = some (.int .i64 (-2794)) := hdrA.cell cg92 h9D (fun e => by cases e)
      have r248 : wA.cell? ⟨w.heap.size, 13, none⟩ = some (.int .i64 1) := hdrA.cell v226 (by omega) (fun e => by cases e)
      have r249 : wA.cell? ⟨w.heap.size + 1, 13, none⟩ = some (.int .i64 2) := hdrA.cell v227 (by omega) (fun e => by cases e)
      have r250 : wA.cell? ⟨w3.heap.size, 5, none⟩ = some (.int .i64 0) := hdrA.cell v228 (by omega) (fun e => by cases e)
      have r251 : wA.cell? ⟨w3.heap.size, 6, none⟩ = some (.int .i64 (-9541)) := hdrA.cell v229 (by omega) (fun e => by cases e)
      have r252 : wA.cell? ⟨w3.heap.size, 7, none⟩ = some (.int .i64 9541) := hdrA.cell v230 (by omega) (fun e => by cases e)
      have r253 : wA.cell? ⟨w3.heap.size, 8, none⟩ = some (.int .i64 0) := hdrA.cell v231 (by omega) (fun e => by cases e)
      have r254 : wA.cell? ⟨g2, 0, none⟩ = some (.int .i64 9541) := hdrA.cell v232 (by omega) (fun e => by cases e)
      have r255 : wA.cell? ⟨g2, 1, none⟩ = some (.int .i64 (-9541)) := hdrA.cell v233 (by omega) (fun e => by cases e)
      have r256 : wA.cell? ⟨g2, 2, none⟩ = some (.int .i64 9541) := hdrA.cell v234 (by omega) (fun e => by cases e)
      have r257 : wA.cell? ⟨g2, 3, none⟩ = some (.int .i64 113400000) := hdrA.cell v235 (by omega) (fun e => by cases e)
      have r258 : wA.cell? ⟨g2, 4, none⟩ = some (.int .i64 16200000) := hdrA.cell v236 (by omega) (fun e => by cases e)
      clear t221 t222 t223 t224 t225 cg91 cg92 v226 v227 v228 v229 v230 v231 v232 v233 v234 v235 v236
      have hsA := hdrA.size
      go_wp2_with fail
      refine (arc_new base D _ 0 (-9541) false 9541 _ 9541 (-9541) 9541 97200000 16200000 2794 (-2794) 1 7493 _ (by decide) aw27_len1 (by decide) HDA.out).mono ?_
      rintro e wB ⟨gB, cB, rfl, hgB, hdB, hdrB⟩
      have hgB2 : wv.heap.size ≤ gB := by
        rcases hgB with h | h
        · injection h with h
          have h3 : gA = gB := h
          omega
        · omega
      have HDB := hide hdB
      clear hdB hgB
      have r259 : wB.cell? ⟨g1, 0, none⟩ = some (.int .i64 9541) := hdrB.cell r241 (by omega) (fun e => by have e3 : g1 = gA := Option.some.inj e; omega)
      have r260 : wB.cell? ⟨g1, 1, none⟩ = some (.int .i64 (-9541)) := hdrB.cell r242 (by omega) (fun e => by have e3 : g1 = gA := Option.some.inj e; omega)
      have r261 : wB.cell? ⟨g1, 2, none⟩ = some (.int .i64 9541) := hdrB.cell r243 (by omega) (fun e => by have e3 : g1 = gA := Option.some.inj e; omega)
      have r262 : wB.cell? ⟨g1, 3, none⟩ = some (.int .i64 97200000) := hdrB.cell r244 (by omega) (fun e => by have e3 : g1 = gA := Option.some.inj e; omega)
      have r263 : wB.cell? ⟨g1, 4, none⟩ = some (.int .i64 16200000) := hdrB.cell r245 (by omega) (fun e => by have e3 : g1 = gA := Option.some.inj e; omega)
      have r264 : wB.cell? ⟨g9, 0, none⟩ = some (.int .i64 2794) := hdrB.cell r246 h9D (fun e => by have e3 : g9 = gA := Option.some.inj e; omega)
      have r265 : wB.cell? ⟨g9, 1, none⟩ = some (.int .i64 (-2794)) := hdrB.cell r247 h9D (fun e => by have e3 : g9 = gA := Option.some.inj e; omega)
      have r266 : wB.cell? ⟨w.heap.size, 13, none⟩ = some (.int .i64 1) := hdrB.cell r248 (by omega) (fun e => by have e3 : w.heap.size = gA := Option.some.inj e; omega)
      have r267 : wB.cell? ⟨w.heap.size + 1, 13, none⟩ = some (.int .i64 2) := hdrB.cell r249 (by omega) (fun e => by have e3 : w.heap.size + 1 = gA := Option.some.inj e; omega)
      have r268 : wB.cell? ⟨w3.heap.size, 5, none⟩ = some (.int .i64 0) := hdrB.cell r250 (by omega) (fun e => by have e3 : w3.heap.size = gA := Option.some.inj e; omega)
      have r269 : wB.cell? ⟨w3.heap.size, 6, none⟩ = some (.int .i64 (-9541)) := hdrB.cell r251 (by omega) (fun e => by have e3 : w3.heap.size = gA := Option.some.inj e; omega)
      have r270 : wB.cell? ⟨w3.heap.size, 7, none⟩ = some (.int .i64 9541) := hdrB.cell r252 (by omega) (fun e => by have e3 : w3.heap.size = gA := Option.some.inj e; omega)
      have r271 : wB.cell? ⟨w3.heap.size, 8, none⟩ = some (.int .i64 0) := hdrB.cell r253 (by omega) (fun e => by have e3 : w3.heap.size = gA := Option.some.inj e; omega)
      have r272 : wB.cell? ⟨g2, 0, none⟩ = some (.int .i64 9541) := hdrB.cell r254 (by omega) (fun e => by have e3 : g2 = gA := Option.some.inj e; omega)
      have r273 : wB.cell? ⟨g2, 1, none⟩ = some (.int .i64 (-9541)) := hdrB.cell r255 (by omega) (fun e => by have e3 : g2 = gA := Option.some.inj e; omega)
      have r274 : wB.cell? ⟨g2, 2, none⟩ = some (.int .i64 9541) := hdrB.cell r256 (by omega) (fun e => by have e3 : g2 = gA := Option.some.inj e; omega)
      have r275 : wB.cell? ⟨g2, 3, none⟩ = some (.int .i64 113400000) := hdrB.cell r257 (by omega) (fun e => by have e3 : g2 = gA := Option.some.inj e; omega)
      have r276 : wB.cell? ⟨g2, 4, none⟩ = some (.int .i64 16200000) := hdrB.cell r258 (by omega) (fun e => by have e3 : g2 = gA := Option.some.inj e; omega)
      clear r241 r242 r243 r244 r245 r246 r247 r248 r249 r250 r251 r252 r253 r254 r255 r256 r257 r258
      have hsB := hdrB.size
      go_wp2_with fail
      refine (arc_new base D _ 2794 (-2794) false 9541 _ 9541 (-9541) 9541 113400000 16200000 9541 0 2 7493 _ (by decide) aw27_len2 (by decide) HDB.out).mono ?_
      rintro e wC ⟨gC, cC, rfl, hgC, hdC, hdrC⟩
      have hgC2 : wv.heap.size ≤ gC := by
        rcases hgC with h | h
        · injection h with h
          have h3 : gB = gC := h
          omega
        · omega
      have HDC := hide hdC
      clear hdC hgC
      have hD1 : Drawn w wv D none := Drawn.of_below Bwv D none
      have hD2 := hD1.trans hdrA (.inl rfl)
      have hD3 := hD2.trans hdrB (.inr (fun j e => by injection e with e; have e3 : gA = j := e; omega))
      have hD4 := hide (hD3.trans hdrC (.inr (fun j e => by injection e with e; have e3 : gB = j := e; omega)))
      clear hD1 hD2 hD3 hdrA hdrB hdrC
      go_wp2_with fail
      all_goals
        go_ret
        exact ⟨gC, cC, rfl, by omega, HDC.out, hD4.out⟩
end Go.Proofs.YtapgmnjpfcohhaaGreatDoor
