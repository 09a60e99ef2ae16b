/-
  The walks of FlyBy.
-/
import Derived.Test.YtapgmnjpfcohhaaGreatDoorMFixed
import Derived.Test.YtapgmnjpfcohhaaGreatDoorMFrame
import Derived.Test.YtapgmnjpfcohhaaGreatDoorMGeo
import Derived.Test.YtapgmnjpfcohhaaGreatDoorMLaws
import Derived.Test.YtapgmnjpfcohhaaGreatDoorMLawsT
import Derived.Test.YtapgmnjpfcohhaaGreatDoorMLineA
import Derived.Test.YtapgmnjpfcohhaaGreatDoorMLineD
import Derived.Test.YtapgmnjpfcohhaaGreatDoorMPathM
import Derived.Test.YtapgmnjpfcohhaaGreatDoorMPlain
import Derived.Test.YtapgmnjpfcohhaaGreatDoorMScale
import Derived.Test.YtapgmnjpfcohhaaGreatDoorMTrig
import Derived.Test.YtapgmnjpfcohhaaGreatDoorMTurnA
import Derived.Deep.DeepCutAuto
import Derived.Below
import Derived.Deep.RegionHeld3
import Derived.Test.YtapgmnjpfcohhaaGreatDoorProg
import Derived.WalkSpells
import Derived.WalkLawsBesides
import Derived.Deep.QuietTactic
import Derived.BigQuiet
import Derived.Lib.ItoaNum
import Derived.Shelf.Small.Bits
import Derived.Shelf.Strconv.Itoa0
import Derived.Shelf.Bits.Mul64
import Derived.Shelf.Spec.BitsCarry
import Derived.WalkKit
import Derived.ProofKit
import Derived.OpenShut
import Derived.ChangeSame
import Derived.Test.YtapgmnjpfcohhaaGreatDoorRows
import Derived.Laws.BitsAllLaws
namespace Go.Proofs.YtapgmnjpfcohhaaGreatDoor
open Go.RowKit
set_option linter.unusedVariables false
set_option linter.unusedSimpArgs false

theorem course_ne' {ax ay bx b_y : Int} (h1 : vldB ax ay = true) (h2 : vldB bx b_y = true) (h : ¬ (ax = bx ∧ ay = b_y)) : (courseF ax ay bx b_y).2 = 0 := by
  rw [course_off h1 h2 h]
def MineC5 (W : World) (b i : Nat) : Prop := W.cell? ⟨b, i, none⟩ = some (cellV W ⟨b, i, none⟩) ∧ W.frozen? ⟨b, i, none⟩ = false









set_option maxRecDepth 100000 in
set_option maxHeartbeats 4000000 in
theorem fly_good (ax ay bx b_y cx cy r : Int) (hr : I64 r) (w : World) (v0 v1 v2 v3 v4 v5 v6 v7 v8 v9 e0 : Int)
    (h0 : vldB ax ay = true) (h1 : vldB bx b_y = true) (h2 : vldB cx cy = true) (h3 : ¬ (r < 1 ∨ r > 8000000)) (h4 : ¬ (ax = bx ∧ ay = b_y)) (h5 : ¬ (bx = cx ∧ b_y = cy))
    (he0 : Hid (e0 = 0)) (hR : ([v0, v1, v2, v3, v4, v5, v6, v7, v8, v9], e0) = flyF ax ay bx b_y cx cy r) :
    Calls Tryz.prog 135 #[.agg #[.int .i64 ax, .int .i64 ay], .agg #[.int .i64 bx, .int .i64 b_y], .agg #[.int .i64 cx, .int .i64 cy], .int .i64 r] w fun e w' => e = .returned (.tuple #[.agg #[.int .i64 v0, .int .i64 v1, .int .i64 v2, .int .i64 v3, .int .i64 v4, .int .i64 v5, .int .i64 v6, .int .i64 v7, .int .i64 v8, .int .i64 v9], .int .i64 e0]) ∧ Below w.heap.size w w' := by
  have PV0 := fun W => pvalid_e ax ay true h0 W
  have PV1 := fun W => pvalid_e bx b_y true h1 W
  have PV2 := fun W => pvalid_e cx cy true h2 W
  have CA := fun W => course_any ax ay bx b_y W
  have CB := fun W => course_any bx b_y cx cy W
  rw [fly_in h0 h1 h2 h3 h4 h5] at hR
  have cb1 := courseF_bd ax ay bx b_y
  have cb2 := courseF_bd bx b_y cx cy
  rw [course_ne' h0 h1 h4] at CA
  rw [course_ne' h1 h2 h5] at CB
  clear h0 h1 h2 h4 h5
  generalize (courseF ax ay bx b_y).1 = x at *
  generalize (courseF bx b_y cx cy).1 = y at *
  have DF := fun W => diff_any x y (by unfold I64; omega) (by unfold I64; omega) W
  have dd := diffF_bd x y
  obtain ⟨d, hd⟩ : ∃ d, d = diffF x y := ⟨_, rfl⟩
  rw [← hd] at DF dd
  have AB := fun W => abs_any d (by unfold I64; omega) (by omega) W
  by_cases h6 : 54000000 < d.natAbs
  · rw [flyGo_far hd h6] at hR
    exact absurd (he0.out.symm.trans (congrArg Prod.snd hR)) (show ¬ (0 : Int) = 10 by decide)
  obtain ⟨l, hl⟩ : ∃ l, l = leadF r d := ⟨_, rfl⟩
  obtain ⟨md, l0, l1⟩ := lead_md (by omega) (by omega) (by omega) hl
  have sb := Sin_bd ((d.natAbs : Int) / 2)
  have cb := Cos_bd ((d.natAbs : Int) / 2)
  have SN := fun W => Sin_any ((d.natAbs : Int) / 2) (by unfold I64; omega) W
  have CN := fun W => Cos_any ((d.natAbs : Int) / 2) (by unfold I64; omega) W
  have MU := fun W => muldivup_any r (Sin ((d.natAbs : Int) / 2)) (Cos ((d.natAbs : Int) / 2)) hr (by unfold I64; omega) (by unfold I64; omega) W
  rw [md] at MU
  have DA := fun W => dist_any ax ay bx b_y W
  have DB := fun W => dist_any bx b_y cx cy W
  have dm := distF_bd ax ay bx b_y
  have dn := distF_bd bx b_y cx cy
  have h6' : (d.natAbs : Int) ≤ 54000000 := by omega
  have k0 : 0 ≤ (d.natAbs : Int) := by omega
  have HW := fun h7 => flyGo_lead (bx := bx) (b_y := b_y) (x := x) (y := y) (r := r) (m := distF ax ay bx b_y) (n := distF bx b_y cx cy) hd h6 hl h7
  have HX := fun sx sy e1 ex ey e2 kx ky e3 h7 => @flyGo_rest bx b_y x y r (distF ax ay bx b_y) (distF bx b_y cx cy) d l sx sy e1 ex ey e2 kx ky e3 hd h6 hl h7
  generalize distF ax ay bx b_y = m at *
  generalize distF bx b_y cx cy = n at *
  by_cases h7 : l > m ∨ l > n
  · rw [HW h7] at hR
    exact absurd (he0.out.symm.trans (congrArg Prod.snd hR)) (show ¬ (0 : Int) = 10 by decide)
  obtain ⟨Y1, hY1⟩ : ∃ Y, Y = rayF bx b_y (turnF x 64800000) l := ⟨_, rfl⟩
  obtain ⟨sx, sy, e1⟩ := Y1
  obtain ⟨Y2, hY2⟩ : ∃ Y, Y = rayF bx b_y y l := ⟨_, rfl⟩
  obtain ⟨ex, ey, e2⟩ := Y2
  obtain ⟨Y3, hY3⟩ : ∃ Y, Y = rayF sx sy (turnF x (sideOf d 32400000)) r := ⟨_, rfl⟩
  obtain ⟨kx, ky, e3⟩ := Y3
  rw [HX sx sy e1 ex ey e2 kx ky e3 h7 hY1 hY2 hY3] at hR
  have hq : -32400000 ≤ sideOf d 32400000 ∧ sideOf d 32400000 ≤ 32400000 := by unfold sideOf; split <;> omega
  have t1 := turnF_bd x 64800000
  have t2 := turnF_bd x (sideOf d 32400000)
  have OP := fun W => opposite_any x (by unfold I64; omega) W
  have RS := fun W => ray_any bx b_y (turnF x 64800000) l (by unfold I64; omega) (by unfold I64; omega) W _ hY1
  have RE := fun W => ray_any bx b_y y l (by unfold I64; omega) (by unfold I64; omega) W _ hY2
  have RC := fun W => ray_any sx sy (turnF x (sideOf d 32400000)) r (by unfold I64; omega) (by unfold I64; omega) W _ hY3
  have SQ := fun W => tside_any 0 0 r 0 d 32400000 (by omega) (by omega) W
  have TF := fun W => turn_any x (-sideOf d 32400000) (by unfold I64; omega) (by unfold I64; omega) W
  have TC := fun W => turn_any x (sideOf d 32400000) (by unfold I64; omega) (by unfold I64; omega) W
  have hm : ¬ l > m := fun h => h7 (.inl h)
  have hn : ¬ l > n := fun h => h7 (.inr h)
  clear HW HX hY1 hY2 hY3 hd hl md h7 h6
  generalize turnF x (-sideOf d 32400000) = fr at *
  generalize turnF x (sideOf d 32400000) = tc at *
  generalize turnF x 64800000 = xo at *
  generalize sideOf d 32400000 = q at *
  generalize Sin ((d.natAbs : Int) / 2) = S at *
  generalize Cos ((d.natAbs : Int) / 2) = C at *
  generalize (d.natAbs : Int) = k at *
  go_enter Tryz.func135, Tryz.ntmps135
  go_wp2_with fail
  refine (PV0 _).mono ?_
  rintro e w1 ⟨rfl, hb1⟩
  obtain ⟨f1, f2, f3, f4, f5, f6⟩ : w1.cell? ⟨w.heap.size, 0, none⟩ = some (.int .i64 ax) ∧ w1.cell? ⟨w.heap.size, 1, none⟩ = some (.int .i64 ay) ∧ w1.cell? ⟨w.heap.size + 1, 0, none⟩ = some (.int .i64 bx) ∧ w1.cell? ⟨w.heap.size + 1, 1, none⟩ = some (.int .i64 b_y) ∧ w1.cell? ⟨w.heap.size + 1 + 1, 0, none⟩ = some (.int .i64 cx) ∧ w1.cell? ⟨w.heap.size + 1 + 1, 1, none⟩ = some (.int .i64 cy) := by
    refine ⟨?_, ?_, ?_, ?_, ?_, ?_⟩ <;> (refine cell_below hb1 ?_; repeat (first | (with_reducible assumption) | ((with_reducible refine cell_set ?_ ?_ _); (· first | (simp; done) | (simp; omega) | omega)) | ((with_reducible refine cell_new ?_ ?_); (· (simp; done)); (· rfl)) | (with_reducible refine cell_alloc ?_ _) | (with_reducible refine cell_drew ?_) | (with_reducible refine cell_drewN ?_ _) | (with_reducible refine cell_below (by assumption) ?_)))
  have zf1 : w.heap.size < w1.heap.size := World.block_lt_of_cell? _ _ f1
  have zf3 : w.heap.size + 1 < w1.heap.size := World.block_lt_of_cell? _ _ f3
  have zf5 : w.heap.size + 1 + 1 < w1.heap.size := World.block_lt_of_cell? _ _ f5
  obtain ⟨⟨m7a, m7b⟩, ⟨m8a, m8b⟩, ⟨m9a, m9b⟩, ⟨m10a, m10b⟩, ⟨m11a, m11b⟩, ⟨m12a, m12b⟩, ⟨m13a, m13b⟩, ⟨m14a, m14b⟩, ⟨m15a, m15b⟩, ⟨m16a, m16b⟩⟩ : MineC5 w1 (w.heap.size + 1 + 1 + 1) 0 ∧ MineC5 w1 (w.heap.size + 1 + 1 + 1) 1 ∧ MineC5 w1 (w.heap.size + 1 + 1 + 1) 2 ∧ MineC5 w1 (w.heap.size + 1 + 1 + 1) 3 ∧ MineC5 w1 (w.heap.size + 1 + 1 + 1) 4 ∧ MineC5 w1 (w.heap.size + 1 + 1 + 1) 5 ∧ MineC5 w1 (w.heap.size + 1 + 1 + 1) 6 ∧ MineC5 w1 (w.heap.size + 1 + 1 + 1) 7 ∧ MineC5 w1 (w.heap.size + 1 + 1 + 1) 8 ∧ MineC5 w1 (w.heap.size + 1 + 1 + 1) 9 := by
    refine ⟨?_, ?_, ?_, ?_, ?_, ?_, ?_, ?_, ?_, ?_⟩ <;> (refine mine_below hb1 (mine_of (v := .int .i64 0) ?_ ?_) <;> simp [go_sem])
  have zm7 : w.heap.size + 1 + 1 + 1 < w1.heap.size := World.block_lt_of_cell? _ _ m7a
  go_wp2_with fail
  refine (PV1 _).mono ?_
  rintro e w2 ⟨rfl, hb2⟩
  obtain ⟨f17, f18, f19, f20, f21, f22⟩ : w2.cell? ⟨w.heap.size, 0, none⟩ = some (.int .i64 ax) ∧ w2.cell? ⟨w.heap.size, 1, none⟩ = some (.int .i64 ay) ∧ w2.cell? ⟨w.heap.size + 1, 0, none⟩ = some (.int .i64 bx) ∧ w2.cell? ⟨w.heap.size + 1, 1, none⟩ = some (.int .i64 b_y) ∧ w2.cell? ⟨w.heap.size + 1 + 1, 0, none⟩ = some (.int .i64 cx) ∧ w2.cell? ⟨w.heap.size + 1 + 1, 1, none⟩ = some (.int .i64 cy) := by
    refine ⟨?_, ?_, ?_, ?_, ?_, ?_⟩ <;> (refine cell_below hb2 ?_; repeat (first | (with_reducible assumption) | ((with_reducible refine cell_set ?_ ?_ _); (· first | (simp; done) | (simp; omega) | omega)) | ((with_reducible refine cell_new ?_ ?_); (· (simp; done)); (· rfl)) | (with_reducible refine cell_alloc ?_ _) | (with_reducible refine cell_drew ?_) | (with_reducible refine cell_drewN ?_ _) | (with_reducible refine cell_below (by assumption) ?_)))
  have zf17 : w.heap.size < w2.heap.size := World.block_lt_of_cell? _ _ f17
  have zf19 : w.heap.size + 1 < w2.heap.size := World.block_lt_of_cell? _ _ f19
  have zf21 : w.heap.size + 1 + 1 < w2.heap.size := World.block_lt_of_cell? _ _ f21
  obtain ⟨⟨m23a, m23b⟩, ⟨m24a, m24b⟩, ⟨m25a, m25b⟩, ⟨m26a, m26b⟩, ⟨m27a, m27b⟩, ⟨m28a, m28b⟩, ⟨m29a, m29b⟩, ⟨m30a, m30b⟩, ⟨m31a, m31b⟩, ⟨m32a, m32b⟩⟩ : MineC5 w2 (w.heap.size + 1 + 1 + 1) 0 ∧ MineC5 w2 (w.heap.size + 1 + 1 + 1) 1 ∧ MineC5 w2 (w.heap.size + 1 + 1 + 1) 2 ∧ MineC5 w2 (w.heap.size + 1 + 1 + 1) 3 ∧ MineC5 w2 (w.heap.size + 1 + 1 + 1) 4 ∧ MineC5 w2 (w.heap.size + 1 + 1 + 1) 5 ∧ MineC5 w2 (w.heap.size + 1 + 1 + 1) 6 ∧ MineC5 w2 (w.heap.size + 1 + 1 + 1) 7 ∧ MineC5 w2 (w.heap.size + 1 + 1 + 1) 8 ∧ MineC5 w2 (w.heap.size + 1 + 1 + 1) 9 := by
    refine ⟨?_, ?_, ?_, ?_, ?_, ?_, ?_, ?_, ?_, ?_⟩ <;> (refine mine_below hb2 ?_; repeat (first | (refine ⟨?_, ?_⟩ <;> (with_reducible assumption)) | (with_reducible refine mine_alloc ?_ _) | (with_reducible refine mine_set ?_ _ _) | (with_reducible refine mine_drew ?_) | (with_reducible refine mine_drewN ?_ _) | (with_reducible refine mine_below (by assumption) ?_)))
  have zm23 : w.heap.size + 1 + 1 + 1 < w2.heap.size := World.block_lt_of_cell? _ _ m23a
  clear f1 zf1 f2 f3 zf3 f4 f5 zf5 f6 m7a m7b zm7 m8a m8b m9a m9b m10a m10b m11a m11b m12a m12b m13a m13b m14a m14b m15a m15b m16a m16b
  go_wp2_with fail
  refine (PV2 _).mono ?_
  rintro e w3 ⟨rfl, hb3⟩
  obtain ⟨f33, f34, f35, f36, f37, f38⟩ : w3.cell? ⟨w.heap.size, 0, none⟩ = some (.int .i64 ax) ∧ w3.cell? ⟨w.heap.size, 1, none⟩ = some (.int .i64 ay) ∧ w3.cell? ⟨w.heap.size + 1, 0, none⟩ = some (.int .i64 bx) ∧ w3.cell? ⟨w.heap.size + 1, 1, none⟩ = some (.int .i64 b_y) ∧ w3.cell? ⟨w.heap.size + 1 + 1, 0, none⟩ = some (.int .i64 cx) ∧ w3.cell? ⟨w.heap.size + 1 + 1, 1, none⟩ = some (.int .i64 cy) := by
    refine ⟨?_, ?_, ?_, ?_, ?_, ?_⟩ <;> (refine cell_below hb3 ?_; repeat (first | (with_reducible assumption) | ((with_reducible refine cell_set ?_ ?_ _); (· first | (simp; done) | (simp; omega) | omega)) | ((with_reducible refine cell_new ?_ ?_); (· (simp; done)); (· rfl)) | (with_reducible refine cell_alloc ?_ _) | (with_reducible refine cell_drew ?_) | (with_reducible refine cell_drewN ?_ _) | (with_reducible refine cell_below (by assumption) ?_)))
  have zf33 : w.heap.size < w3.heap.size := World.block_lt_of_cell? _ _ f33
  have zf35 : w.heap.size + 1 < w3.heap.size := World.block_lt_of_cell? _ _ f35
  have zf37 : w.heap.size + 1 + 1 < w3.heap.size := World.block_lt_of_cell? _ _ f37
  obtain ⟨⟨m39a, m39b⟩, ⟨m40a, m40b⟩, ⟨m41a, m41b⟩, ⟨m42a, m42b⟩, ⟨m43a, m43b⟩, ⟨m44a, m44b⟩, ⟨m45a, m45b⟩, ⟨m46a, m46b⟩, ⟨m47a, m47b⟩, ⟨m48a, m48b⟩⟩ : MineC5 w3 (w.heap.size + 1 + 1 + 1) 0 ∧ MineC5 w3 (w.heap.size + 1 + 1 + 1) 1 ∧ MineC5 w3 (w.heap.size + 1 + 1 + 1) 2 ∧ MineC5 w3 (w.heap.size + 1 + 1 + 1) 3 ∧ MineC5 w3 (w.heap.size + 1 + 1 + 1) 4 ∧ MineC5 w3 (w.heap.size + 1 + 1 + 1) 5 ∧ MineC5 w3 (w.heap.size + 1 + 1 + 1) 6 ∧ MineC5 w3 (w.heap.size + 1 + 1 + 1) 7 ∧ MineC5 w3 (w.heap.size + 1 + 1 + 1) 8 ∧ MineC5 w3 (w.heap.size + 1 + 1 + 1) 9 := by
    refine ⟨?_, ?_, ?_, ?_, ?_, ?_, ?_, ?_, ?_, ?_⟩ <;> (refine mine_below hb3 ?_; repeat (first | (refine ⟨?_, ?_⟩ <;> (with_reducible assumption)) | (with_reducible refine mine_alloc ?_ _) | (with_reducible refine mine_set ?_ _ _) | (with_reducible refine mine_drew ?_) | (with_reducible refine mine_drewN ?_ _) | (with_reducible refine mine_below (by assumption) ?_)))
  have zm39 : w.heap.size + 1 + 1 + 1 < w3.heap.size := World.block_lt_of_cell? _ _ m39a
  clear f17 zf17 f18 f19 zf19 f20 f21 zf21 f22 m23a m23b zm23 m24a m24b m25a m25b m26a m26b m27a m27b m28a m28b m29a m29b m30a m30b m31a m31b m32a m32b
  go_wp2_with fail
  refine (CA _).mono ?_
  rintro e w4 ⟨rfl, hb4⟩
  obtain ⟨f49, f50, f51, f52, f53, f54⟩ : w4.cell? ⟨w.heap.size, 0, none⟩ = some (.int .i64 ax) ∧ w4.cell? ⟨w.heap.size, 1, none⟩ = some (.int .i64 ay) ∧ w4.cell? ⟨w.heap.size + 1, 0, none⟩ = some (.int .i64 bx) ∧ w4.cell? ⟨w.heap.size + 1, 1, none⟩ = some (.int .i64 b_y) ∧ w4.cell? ⟨w.heap.size + 1 + 1, 0, none⟩ = some (.int .i64 cx) ∧ w4.cell? ⟨w.heap.size + 1 + 1, 1, none⟩ = some (.int .i64 cy) := by
    refine ⟨?_, ?_, ?_, ?_, ?_, ?_⟩ <;> (refine cell_below hb4 ?_; repeat (first | (with_reducible assumption) | ((with_reducible refine cell_set ?_ ?_ _); (· first | (simp; done) | (simp; omega) | omega)) | ((with_reducible refine cell_new ?_ ?_); (· (simp; done)); (· rfl)) | (with_reducible refine cell_alloc ?_ _) | (with_reducible refine cell_drew ?_) | (with_reducible refine cell_drewN ?_ _) | (with_reducible refine cell_below (by assumption) ?_)))
  have zf49 : w.heap.size < w4.heap.size := World.block_lt_of_cell? _ _ f49
  have zf51 : w.heap.size + 1 < w4.heap.size := World.block_lt_of_cell? _ _ f51
  have zf53 : w.heap.size + 1 + 1 < w4.heap.size := World.block_lt_of_cell? _ _ f53
  obtain ⟨⟨m55a, m55b⟩, ⟨m56a, m56b⟩, ⟨m57a, m57b⟩, ⟨m58a, m58b⟩, ⟨m59a, m59b⟩, ⟨m60a, m60b⟩, ⟨m61a, m61b⟩, ⟨m62a, m62b⟩, ⟨m63a, m63b⟩, ⟨m64a, m64b⟩⟩ : MineC5 w4 (w.heap.size + 1 + 1 + 1) 0 ∧ MineC5 w4 (w.heap.size + 1 + 1 + 1) 1 ∧ MineC5 w4 (w.heap.size + 1 + 1 + 1) 2 ∧ MineC5 w4 (w.heap.size + 1 + 1 + 1) 3 ∧ MineC5 w4 (w.heap.size + 1 + 1 + 1) 4 ∧ MineC5 w4 (w.heap.size + 1 + 1 + 1) 5 ∧ MineC5 w4 (w.heap.size + 1 + 1 + 1) 6 ∧ MineC5 w4 (w.heap.size + 1 + 1 + 1) 7 ∧ MineC5 w4 (w.heap.size + 1 + 1 + 1) 8 ∧ MineC5 w4 (w.heap.size + 1 + 1 + 1) 9 := by
    refine ⟨?_, ?_, ?_, ?_, ?_, ?_, ?_, ?_, ?_, ?_⟩ <;> (refine mine_below hb4 ?_; repeat (first | (refine ⟨?_, ?_⟩ <;> (with_reducible assumption)) | (with_reducible refine mine_alloc ?_ _) | (with_reducible refine mine_set ?_ _ _) | (with_reducible refine mine_drew ?_) | (with_reducible refine mine_drewN ?_ _) | (with_reducible refine mine_below (by assumption) ?_)))
  have zm55 : w.heap.size + 1 + 1 + 1 < w4.heap.size := World.block_lt_of_cell? _ _ m55a
  clear f33 zf33 f34 f35 zf35 f36 f37 zf37 f38 m39a m39b zm39 m40a m40b m41a m41b m42a m42b m43a m43b m44a m44b m45a m45b m46a m46b m47a m47b m48a m48b
  go_wp2_with fail
  refine (CB _).mono ?_
  rintro e w5 ⟨rfl, hb5⟩
  obtain ⟨f65, f66, f67, f68, f69, f70⟩ : w5.cell? ⟨w.heap.size, 0, none⟩ = some (.int .i64 ax) ∧ w5.cell? ⟨w.heap.size, 1, none⟩ = some (.int .i64 ay) ∧ w5.cell? ⟨w.heap.size + 1, 0, none⟩ = some (.int .i64 bx) ∧ w5.cell? ⟨w.heap.size + 1, 1, none⟩ = some (.int .i64 b_y) ∧ w5.cell? ⟨w.heap.size + 1 + 1, 0, none⟩ = some (.int .i64 cx) ∧ w5.cell? ⟨w.heap.size + 1 + 1, 1, none⟩ = some (.int .i64 cy) := by
    refine ⟨?_, ?_, ?_, ?_, ?_, ?_⟩ <;> (refine cell_below hb5 ?_; repeat (first | (with_reducible assumption) | ((with_reducible refine cell_set ?_ ?_ _); (· first | (simp; done) | (simp; omega) | omega)) | ((with_reducible refine cell_new ?_ ?_); (· (simp; done)); (· rfl)) | (with_reducible refine cell_alloc ?_ _) | (with_reducible refine cell_drew ?_) | (with_reducible refine cell_drewN ?_ _) | (with_reducible refine cell_below (by assumption) ?_)))
  have zf65 : w.heap.size < w5.heap.size := World.block_lt_of_cell? _ _ f65
  have zf67 : w.heap.size + 1 < w5.heap.size := World.block_lt_of_cell? _ _ f67
  have zf69 : w.heap.size + 1 + 1 < w5.heap.size := World.block_lt_of_cell? _ _ f69
  obtain ⟨⟨m71a, m71b⟩, ⟨m72a, m72b⟩, ⟨m73a, m73b⟩, ⟨m74a, m74b⟩, ⟨m75a, m75b⟩, ⟨m76a, m76b⟩, ⟨m77a, m77b⟩, ⟨m78a, m78b⟩, ⟨m79a, m79b⟩, ⟨m80a, m80b⟩⟩ : MineC5 w5 (w.heap.size + 1 + 1 + 1) 0 ∧ MineC5 w5 (w.heap.size + 1 + 1 + 1) 1 ∧ MineC5 w5 (w.heap.size + 1 + 1 + 1) 2 ∧ MineC5 w5 (w.heap.size + 1 + 1 + 1) 3 ∧ MineC5 w5 (w.heap.size + 1 + 1 + 1) 4 ∧ MineC5 w5 (w.heap.size + 1 + 1 + 1) 5 ∧ MineC5 w5 (w.heap.size + 1 + 1 + 1) 6 ∧ MineC5 w5 (w.heap.size + 1 + 1 + 1) 7 ∧ MineC5 w5 (w.heap.size + 1 + 1 + 1) 8 ∧ MineC5 w5 (w.heap.size + 1 + 1 + 1) 9 := by
    refine ⟨?_, ?_, ?_, ?_, ?_, ?_, ?_, ?_, ?_, ?_⟩ <;> (refine mine_below hb5 ?_; repeat (first | (refine ⟨?_, ?_⟩ <;> (with_reducible assumption)) | (with_reducible refine mine_alloc ?_ _) | (with_reducible refine mine_set ?_ _ _) | (with_reducible refine mine_drew ?_) | (with_reducible refine mine_drewN ?_ _) | (with_reducible refine mine_below (by assumption) ?_)))
  have zm71 : w.heap.size + 1 + 1 + 1 < w5.heap.size := World.block_lt_of_cell? _ _ m71a
  clear f49 zf49 f50 f51 zf51 f52 f53 zf53 f54 m55a m55b zm55 m56a m56b m57a m57b m58a m58b m59a m59b m60a m60b m61a m61b m62a m62b m63a m63b m64a m64b
  go_wp2_with (first
    | (go_at_call 132; refine (DF _).mono ?_; rintro e w' ⟨rfl, rfl⟩)
    | (go_at_call 50; refine (AB _).mono ?_; rintro e w' ⟨rfl, rfl⟩)
    | (go_at_call 64; refine (SN _).mono ?_; rintro e w' ⟨rfl, rfl⟩)
    | (go_at_call 65; refine (CN _).mono ?_; rintro e w' ⟨rfl, rfl⟩)
    | (go_at_call 81; refine (MU _).mono ?_; rintro e w' ⟨rfl, n1, rfl⟩))
  go_wp2_with fail
  refine (DA _).mono ?_
  rintro e w6 ⟨rfl, hb6⟩
  obtain ⟨f81, f82, f83, f84, f85, f86⟩ : w6.cell? ⟨w.heap.size, 0, none⟩ = some (.int .i64 ax) ∧ w6.cell? ⟨w.heap.size, 1, none⟩ = some (.int .i64 ay) ∧ w6.cell? ⟨w.heap.size + 1, 0, none⟩ = some (.int .i64 bx) ∧ w6.cell? ⟨w.heap.size + 1, 1, none⟩ = some (.int .i64 b_y) ∧ w6.cell? ⟨w.heap.size + 1 + 1, 0, none⟩ = some (.int .i64 cx) ∧ w6.cell? ⟨w.heap.size + 1 + 1, 1, none⟩ = some (.int .i64 cy) := by
    refine ⟨?_, ?_, ?_, ?_, ?_, ?_⟩ <;> (refine cell_below hb6 ?_; repeat (first | (with_reducible assumption) | ((with_reducible refine cell_set ?_ ?_ _); (· first | (simp; done) | (simp; omega) | omega)) | ((with_reducible refine cell_new ?_ ?_); (· (simp; done)); (· rfl)) | (with_reducible refine cell_alloc ?_ _) | (with_reducible refine cell_drew ?_) | (with_reducible refine cell_drewN ?_ _) | (with_reducible refine cell_below (by assumption) ?_)))
  have zf81 : w.heap.size < w6.heap.size := World.block_lt_of_cell? _ _ f81
  have zf83 : w.heap.size + 1 < w6.heap.size := World.block_lt_of_cell? _ _ f83
  have zf85 : w.heap.size + 1 + 1 < w6.heap.size := World.block_lt_of_cell? _ _ f85
  obtain ⟨⟨m87a, m87b⟩, ⟨m88a, m88b⟩, ⟨m89a, m89b⟩, ⟨m90a, m90b⟩, ⟨m91a, m91b⟩, ⟨m92a, m92b⟩, ⟨m93a, m93b⟩, ⟨m94a, m94b⟩, ⟨m95a, m95b⟩, ⟨m96a, m96b⟩⟩ : MineC5 w6 (w.heap.size + 1 + 1 + 1) 0 ∧ MineC5 w6 (w.heap.size + 1 + 1 + 1) 1 ∧ MineC5 w6 (w.heap.size + 1 + 1 + 1) 2 ∧ MineC5 w6 (w.heap.size + 1 + 1 + 1) 3 ∧ MineC5 w6 (w.heap.size + 1 + 1 + 1) 4 ∧ MineC5 w6 (w.heap.size + 1 + 1 + 1) 5 ∧ MineC5 w6 (w.heap.size + 1 + 1 + 1) 6 ∧ MineC5 w6 (w.heap.size + 1 + 1 + 1) 7 ∧ MineC5 w6 (w.heap.size + 1 + 1 + 1) 8 ∧ MineC5 w6 (w.heap.size + 1 + 1 + 1) 9 := by
    refine ⟨?_, ?_, ?_, ?_, ?_, ?_, ?_, ?_, ?_, ?_⟩ <;> (refine mine_below hb6 ?_; repeat (first | (refine ⟨?_, ?_⟩ <;> (with_reducible assumption)) | (with_reducible refine mine_alloc ?_ _) | (with_reducible refine mine_set ?_ _ _) | (with_reducible refine mine_drew ?_) | (with_reducible refine mine_drewN ?_ _) | (with_reducible refine mine_below (by assumption) ?_)))
  have zm87 : w.heap.size + 1 + 1 + 1 < w6.heap.size := World.block_lt_of_cell? _ _ m87a
  clear f65 zf65 f66 f67 zf67 f68 f69 zf69 f70 m71a m71b zm71 m72a m72b m73a m73b m74a m74b m75a m75b m76a m76b m77a m77b m78a m78b m79a m79b m80a m80b
  go_wp2_with fail
  refine (DB _).mono ?_
  rintro e w7 ⟨rfl, hb7⟩
  obtain ⟨f97, f98, f99, f100, f101, f102⟩ : w7.cell? ⟨w.heap.size, 0, none⟩ = some (.int .i64 ax) ∧ w7.cell? ⟨w.heap.size, 1, none⟩ = some (.int .i64 ay) ∧ w7.cell? ⟨w.heap.size + 1, 0, none⟩ = some (.int .i64 bx) ∧ w7.cell? ⟨w.heap.size + 1, 1, none⟩ = some (.int .i64 b_y) ∧ w7.cell? ⟨w.heap.size + 1 + 1, 0, none⟩ = some (.int .i64 cx) ∧ w7.cell? ⟨w.heap.size + 1 + 1, 1, none⟩ = some (.int .i64 cy) := by
    refine ⟨?_, ?_, ?_, ?_, ?_, ?_⟩ <;> (refine cell_below hb7 ?_; repeat (first | (with_reducible assumption) | ((with_reducible refine cell_set ?_ ?_ _); (· first | (simp; done) | (simp; omega) | omega)) | ((with_reducible refine cell_new ?_ ?_); (· (simp; done)); (· rfl)) | (with_reducible refine cell_alloc ?_ _) | (with_reducible refine cell_drew ?_) | (with_reducible refine cell_drewN ?_ _) | (with_reducible refine cell_below (by assumption) ?_)))
  have zf97 : w.heap.size < w7.heap.size := World.block_lt_of_cell? _ _ f97
  have zf99 : w.heap.size + 1 < w7.heap.size := World.block_lt_of_cell? _ _ f99
  have zf101 : w.heap.size + 1 + 1 < w7.heap.size := World.block_lt_of_cell? _ _ f101
  obtain ⟨⟨m103a, m103b⟩, ⟨m104a, m104b⟩, ⟨m105a, m105b⟩, ⟨m106a, m106b⟩, ⟨m107a, m107b⟩, ⟨m108a, m108b⟩, ⟨m109a, m109b⟩, ⟨m110a, m110b⟩, ⟨m111a, m111b⟩, ⟨m112a, m112b⟩⟩ : MineC5 w7 (w.heap.size + 1 + 1 + 1) 0 ∧ MineC5 w7 (w.heap.size + 1 + 1 + 1) 1 ∧ MineC5 w7 (w.heap.size + 1 + 1 + 1) 2 ∧ MineC5 w7 (w.heap.size + 1 + 1 + 1) 3 ∧ MineC5 w7 (w.heap.size + 1 + 1 + 1) 4 ∧ MineC5 w7 (w.heap.size + 1 + 1 + 1) 5 ∧ MineC5 w7 (w.heap.size + 1 + 1 + 1) 6 ∧ MineC5 w7 (w.heap.size + 1 + 1 + 1) 7 ∧ MineC5 w7 (w.heap.size + 1 + 1 + 1) 8 ∧ MineC5 w7 (w.heap.size + 1 + 1 + 1) 9 := by
    refine ⟨?_, ?_, ?_, ?_, ?_, ?_, ?_, ?_, ?_, ?_⟩ <;> (refine mine_below hb7 ?_; repeat (first | (refine ⟨?_, ?_⟩ <;> (with_reducible assumption)) | (with_reducible refine mine_alloc ?_ _) | (with_reducible refine mine_set ?_ _ _) | (with_reducible refine mine_drew ?_) | (with_reducible refine mine_drewN ?_ _) | (with_reducible refine mine_below (by assumption) ?_)))
  have zm103 : w.heap.size + 1 + 1 + 1 < w7.heap.size := World.block_lt_of_cell? _ _ m103a
  clear f81 zf81 f82 f83 zf83 f84 f85 zf85 f86 m87a m87b zm87 m88a m88b m89a m89b m90a m90b m91a m91b m92a m92b m93a m93b m94a m94b m95a m95b m96a m96b
  have y113 : w.heap.size < w7.heap.size := by omega
  have y114 : w.heap.size + 1 < w7.heap.size := by omega
  have y115 : w.heap.size + 1 + 1 < w7.heap.size := by omega
  have y116 : w.heap.size + 1 + 1 + 1 < w7.heap.size := by omega
  go_wp2_with fail
  refine (SQ _).mono ?_
  rintro e w8 ⟨rfl, hb8⟩
  obtain ⟨f117, f118, f119, f120, f121, f122⟩ : w8.cell? ⟨w.heap.size, 0, none⟩ = some (.int .i64 ax) ∧ w8.cell? ⟨w.heap.size, 1, none⟩ = some (.int .i64 ay) ∧ w8.cell? ⟨w.heap.size + 1, 0, none⟩ = some (.int .i64 bx) ∧ w8.cell? ⟨w.heap.size + 1, 1, none⟩ = some (.int .i64 b_y) ∧ w8.cell? ⟨w.heap.size + 1 + 1, 0, none⟩ = some (.int .i64 cx) ∧ w8.cell? ⟨w.heap.size + 1 + 1, 1, none⟩ = some (.int .i64 cy) := by
    refine ⟨?_, ?_, ?_, ?_, ?_, ?_⟩ <;> (refine cell_below hb8 ?_; repeat (first | (with_reducible assumption) | ((with_reducible refine cell_set ?_ ?_ _); (· first | (simp; done) | (simp; omega) | omega)) | ((with_reducible refine cell_new ?_ ?_); (· (simp; done)); (· rfl)) | (with_reducible refine cell_alloc ?_ _) | (with_reducible refine cell_drew ?_) | (with_reducible refine cell_drewN ?_ _) | (with_reducible refine cell_below (by assumption) ?_)))
  have zf117 : w.heap.size < w8.heap.size := World.block_lt_of_cell? _ _ f117
  have zf119 : w.heap.size + 1 < w8.heap.size := World.block_lt_of_cell? _ _ f119
  have zf121 : w.heap.size + 1 + 1 < w8.heap.size := World.block_lt_of_cell? _ _ f121
  obtain ⟨⟨m123a, m123b⟩, ⟨m124a, m124b⟩, ⟨m125a, m125b⟩, ⟨m126a, m126b⟩, ⟨m127a, m127b⟩, ⟨m128a, m128b⟩, ⟨m129a, m129b⟩, ⟨m130a, m130b⟩, ⟨m131a, m131b⟩, ⟨m132a, m132b⟩⟩ : MineC5 w8 (w.heap.size + 1 + 1 + 1) 0 ∧ MineC5 w8 (w.heap.size + 1 + 1 + 1) 1 ∧ MineC5 w8 (w.heap.size + 1 + 1 + 1) 2 ∧ MineC5 w8 (w.heap.size + 1 + 1 + 1) 3 ∧ MineC5 w8 (w.heap.size + 1 + 1 + 1) 4 ∧ MineC5 w8 (w.heap.size + 1 + 1 + 1) 5 ∧ MineC5 w8 (w.heap.size + 1 + 1 + 1) 6 ∧ MineC5 w8 (w.heap.size + 1 + 1 + 1) 7 ∧ MineC5 w8 (w.heap.size + 1 + 1 + 1) 8 ∧ MineC5 w8 (w.heap.size + 1 + 1 + 1) 9 := by
    refine ⟨?_, ?_, ?_, ?_, ?_, ?_, ?_, ?_, ?_, ?_⟩ <;> (refine mine_below hb8 ?_; repeat (first | (refine ⟨?_, ?_⟩ <;> (with_reducible assumption)) | (with_reducible refine mine_alloc ?_ _) | (with_reducible refine mine_set ?_ _ _) | (with_reducible refine mine_drew ?_) | (with_reducible refine mine_drewN ?_ _) | (with_reducible refine mine_below (by assumption) ?_)))
  have zm123 : w.heap.size + 1 + 1 + 1 < w8.heap.size := World.block_lt_of_cell? _ _ m123a
  obtain ⟨⟨o133a, o133b⟩, ⟨o134a, o134b⟩, ⟨o135a, o135b⟩, ⟨o136a, o136b⟩, ⟨o137a, o137b⟩, ⟨o138a, o138b⟩, ⟨o139a, o139b⟩, ⟨o140a, o140b⟩, ⟨o141a, o141b⟩, ⟨o142a, o142b⟩⟩ : (w8.cell? ⟨w7.heap.size, 0, none⟩ = some (.int .i64 0) ∧ w8.frozen? ⟨w7.heap.size, 0, none⟩ = false) ∧ (w8.cell? ⟨w7.heap.size, 1, none⟩ = some (.int .i64 0) ∧ w8.frozen? ⟨w7.heap.size, 1, none⟩ = false) ∧ (w8.cell? ⟨w7.heap.size, 2, none⟩ = some (.int .i64 r) ∧ w8.frozen? ⟨w7.heap.size, 2, none⟩ = false) ∧ (w8.cell? ⟨w7.heap.size, 3, none⟩ = some (.int .i64 0) ∧ w8.frozen? ⟨w7.heap.size, 3, none⟩ = false) ∧ (w8.cell? ⟨w7.heap.size, 4, none⟩ = some (.int .i64 d) ∧ w8.frozen? ⟨w7.heap.size, 4, none⟩ = false) ∧ (w8.cell? ⟨w7.heap.size, 5, none⟩ = some (.int .i64 0) ∧ w8.frozen? ⟨w7.heap.size, 5, none⟩ = false) ∧ (w8.cell? ⟨w7.heap.size, 6, none⟩ = some (.int .i64 0) ∧ w8.frozen? ⟨w7.heap.size, 6, none⟩ = false) ∧ (w8.cell? ⟨w7.heap.size, 7, none⟩ = some (.int .i64 0) ∧ w8.frozen? ⟨w7.heap.size, 7, none⟩ = false) ∧ (w8.cell? ⟨w7.heap.size, 8, none⟩ = some (.int .i64 0) ∧ w8.frozen? ⟨w7.heap.size, 8, none⟩ = false) ∧ (w8.cell? ⟨w7.heap.size, 9, none⟩ = some (.int .i64 l) ∧ w8.frozen? ⟨w7.heap.size, 9, none⟩ = false) := by
    refine ⟨?_, ?_, ?_, ?_, ?_, ?_, ?_, ?_, ?_, ?_⟩ <;> (refine own_below hb8 ?_; repeat (first | (refine ⟨?_, ?_⟩ <;> (with_reducible assumption)) | (with_reducible apply own_same) | ((with_reducible refine own_set ?_ ?_ _); (· first | (simp; done) | (simp; omega))) | ((with_reducible refine own_new ?_ ?_); (· (simp; done)); (· rfl)) | (with_reducible refine own_alloc ?_ _) | (with_reducible refine own_drew ?_) | (with_reducible refine own_drewN ?_ _) | (with_reducible refine own_below (by assumption) ?_)))
  have zo133 : w7.heap.size < w8.heap.size := World.block_lt_of_cell? _ _ o133a
  clear f97 zf97 f98 f99 zf99 f100 f101 zf101 f102 m103a m103b zm103 m104a m104b m105a m105b m106a m106b m107a m107b m108a m108b m109a m109b m110a m110b m111a m111b m112a m112b
  go_wp2_with (go_at_call 51; refine (TF _).mono ?_; rintro e w' ⟨rfl, rfl⟩)
  generalize hwwa : (w8.setCell ⟨w7.heap.size, 3, none⟩ (.int .i64 fr)) = wa
  have ne143 : w7.heap.size ≠ w.heap.size := by omega
  have ne144 : w7.heap.size ≠ w.heap.size + 1 := by omega
  have ne145 : w7.heap.size ≠ w.heap.size + 1 + 1 := by omega
  have ne146 : w7.heap.size ≠ w.heap.size + 1 + 1 + 1 := by omega
  have x147 : wa.cell? ⟨w.heap.size, 0, none⟩ = some (.int .i64 ax) := by
    rw [← hwwa]; exact (cell_set ne143 f117 _)
  have zzx147 : w.heap.size < wa.heap.size := World.block_lt_of_cell? _ _ x147
  have x148 : wa.cell? ⟨w.heap.size, 1, none⟩ = some (.int .i64 ay) := by
    rw [← hwwa]; exact (cell_set ne143 f118 _)
  have x149 : wa.cell? ⟨w.heap.size + 1, 0, none⟩ = some (.int .i64 bx) := by
    rw [← hwwa]; exact (cell_set ne144 f119 _)
  have zzx149 : w.heap.size + 1 < wa.heap.size := World.block_lt_of_cell? _ _ x149
  have x150 : wa.cell? ⟨w.heap.size + 1, 1, none⟩ = some (.int .i64 b_y) := by
    rw [← hwwa]; exact (cell_set ne144 f120 _)
  have x151 : wa.cell? ⟨w.heap.size + 1 + 1, 0, none⟩ = some (.int .i64 cx) := by
    rw [← hwwa]; exact (cell_set ne145 f121 _)
  have zzx151 : w.heap.size + 1 + 1 < wa.heap.size := World.block_lt_of_cell? _ _ x151
  have x152 : wa.cell? ⟨w.heap.size + 1 + 1, 1, none⟩ = some (.int .i64 cy) := by
    rw [← hwwa]; exact (cell_set ne145 f122 _)
  obtain ⟨x153a, x153b⟩ : wa.cell? ⟨w7.heap.size, 0, none⟩ = some (.int .i64 0) ∧ wa.frozen? ⟨w7.heap.size, 0, none⟩ = false := by
    rw [← hwwa]; exact (own_set (by simp) ⟨o133a, o133b⟩ _)
  have zzx153a : w7.heap.size < wa.heap.size := World.block_lt_of_cell? _ _ x153a
  obtain ⟨x154a, x154b⟩ : wa.cell? ⟨w7.heap.size, 1, none⟩ = some (.int .i64 0) ∧ wa.frozen? ⟨w7.heap.size, 1, none⟩ = false := by
    rw [← hwwa]; exact (own_set (by simp) ⟨o134a, o134b⟩ _)
  obtain ⟨x155a, x155b⟩ : wa.cell? ⟨w7.heap.size, 2, none⟩ = some (.int .i64 r) ∧ wa.frozen? ⟨w7.heap.size, 2, none⟩ = false := by
    rw [← hwwa]; exact (own_set (by simp) ⟨o135a, o135b⟩ _)
  obtain ⟨x156a, x156b⟩ : wa.cell? ⟨w7.heap.size, 3, none⟩ = some (.int .i64 fr) ∧ wa.frozen? ⟨w7.heap.size, 3, none⟩ = false := by
    rw [← hwwa]; exact (own_same ⟨o136a, o136b⟩ _)
  obtain ⟨x157a, x157b⟩ : wa.cell? ⟨w7.heap.size, 4, none⟩ = some (.int .i64 d) ∧ wa.frozen? ⟨w7.heap.size, 4, none⟩ = false := by
    rw [← hwwa]; exact (own_set (by simp) ⟨o137a, o137b⟩ _)
  obtain ⟨x158a, x158b⟩ : wa.cell? ⟨w7.heap.size, 5, none⟩ = some (.int .i64 0) ∧ wa.frozen? ⟨w7.heap.size, 5, none⟩ = false := by
    rw [← hwwa]; exact (own_set (by simp) ⟨o138a, o138b⟩ _)
  obtain ⟨x159a, x159b⟩ : wa.cell? ⟨w7.heap.size, 6, none⟩ = some (.int .i64 0) ∧ wa.frozen? ⟨w7.heap.size, 6, none⟩ = false := by
    rw [← hwwa]; exact (own_set (by simp) ⟨o139a, o139b⟩ _)
  obtain ⟨x160a, x160b⟩ : wa.cell? ⟨w7.heap.size, 7, none⟩ = some (.int .i64 0) ∧ wa.frozen? ⟨w7.heap.size, 7, none⟩ = false := by
    rw [← hwwa]; exact (own_set (by simp) ⟨o140a, o140b⟩ _)
  obtain ⟨x161a, x161b⟩ : wa.cell? ⟨w7.heap.size, 8, none⟩ = some (.int .i64 0) ∧ wa.frozen? ⟨w7.heap.size, 8, none⟩ = false := by
    rw [← hwwa]; exact (own_set (by simp) ⟨o141a, o141b⟩ _)
  obtain ⟨x162a, x162b⟩ : wa.cell? ⟨w7.heap.size, 9, none⟩ = some (.int .i64 l) ∧ wa.frozen? ⟨w7.heap.size, 9, none⟩ = false := by
    rw [← hwwa]; exact (own_set (by simp) ⟨o142a, o142b⟩ _)
  obtain ⟨x163a, x163b⟩ : wa.cell? ⟨w.heap.size + 1 + 1 + 1, 0, none⟩ = some (cellV wa ⟨w.heap.size + 1 + 1 + 1, 0, none⟩) ∧ wa.frozen? ⟨w.heap.size + 1 + 1 + 1, 0, none⟩ = false := by
    rw [← hwwa]; exact (mine_set ⟨m123a, m123b⟩ _ _)
  have zzx163a : w.heap.size + 1 + 1 + 1 < wa.heap.size := World.block_lt_of_cell? _ _ x163a
  obtain ⟨x164a, x164b⟩ : wa.cell? ⟨w.heap.size + 1 + 1 + 1, 1, none⟩ = some (cellV wa ⟨w.heap.size + 1 + 1 + 1, 1, none⟩) ∧ wa.frozen? ⟨w.heap.size + 1 + 1 + 1, 1, none⟩ = false := by
    rw [← hwwa]; exact (mine_set ⟨m124a, m124b⟩ _ _)
  obtain ⟨x165a, x165b⟩ : wa.cell? ⟨w.heap.size + 1 + 1 + 1, 2, none⟩ = some (cellV wa ⟨w.heap.size + 1 + 1 + 1, 2, none⟩) ∧ wa.frozen? ⟨w.heap.size + 1 + 1 + 1, 2, none⟩ = false := by
    rw [← hwwa]; exact (mine_set ⟨m125a, m125b⟩ _ _)
  obtain ⟨x166a, x166b⟩ : wa.cell? ⟨w.heap.size + 1 + 1 + 1, 3, none⟩ = some (cellV wa ⟨w.heap.size + 1 + 1 + 1, 3, none⟩) ∧ wa.frozen? ⟨w.heap.size + 1 + 1 + 1, 3, none⟩ = false := by
    rw [← hwwa]; exact (mine_set ⟨m126a, m126b⟩ _ _)
  obtain ⟨x167a, x167b⟩ : wa.cell? ⟨w.heap.size + 1 + 1 + 1, 4, none⟩ = some (cellV wa ⟨w.heap.size + 1 + 1 + 1, 4, none⟩) ∧ wa.frozen? ⟨w.heap.size + 1 + 1 + 1, 4, none⟩ = false := by
    rw [← hwwa]; exact (mine_set ⟨m127a, m127b⟩ _ _)
  obtain ⟨x168a, x168b⟩ : wa.cell? ⟨w.heap.size + 1 + 1 + 1, 5, none⟩ = some (cellV wa ⟨w.heap.size + 1 + 1 + 1, 5, none⟩) ∧ wa.frozen? ⟨w.heap.size + 1 + 1 + 1, 5, none⟩ = false := by
    rw [← hwwa]; exact (mine_set ⟨m128a, m128b⟩ _ _)
  obtain ⟨x169a, x169b⟩ : wa.cell? ⟨w.heap.size + 1 + 1 + 1, 6, none⟩ = some (cellV wa ⟨w.heap.size + 1 + 1 + 1, 6, none⟩) ∧ wa.frozen? ⟨w.heap.size + 1 + 1 + 1, 6, none⟩ = false := by
    rw [← hwwa]; exact (mine_set ⟨m129a, m129b⟩ _ _)
  obtain ⟨x170a, x170b⟩ : wa.cell? ⟨w.heap.size + 1 + 1 + 1, 7, none⟩ = some (cellV wa ⟨w.heap.size + 1 + 1 + 1, 7, none⟩) ∧ wa.frozen? ⟨w.heap.size + 1 + 1 + 1, 7, none⟩ = false := by
    rw [← hwwa]; exact (mine_set ⟨m130a, m130b⟩ _ _)
  obtain ⟨x171a, x171b⟩ : wa.cell? ⟨w.heap.size + 1 + 1 + 1, 8, none⟩ = some (cellV wa ⟨w.heap.size + 1 + 1 + 1, 8, none⟩) ∧ wa.frozen? ⟨w.heap.size + 1 + 1 + 1, 8, none⟩ = false := by
    rw [← hwwa]; exact (mine_set ⟨m131a, m131b⟩ _ _)
  obtain ⟨x172a, x172b⟩ : wa.cell? ⟨w.heap.size + 1 + 1 + 1, 9, none⟩ = some (cellV wa ⟨w.heap.size + 1 + 1 + 1, 9, none⟩) ∧ wa.frozen? ⟨w.heap.size + 1 + 1 + 1, 9, none⟩ = false := by
    rw [← hwwa]; exact (mine_set ⟨m132a, m132b⟩ _ _)
  have Bwa : Below w.heap.size w wa := by
    rw [← hwwa]
    (repeat (with_reducible (first | assumption | exact Below.refl _ _ | refine Below.drew ?_ | refine below_drewN ?_ _ | refine below_set ?_ (by simp; try omega) _ | refine below_alloc ?_ (Nat.le_refl _) _ | refine below_sub (by assumption) ?_)))
  clear f117 zf117 f118 f119 zf119 f120 f121 zf121 f122 o133a o133b zo133 o134a o134b o135a o135b o136a o136b o137a o137b o138a o138b o139a o139b o140a o140b o141a o141b o142a o142b m123a m123b zm123 m124a m124b m125a m125b m126a m126b m127a m127b m128a m128b m129a m129b m130a m130b m131a m131b m132a m132b hwwa
  go_cut [11] (fun sE wx => sE = .int .i64 e1 ∧ ∃ wq1, wx = ((wq1.setCell ⟨w7.heap.size, 5, none⟩ (.int .i64 sx)).setCell ⟨w7.heap.size, 6, none⟩ (.int .i64 sy)) ∧ Below wa.heap.size wa wq1)
  case first =>
    go_region_with (first
      | (go_at_call 160; (with_reducible refine (OP _).mono ?_); rintro e w' ⟨rfl, rfl⟩)
      | (go_at_call 53; refine (RS _).mono ?_; rintro e w' ⟨rfl, hb'⟩; refine (fun n0 => ?_) (own_below hb' (a := ⟨w7.heap.size, 5, none⟩) (v := .int .i64 0) ?_); rotate_left; (· (repeat (first | (refine ⟨?_, ?_⟩ <;> (with_reducible assumption)) | (with_reducible apply own_same) | ((with_reducible refine own_set ?_ ?_ _); (· first | (simp; done) | (simp; omega))) | ((with_reducible refine own_new ?_ ?_); (· (simp; done)); (· rfl)) | (with_reducible refine own_alloc ?_ _) | (with_reducible refine own_drew ?_) | (with_reducible refine own_drewN ?_ _) | (with_reducible refine own_below (by assumption) ?_)))); obtain ⟨n0a, n0b⟩ := n0; refine (fun n1 => ?_) (own_below hb' (a := ⟨w7.heap.size, 6, none⟩) (v := .int .i64 0) ?_); rotate_left; (· (repeat (first | (refine ⟨?_, ?_⟩ <;> (with_reducible assumption)) | (with_reducible apply own_same) | ((with_reducible refine own_set ?_ ?_ _); (· first | (simp; done) | (simp; omega))) | ((with_reducible refine own_new ?_ ?_); (· (simp; done)); (· rfl)) | (with_reducible refine own_alloc ?_ _) | (with_reducible refine own_drew ?_) | (with_reducible refine own_drewN ?_ _) | (with_reducible refine own_below (by assumption) ?_)))); obtain ⟨n1a, n1b⟩ := n1))
    all_goals
      go_wp2_with fail
      go_meet
      refine ⟨rfl, _, rfl, ?_⟩
      (repeat (with_reducible (first | assumption | exact Below.refl _ _ | refine Below.drew ?_ | refine below_drewN ?_ _ | refine below_set ?_ (by simp; try omega) _ | refine below_alloc ?_ (Nat.le_refl _) _ | refine below_sub (by assumption) ?_)))
  case rest =>
    obtain ⟨rfl, wq1, rfl, hq1⟩ := hcut
    obtain ⟨t173, t174, t175, t176, t177, t178⟩ : wq1.cell? ⟨w.heap.size, 0, none⟩ = some (.int .i64 ax) ∧ wq1.cell? ⟨w.heap.size, 1, none⟩ = some (.int .i64 ay) ∧ wq1.cell? ⟨w.heap.size + 1, 0, none⟩ = some (.int .i64 bx) ∧ wq1.cell? ⟨w.heap.size + 1, 1, none⟩ = some (.int .i64 b_y) ∧ wq1.cell? ⟨w.heap.size + 1 + 1, 0, none⟩ = some (.int .i64 cx) ∧ wq1.cell? ⟨w.heap.size + 1 + 1, 1, none⟩ = some (.int .i64 cy) := by
      refine ⟨?_, ?_, ?_, ?_, ?_, ?_⟩ <;> (refine cell_below hq1 ?_; repeat (first | (with_reducible assumption) | ((with_reducible refine cell_set ?_ ?_ _); (· first | (simp; done) | (simp; omega) | omega)) | ((with_reducible refine cell_new ?_ ?_); (· (simp; done)); (· rfl)) | (with_reducible refine cell_alloc ?_ _) | (with_reducible refine cell_drew ?_) | (with_reducible refine cell_drewN ?_ _) | (with_reducible refine cell_below (by assumption) ?_)))
    have zt173 : w.heap.size < wq1.heap.size := World.block_lt_of_cell? _ _ t173
    have zt175 : w.heap.size + 1 < wq1.heap.size := World.block_lt_of_cell? _ _ t175
    have zt177 : w.heap.size + 1 + 1 < wq1.heap.size := World.block_lt_of_cell? _ _ t177
    obtain ⟨⟨t179a, t179b⟩, ⟨t180a, t180b⟩, ⟨t181a, t181b⟩, ⟨t182a, t182b⟩, ⟨t183a, t183b⟩, ⟨t184a, t184b⟩, ⟨t185a, t185b⟩, ⟨t186a, t186b⟩, ⟨t187a, t187b⟩, ⟨t188a, t188b⟩⟩ : (wq1.cell? ⟨w7.heap.size, 0, none⟩ = some (.int .i64 0) ∧ wq1.frozen? ⟨w7.heap.size, 0, none⟩ = false) ∧ (wq1.cell? ⟨w7.heap.size, 1, none⟩ = some (.int .i64 0) ∧ wq1.frozen? ⟨w7.heap.size, 1, none⟩ = false) ∧ (wq1.cell? ⟨w7.heap.size, 2, none⟩ = some (.int .i64 r) ∧ wq1.frozen? ⟨w7.heap.size, 2, none⟩ = false) ∧ (wq1.cell? ⟨w7.heap.size, 3, none⟩ = some (.int .i64 fr) ∧ wq1.frozen? ⟨w7.heap.size, 3, none⟩ = false) ∧ (wq1.cell? ⟨w7.heap.size, 4, none⟩ = some (.int .i64 d) ∧ wq1.frozen? ⟨w7.heap.size, 4, none⟩ = false) ∧ (wq1.cell? ⟨w7.heap.size, 5, none⟩ = some (.int .i64 0) ∧ wq1.frozen? ⟨w7.heap.size, 5, none⟩ = false) ∧ (wq1.cell? ⟨w7.heap.size, 6, none⟩ = some (.int .i64 0) ∧ wq1.frozen? ⟨w7.heap.size, 6, none⟩ = false) ∧ (wq1.cell? ⟨w7.heap.size, 7, none⟩ = some (.int .i64 0) ∧ wq1.frozen? ⟨w7.heap.size, 7, none⟩ = false) ∧ (wq1.cell? ⟨w7.heap.size, 8, none⟩ = some (.int .i64 0) ∧ wq1.frozen? ⟨w7.heap.size, 8, none⟩ = false) ∧ (wq1.cell? ⟨w7.heap.size, 9, none⟩ = some (.int .i64 l) ∧ wq1.frozen? ⟨w7.heap.size, 9, none⟩ = false) := by
      refine ⟨?_, ?_, ?_, ?_, ?_, ?_, ?_, ?_, ?_, ?_⟩ <;> (refine own_below hq1 ?_; repeat (first | (refine ⟨?_, ?_⟩ <;> (with_reducible assumption)) | (with_reducible apply own_same) | ((with_reducible refine own_set ?_ ?_ _); (· first | (simp; done) | (simp; omega))) | ((with_reducible refine own_new ?_ ?_); (· (simp; done)); (· rfl)) | (with_reducible refine own_alloc ?_ _) | (with_reducible refine own_drew ?_) | (with_reducible refine own_drewN ?_ _) | (with_reducible refine own_below (by assumption) ?_)))
    have zt179 : w7.heap.size < wq1.heap.size := World.block_lt_of_cell? _ _ t179a
    obtain ⟨⟨t189a, t189b⟩, ⟨t190a, t190b⟩, ⟨t191a, t191b⟩, ⟨t192a, t192b⟩, ⟨t193a, t193b⟩, ⟨t194a, t194b⟩, ⟨t195a, t195b⟩, ⟨t196a, t196b⟩, ⟨t197a, t197b⟩, ⟨t198a, t198b⟩⟩ : MineC5 wq1 (w.heap.size + 1 + 1 + 1) 0 ∧ MineC5 wq1 (w.heap.size + 1 + 1 + 1) 1 ∧ MineC5 wq1 (w.heap.size + 1 + 1 + 1) 2 ∧ MineC5 wq1 (w.heap.size + 1 + 1 + 1) 3 ∧ MineC5 wq1 (w.heap.size + 1 + 1 + 1) 4 ∧ MineC5 wq1 (w.heap.size + 1 + 1 + 1) 5 ∧ MineC5 wq1 (w.heap.size + 1 + 1 + 1) 6 ∧ MineC5 wq1 (w.heap.size + 1 + 1 + 1) 7 ∧ MineC5 wq1 (w.heap.size + 1 + 1 + 1) 8 ∧ MineC5 wq1 (w.heap.size + 1 + 1 + 1) 9 := by
      refine ⟨?_, ?_, ?_, ?_, ?_, ?_, ?_, ?_, ?_, ?_⟩ <;> (refine mine_below hq1 ?_; repeat (first | (refine ⟨?_, ?_⟩ <;> (with_reducible assumption)) | (with_reducible refine mine_alloc ?_ _) | (with_reducible refine mine_set ?_ _ _) | (with_reducible refine mine_drew ?_) | (with_reducible refine mine_drewN ?_ _) | (with_reducible refine mine_below (by assumption) ?_)))
    have zt189 : w.heap.size + 1 + 1 + 1 < wq1.heap.size := World.block_lt_of_cell? _ _ t189a
    clear x147 zzx147 x148 x149 zzx149 x150 x151 zzx151 x152 x153a x153b zzx153a x154a x154b x155a x155b x156a x156b x157a x157b x158a x158b x159a x159b x160a x160b x161a x161b x162a x162b x163a x163b zzx163a x164a x164b x165a x165b x166a x166b x167a x167b x168a x168b x169a x169b x170a x170b x171a x171b x172a x172b
    generalize hwwb : ((wq1.setCell ⟨w7.heap.size, 5, none⟩ (.int .i64 sx)).setCell ⟨w7.heap.size, 6, none⟩ (.int .i64 sy)) = wb
    have ne199 : w7.heap.size ≠ w.heap.size := by omega
    have ne200 : w7.heap.size ≠ w.heap.size + 1 := by omega
    have ne201 : w7.heap.size ≠ w.heap.size + 1 + 1 := by omega
    have ne202 : w7.heap.size ≠ w.heap.size + 1 + 1 + 1 := by omega
    have x203 : wb.cell? ⟨w.heap.size, 0, none⟩ = some (.int .i64 ax) := by
      rw [← hwwb]; exact (cell_set ne199 (cell_set ne199 t173 _) _)
    have zzx203 : w.heap.size < wb.heap.size := World.block_lt_of_cell? _ _ x203
    have x204 : wb.cell? ⟨w.heap.size, 1, none⟩ = some (.int .i64 ay) := by
      rw [← hwwb]; exact (cell_set ne199 (cell_set ne199 t174 _) _)
    have x205 : wb.cell? ⟨w.heap.size + 1, 0, none⟩ = some (.int .i64 bx) := by
      rw [← hwwb]; exact (cell_set ne200 (cell_set ne200 t175 _) _)
    have zzx205 : w.heap.size + 1 < wb.heap.size := World.block_lt_of_cell? _ _ x205
    have x206 : wb.cell? ⟨w.heap.size + 1, 1, none⟩ = some (.int .i64 b_y) := by
      rw [← hwwb]; exact (cell_set ne200 (cell_set ne200 t176 _) _)
    have x207 : wb.cell? ⟨w.heap.size + 1 + 1, 0, none⟩ = some (.int .i64 cx) := by
      rw [← hwwb]; exact (cell_set ne201 (cell_set ne201 t177 _) _)
    have zzx207 : w.heap.size + 1 + 1 < wb.heap.size := World.block_lt_of_cell? _ _ x207
    have x208 : wb.cell? ⟨w.heap.size + 1 + 1, 1, none⟩ = some (.int .i64 cy) := by
      rw [← hwwb]; exact (cell_set ne201 (cell_set ne201 t178 _) _)
    obtain ⟨x209a, x209b⟩ : wb.cell? ⟨w7.heap.size, 0, none⟩ = some (.int .i64 0) ∧ wb.frozen? ⟨w7.heap.size, 0, none⟩ = false := by
      rw [← hwwb]; exact (own_set (by simp) (own_set (by simp) ⟨t179a, t179b⟩ _) _)
    have zzx209a : w7.heap.size < wb.heap.size := World.block_lt_of_cell? _ _ x209a
    obtain ⟨x210a, x210b⟩ : wb.cell? ⟨w7.heap.size, 1, none⟩ = some (.int .i64 0) ∧ wb.frozen? ⟨w7.heap.size, 1, none⟩ = false := by
      rw [← hwwb]; exact (own_set (by simp) (own_set (by simp) ⟨t180a, t180b⟩ _) _)
    obtain ⟨x211a, x211b⟩ : wb.cell? ⟨w7.heap.size, 2, none⟩ = some (.int .i64 r) ∧ wb.frozen? ⟨w7.heap.size, 2, none⟩ = false := by
      rw [← hwwb]; exact (own_set (by simp) (own_set (by simp) ⟨t181a, t181b⟩ _) _)
    obtain ⟨x212a, x212b⟩ : wb.cell? ⟨w7.heap.size, 3, none⟩ = some (.int .i64 fr) ∧ wb.frozen? ⟨w7.heap.size, 3, none⟩ = false := by
      rw [← hwwb]; exact (own_set (by simp) (own_set (by simp) ⟨t182a, t182b⟩ _) _)
    obtain ⟨x213a, x213b⟩ : wb.cell? ⟨w7.heap.size, 4, none⟩ = some (.int .i64 d) ∧ wb.frozen? ⟨w7.heap.size, 4, none⟩ = false := by
      rw [← hwwb]; exact (own_set (by simp) (own_set (by simp) ⟨t183a, t183b⟩ _) _)
    obtain ⟨x214a, x214b⟩ : wb.cell? ⟨w7.heap.size, 5, none⟩ = some (.int .i64 sx) ∧ wb.frozen? ⟨w7.heap.size, 5, none⟩ = false := by
      rw [← hwwb]; exact (own_set (by simp) (own_same ⟨t184a, t184b⟩ _) _)
    obtain ⟨x215a, x215b⟩ : wb.cell? ⟨w7.heap.size, 6, none⟩ = some (.int .i64 sy) ∧ wb.frozen? ⟨w7.heap.size, 6, none⟩ = false := by
      rw [← hwwb]; exact (own_same (own_set (by simp) ⟨t185a, t185b⟩ _) _)
    obtain ⟨x216a, x216b⟩ : wb.cell? ⟨w7.heap.size, 7, none⟩ = some (.int .i64 0) ∧ wb.frozen? ⟨w7.heap.size, 7, none⟩ = false := by
      rw [← hwwb]; exact (own_set (by simp) (own_set (by simp) ⟨t186a, t186b⟩ _) _)
    obtain ⟨x217a, x217b⟩ : wb.cell? ⟨w7.heap.size, 8, none⟩ = some (.int .i64 0) ∧ wb.frozen? ⟨w7.heap.size, 8, none⟩ = false := by
      rw [← hwwb]; exact (own_set (by simp) (own_set (by simp) ⟨t187a, t187b⟩ _) _)
    obtain ⟨x218a, x218b⟩ : wb.cell? ⟨w7.heap.size, 9, none⟩ = some (.int .i64 l) ∧ wb.frozen? ⟨w7.heap.size, 9, none⟩ = false := by
      rw [← hwwb]; exact (own_set (by simp) (own_set (by simp) ⟨t188a, t188b⟩ _) _)
    obtain ⟨x219a, x219b⟩ : wb.cell? ⟨w.heap.size + 1 + 1 + 1, 0, none⟩ = some (cellV wb ⟨w.heap.size + 1 + 1 + 1, 0, none⟩) ∧ wb.frozen? ⟨w.heap.size + 1 + 1 + 1, 0, none⟩ = false := by
      rw [← hwwb]; exact (mine_set (mine_set ⟨t189a, t189b⟩ _ _) _ _)
    have zzx219a : w.heap.size + 1 + 1 + 1 < wb.heap.size := World.block_lt_of_cell? _ _ x219a
    obtain ⟨x220a, x220b⟩ : wb.cell? ⟨w.heap.size + 1 + 1 + 1, 1, none⟩ = some (cellV wb ⟨w.heap.size + 1 + 1 + 1, 1, none⟩) ∧ wb.frozen? ⟨w.heap.size + 1 + 1 + 1, 1, none⟩ = false := by
      rw [← hwwb]; exact (mine_set (mine_set ⟨t190a, t190b⟩ _ _) _ _)
    obtain ⟨x221a, x221b⟩ : wb.cell? ⟨w.heap.size + 1 + 1 + 1, 2, none⟩ = some (cellV wb ⟨w.heap.size + 1 + 1 + 1, 2, none⟩) ∧ wb.frozen? ⟨w.heap.size + 1 + 1 + 1, 2, none⟩ = false := by
      rw [← hwwb]; exact (mine_set (mine_set ⟨t191a, t191b⟩ _ _) _ _)
    obtain ⟨x222a, x222b⟩ : wb.cell? ⟨w.heap.size + 1 + 1 + 1, 3, none⟩ = some (cellV wb ⟨w.heap.size + 1 + 1 + 1, 3, none⟩) ∧ wb.frozen? ⟨w.heap.size + 1 + 1 + 1, 3, none⟩ = false := by
      rw [← hwwb]; exact (mine_set (mine_set ⟨t192a, t192b⟩ _ _) _ _)
    obtain ⟨x223a, x223b⟩ : wb.cell? ⟨w.heap.size + 1 + 1 + 1, 4, none⟩ = some (cellV wb ⟨w.heap.size + 1 + 1 + 1, 4, none⟩) ∧ wb.frozen? ⟨w.heap.size + 1 + 1 + 1, 4, none⟩ = false := by
      rw [← hwwb]; exact (mine_set (mine_set ⟨t193a, t193b⟩ _ _) _ _)
    obtain ⟨x224a, x224b⟩ : wb.cell? ⟨w.heap.size + 1 + 1 + 1, 5, none⟩ = some (cellV wb ⟨w.heap.size + 1 + 1 + 1, 5, none⟩) ∧ wb.frozen? ⟨w.heap.size + 1 + 1 + 1, 5, none⟩ = false := by
      rw [← hwwb]; exact (mine_set (mine_set ⟨t194a, t194b⟩ _ _) _ _)
    obtain ⟨x225a, x225b⟩ : wb.cell? ⟨w.heap.size + 1 + 1 + 1, 6, none⟩ = some (cellV wb ⟨w.heap.size + 1 + 1 + 1, 6, none⟩) ∧ wb.frozen? ⟨w.heap.size + 1 + 1 + 1, 6, none⟩ = false := by
      rw [← hwwb]; exact (mine_set (mine_set ⟨t195a, t195b⟩ _ _) _ _)
    obtain ⟨x226a, x226b⟩ : wb.cell? ⟨w.heap.size + 1 + 1 + 1, 7, none⟩ = some (cellV wb ⟨w.heap.size + 1 + 1 + 1, 7, none⟩) ∧ wb.frozen? ⟨w.heap.size + 1 + 1 + 1, 7, none⟩ = false := by
      rw [← hwwb]; exact (mine_set (mine_set ⟨t196a, t196b⟩ _ _) _ _)
    obtain ⟨x227a, x227b⟩ : wb.cell? ⟨w.heap.size + 1 + 1 + 1, 8, none⟩ = some (cellV wb ⟨w.heap.size + 1 + 1 + 1, 8, none⟩) ∧ wb.frozen? ⟨w.heap.size + 1 + 1 + 1, 8, none⟩ = false := by
      rw [← hwwb]; exact (mine_set (mine_set ⟨t197a, t197b⟩ _ _) _ _)
    obtain ⟨x228a, x228b⟩ : wb.cell? ⟨w.heap.size + 1 + 1 + 1, 9, none⟩ = some (cellV wb ⟨w.heap.size + 1 + 1 + 1, 9, none⟩) ∧ wb.frozen? ⟨w.heap.size + 1 + 1 + 1, 9, none⟩ = false := by
      rw [← hwwb]; exact (mine_set (mine_set ⟨t198a, t198b⟩ _ _) _ _)
    have Bwb : Below w.heap.size w wb := by
      rw [← hwwb]
      (repeat (with_reducible (first | assumption | exact Below.refl _ _ | refine Below.drew ?_ | refine below_drewN ?_ _ | refine below_set ?_ (by simp; try omega) _ | refine below_alloc ?_ (Nat.le_refl _) _ | refine below_sub (by assumption) ?_)))
    clear t173 zt173 t174 t175 zt175 t176 t177 zt177 t178 t179a t179b zt179 t180a t180b t181a t181b t182a t182b t183a t183b t184a t184b t185a t185b t186a t186b t187a t187b t188a t188b t189a t189b zt189 t190a t190b t191a t191b t192a t192b t193a t193b t194a t194b t195a t195b t196a t196b t197a t197b t198a t198b hwwb
    by_cases hE1 : e1 = 0
    rotate_left
    · have hz : (([v0, v1, v2, v3, v4, v5, v6, v7, v8, v9], e0) : List Int × Int) = (zeros10, 2) := by rw [hR, if_pos hE1]
      exact absurd (he0.out.symm.trans (congrArg Prod.snd hz)) (show ¬ (0 : Int) = 2 by decide)
    go_wp2_with fail
    refine (RE _).mono ?_
    rintro e w9 ⟨rfl, hb9⟩
    obtain ⟨f229, f230, f231, f232, f233, f234⟩ : w9.cell? ⟨w.heap.size, 0, none⟩ = some (.int .i64 ax) ∧ w9.cell? ⟨w.heap.size, 1, none⟩ = some (.int .i64 ay) ∧ w9.cell? ⟨w.heap.size + 1, 0, none⟩ = some (.int .i64 bx) ∧ w9.cell? ⟨w.heap.size + 1, 1, none⟩ = some (.int .i64 b_y) ∧ w9.cell? ⟨w.heap.size + 1 + 1, 0, none⟩ = some (.int .i64 cx) ∧ w9.cell? ⟨w.heap.size + 1 + 1, 1, none⟩ = some (.int .i64 cy) := by
      refine ⟨?_, ?_, ?_, ?_, ?_, ?_⟩ <;> (refine cell_below hb9 ?_; repeat (first | (with_reducible assumption) | ((with_reducible refine cell_set ?_ ?_ _); (· first | (simp; done) | (simp; omega) | omega)) | ((with_reducible refine cell_new ?_ ?_); (· (simp; done)); (· rfl)) | (with_reducible refine cell_alloc ?_ _) | (with_reducible refine cell_drew ?_) | (with_reducible refine cell_drewN ?_ _) | (with_reducible refine cell_below (by assumption) ?_)))
    have zf229 : w.heap.size < w9.heap.size := World.block_lt_of_cell? _ _ f229
    have zf231 : w.heap.size + 1 < w9.heap.size := World.block_lt_of_cell? _ _ f231
    have zf233 : w.heap.size + 1 + 1 < w9.heap.size := World.block_lt_of_cell? _ _ f233
    obtain ⟨⟨m235a, m235b⟩, ⟨m236a, m236b⟩, ⟨m237a, m237b⟩, ⟨m238a, m238b⟩, ⟨m239a, m239b⟩, ⟨m240a, m240b⟩, ⟨m241a, m241b⟩, ⟨m242a, m242b⟩, ⟨m243a, m243b⟩, ⟨m244a, m244b⟩⟩ : MineC5 w9 (w.heap.size + 1 + 1 + 1) 0 ∧ MineC5 w9 (w.heap.size + 1 + 1 + 1) 1 ∧ MineC5 w9 (w.heap.size + 1 + 1 + 1) 2 ∧ MineC5 w9 (w.heap.size + 1 + 1 + 1) 3 ∧ MineC5 w9 (w.heap.size + 1 + 1 + 1) 4 ∧ MineC5 w9 (w.heap.size + 1 + 1 + 1) 5 ∧ MineC5 w9 (w.heap.size + 1 + 1 + 1) 6 ∧ MineC5 w9 (w.heap.size + 1 + 1 + 1) 7 ∧ MineC5 w9 (w.heap.size + 1 + 1 + 1) 8 ∧ MineC5 w9 (w.heap.size + 1 + 1 + 1) 9 := by
      refine ⟨?_, ?_, ?_, ?_, ?_, ?_, ?_, ?_, ?_, ?_⟩ <;> (refine mine_below hb9 ?_; repeat (first | (refine ⟨?_, ?_⟩ <;> (with_reducible assumption)) | (with_reducible refine mine_alloc ?_ _) | (with_reducible refine mine_set ?_ _ _) | (with_reducible refine mine_drew ?_) | (with_reducible refine mine_drewN ?_ _) | (with_reducible refine mine_below (by assumption) ?_)))
    have zm235 : w.heap.size + 1 + 1 + 1 < w9.heap.size := World.block_lt_of_cell? _ _ m235a
    obtain ⟨⟨o245a, o245b⟩, ⟨o246a, o246b⟩, ⟨o247a, o247b⟩, ⟨o248a, o248b⟩, ⟨o249a, o249b⟩, ⟨o250a, o250b⟩, ⟨o251a, o251b⟩, ⟨o252a, o252b⟩, ⟨o253a, o253b⟩, ⟨o254a, o254b⟩⟩ : (w9.cell? ⟨w7.heap.size, 0, none⟩ = some (.int .i64 0) ∧ w9.frozen? ⟨w7.heap.size, 0, none⟩ = false) ∧ (w9.cell? ⟨w7.heap.size, 1, none⟩ = some (.int .i64 0) ∧ w9.frozen? ⟨w7.heap.size, 1, none⟩ = false) ∧ (w9.cell? ⟨w7.heap.size, 2, none⟩ = some (.int .i64 r) ∧ w9.frozen? ⟨w7.heap.size, 2, none⟩ = false) ∧ (w9.cell? ⟨w7.heap.size, 3, none⟩ = some (.int .i64 fr) ∧ w9.frozen? ⟨w7.heap.size, 3, none⟩ = false) ∧ (w9.cell? ⟨w7.heap.size, 4, none⟩ = some (.int .i64 d) ∧ w9.frozen? ⟨w7.heap.size, 4, none⟩ = false) ∧ (w9.cell? ⟨w7.heap.size, 5, none⟩ = some (.int .i64 sx) ∧ w9.frozen? ⟨w7.heap.size, 5, none⟩ = false) ∧ (w9.cell? ⟨w7.heap.size, 6, none⟩ = some (.int .i64 sy) ∧ w9.frozen? ⟨w7.heap.size, 6, none⟩ = false) ∧ (w9.cell? ⟨w7.heap.size, 7, none⟩ = some (.int .i64 0) ∧ w9.frozen? ⟨w7.heap.size, 7, none⟩ = false) ∧ (w9.cell? ⟨w7.heap.size, 8, none⟩ = some (.int .i64 0) ∧ w9.frozen? ⟨w7.heap.size, 8, none⟩ = false) ∧ (w9.cell? ⟨w7.heap.size, 9, none⟩ = some (.int .i64 l) ∧ w9.frozen? ⟨w7.heap.size, 9, none⟩ = false) := by
      refine ⟨?_, ?_, ?_, ?_, ?_, ?_, ?_, ?_, ?_, ?_⟩ <;> (refine own_below hb9 ?_; repeat (first | (refine ⟨?_, ?_⟩ <;> (with_reducible assumption)) | (with_reducible apply own_same) | ((with_reducible refine own_set ?_ ?_ _); (· first | (simp; done) | (simp; omega))) | ((with_reducible refine own_new ?_ ?_); (· (simp; done)); (· rfl)) | (with_reducible refine own_alloc ?_ _) | (with_reducible refine own_drew ?_) | (with_reducible refine own_drewN ?_ _) | (with_reducible refine own_below (by assumption) ?_)))
    have zo245 : w7.heap.size < w9.heap.size := World.block_lt_of_cell? _ _ o245a
    clear x203 zzx203 x204 x205 zzx205 x206 x207 zzx207 x208 x219a x219b zzx219a x220a x220b x221a x221b x222a x222b x223a x223b x224a x224b x225a x225b x226a x226b x227a x227b x228a x228b x209a x209b zzx209a x210a x210b x211a x211b x212a x212b x213a x213b x214a x214b x215a x215b x216a x216b x217a x217b x218a x218b
    by_cases hE2 : e2 = 0
    rotate_left
    · have hz : (([v0, v1, v2, v3, v4, v5, v6, v7, v8, v9], e0) : List Int × Int) = (zeros10, 2) := by rw [hR, if_neg (fun h => h hE1), if_pos hE2]
      exact absurd (he0.out.symm.trans (congrArg Prod.snd hz)) (show ¬ (0 : Int) = 2 by decide)
    go_wp2_with fail
    generalize hwwc : ((w9.setCell ⟨w7.heap.size, 7, none⟩ (.int .i64 ex)).setCell ⟨w7.heap.size, 8, none⟩ (.int .i64 ey)) = wc
    have ne255 : w7.heap.size ≠ w.heap.size := by omega
    have ne256 : w7.heap.size ≠ w.heap.size + 1 := by omega
    have ne257 : w7.heap.size ≠ w.heap.size + 1 + 1 := by omega
    have ne258 : w7.heap.size ≠ w.heap.size + 1 + 1 + 1 := by omega
    have x259 : wc.cell? ⟨w.heap.size, 0, none⟩ = some (.int .i64 ax) := by
      rw [← hwwc]; exact (cell_set ne255 (cell_set ne255 f229 _) _)
    have zzx259 : w.heap.size < wc.heap.size := World.block_lt_of_cell? _ _ x259
    have x260 : wc.cell? ⟨w.heap.size, 1, none⟩ = some (.int .i64 ay) := by
      rw [← hwwc]; exact (cell_set ne255 (cell_set ne255 f230 _) _)
    have x261 : wc.cell? ⟨w.heap.size + 1, 0, none⟩ = some (.int .i64 bx) := by
      rw [← hwwc]; exact (cell_set ne256 (cell_set ne256 f231 _) _)
    have zzx261 : w.heap.size + 1 < wc.heap.size := World.block_lt_of_cell? _ _ x261
    have x262 : wc.cell? ⟨w.heap.size + 1, 1, none⟩ = some (.int .i64 b_y) := by
      rw [← hwwc]; exact (cell_set ne256 (cell_set ne256 f232 _) _)
    have x263 : wc.cell? ⟨w.heap.size + 1 + 1, 0, none⟩ = some (.int .i64 cx) := by
      rw [← hwwc]; exact (cell_set ne257 (cell_set ne257 f233 _) _)
    have zzx263 : w.heap.size + 1 + 1 < wc.heap.size := World.block_lt_of_cell? _ _ x263
    have x264 : wc.cell? ⟨w.heap.size + 1 + 1, 1, none⟩ = some (.int .i64 cy) := by
      rw [← hwwc]; exact (cell_set ne257 (cell_set ne257 f234 _) _)
    obtain ⟨x265a, x265b⟩ : wc.cell? ⟨w7.heap.size, 0, none⟩ = some (.int .i64 0) ∧ wc.frozen? ⟨w7.heap.size, 0, none⟩ = false := by
      rw [← hwwc]; exact (own_set (by simp) (own_set (by simp) ⟨o245a, o245b⟩ _) _)
    have zzx265a : w7.heap.size < wc.heap.size := World.block_lt_of_cell? _ _ x265a
    obtain ⟨x266a, x266b⟩ : wc.cell? ⟨w7.heap.size, 1, none⟩ = some (.int .i64 0) ∧ wc.frozen? ⟨w7.heap.size, 1, none⟩ = false := by
      rw [← hwwc]; exact (own_set (by simp) (own_set (by simp) ⟨o246a, o246b⟩ _) _)
    obtain ⟨x267a, x267b⟩ : wc.cell? ⟨w7.heap.size, 2, none⟩ = some (.int .i64 r) ∧ wc.frozen? ⟨w7.heap.size, 2, none⟩ = false := by
      rw [← hwwc]; exact (own_set (by simp) (own_set (by simp) ⟨o247a, o247b⟩ _) _)
    obtain ⟨x268a, x268b⟩ : wc.cell? ⟨w7.heap.size, 3, none⟩ = some (.int .i64 fr) ∧ wc.frozen? ⟨w7.heap.size, 3, none⟩ = false := by
      rw [← hwwc]; exact (own_set (by simp) (own_set (by simp) ⟨o248a, o248b⟩ _) _)
    obtain ⟨x269a, x269b⟩ : wc.cell? ⟨w7.heap.size, 4, none⟩ = some (.int .i64 d) ∧ wc.frozen? ⟨w7.heap.size, 4, none⟩ = false := by
      rw [← hwwc]; exact (own_set (by simp) (own_set (by simp) ⟨o249a, o249b⟩ _) _)
    obtain ⟨x270a, x270b⟩ : wc.cell? ⟨w7.heap.size, 5, none⟩ = some (.int .i64 sx) ∧ wc.frozen? ⟨w7.heap.size, 5, none⟩ = false := by
      rw [← hwwc]; exact (own_set (by simp) (own_set (by simp) ⟨o250a, o250b⟩ _) _)
    obtain ⟨x271a, x271b⟩ : wc.cell? ⟨w7.heap.size, 6, none⟩ = some (.int .i64 sy) ∧ wc.frozen? ⟨w7.heap.size, 6, none⟩ = false := by
      rw [← hwwc]; exact (own_set (by simp) (own_set (by simp) ⟨o251a, o251b⟩ _) _)
    obtain ⟨x272a, x272b⟩ : wc.cell? ⟨w7.heap.size, 7, none⟩ = some (.int .i64 ex) ∧ wc.frozen? ⟨w7.heap.size, 7, none⟩ = false := by
      rw [← hwwc]; exact (own_set (by simp) (own_same ⟨o252a, o252b⟩ _) _)
    obtain ⟨x273a, x273b⟩ : wc.cell? ⟨w7.heap.size, 8, none⟩ = some (.int .i64 ey) ∧ wc.frozen? ⟨w7.heap.size, 8, none⟩ = false := by
      rw [← hwwc]; exact (own_same (own_set (by simp) ⟨o253a, o253b⟩ _) _)
    obtain ⟨x274a, x274b⟩ : wc.cell? ⟨w7.heap.size, 9, none⟩ = some (.int .i64 l) ∧ wc.frozen? ⟨w7.heap.size, 9, none⟩ = false := by
      rw [← hwwc]; exact (own_set (by simp) (own_set (by simp) ⟨o254a, o254b⟩ _) _)
    obtain ⟨x275a, x275b⟩ : wc.cell? ⟨w.heap.size + 1 + 1 + 1, 0, none⟩ = some (cellV wc ⟨w.heap.size + 1 + 1 + 1, 0, none⟩) ∧ wc.frozen? ⟨w.heap.size + 1 + 1 + 1, 0, none⟩ = false := by
      rw [← hwwc]; exact (mine_set (mine_set ⟨m235a, m235b⟩ _ _) _ _)
    have zzx275a : w.heap.size + 1 + 1 + 1 < wc.heap.size := World.block_lt_of_cell? _ _ x275a
    obtain ⟨x276a, x276b⟩ : wc.cell? ⟨w.heap.size + 1 + 1 + 1, 1, none⟩ = some (cellV wc ⟨w.heap.size + 1 + 1 + 1, 1, none⟩) ∧ wc.frozen? ⟨w.heap.size + 1 + 1 + 1, 1, none⟩ = false := by
      rw [← hwwc]; exact (mine_set (mine_set ⟨m236a, m236b⟩ _ _) _ _)
    obtain ⟨x277a, x277b⟩ : wc.cell? ⟨w.heap.size + 1 + 1 + 1, 2, none⟩ = some (cellV wc ⟨w.heap.size + 1 + 1 + 1, 2, none⟩) ∧ wc.frozen? ⟨w.heap.size + 1 + 1 + 1, 2, none⟩ = false := by
      rw [← hwwc]; exact (mine_set (mine_set ⟨m237a, m237b⟩ _ _) _ _)
    obtain ⟨x278a, x278b⟩ : wc.cell? ⟨w.heap.size + 1 + 1 + 1, 3, none⟩ = some (cellV wc ⟨w.heap.size + 1 + 1 + 1, 3, none⟩) ∧ wc.frozen? ⟨w.heap.size + 1 + 1 + 1, 3, none⟩ = false := by
      rw [← hwwc]; exact (mine_set (mine_set ⟨m238a, m238b⟩ _ _) _ _)
    obtain ⟨x279a, x279b⟩ : wc.cell? ⟨w.heap.size + 1 + 1 + 1, 4, none⟩ = some (cellV wc ⟨w.heap.size + 1 + 1 + 1, 4, none⟩) ∧ wc.frozen? ⟨w.heap.size + 1 + 1 + 1, 4, none⟩ = false := by
      rw [← hwwc]; exact (mine_set (mine_set ⟨m239a, m239b⟩ _ _) _ _)
    obtain ⟨x280a, x280b⟩ : wc.cell? ⟨w.heap.size + 1 + 1 + 1, 5, none⟩ = some (cellV wc ⟨w.heap.size + 1 + 1 + 1, 5, none⟩) ∧ wc.frozen? ⟨w.heap.size + 1 + 1 + 1, 5, none⟩ = false := by
      rw [← hwwc]; exact (mine_set (mine_set ⟨m240a, m240b⟩ _ _) _ _)
    obtain ⟨x281a, x281b⟩ : wc.cell? ⟨w.heap.size + 1 + 1 + 1, 6, none⟩ = some (cellV wc ⟨w.heap.size + 1 + 1 + 1, 6, none⟩) ∧ wc.frozen? ⟨w.heap.size + 1 + 1 + 1, 6, none⟩ = false := by
      rw [← hwwc]; exact (mine_set (mine_set ⟨m241a, m241b⟩ _ _) _ _)
    obtain ⟨x282a, x282b⟩ : wc.cell? ⟨w.heap.size + 1 + 1 + 1, 7, none⟩ = some (cellV wc ⟨w.heap.size + 1 + 1 + 1, 7, none⟩) ∧ wc.frozen? ⟨w.heap.size + 1 + 1 + 1, 7, none⟩ = false := by
      rw [← hwwc]; exact (mine_set (mine_set ⟨m242a, m242b⟩ _ _) _ _)
    obtain ⟨x283a, x283b⟩ : wc.cell? ⟨w.heap.size + 1 + 1 + 1, 8, none⟩ = some (cellV wc ⟨w.heap.size + 1 + 1 + 1, 8, none⟩) ∧ wc.frozen? ⟨w.heap.size + 1 + 1 + 1, 8, none⟩ = false := by
      rw [← hwwc]; exact (mine_set (mine_set ⟨m243a, m243b⟩ _ _) _ _)
    obtain ⟨x284a, x284b⟩ : wc.cell? ⟨w.heap.size + 1 + 1 + 1, 9, none⟩ = some (cellV wc ⟨w.heap.size + 1 + 1 + 1, 9, none⟩) ∧ wc.frozen? ⟨w.heap.size + 1 + 1 + 1, 9, none⟩ = false := by
      rw [← hwwc]; exact (mine_set (mine_set ⟨m244a, m244b⟩ _ _) _ _)
    have Bwc : Below w.heap.size w wc := by
      rw [← hwwc]
      (repeat (with_reducible (first | assumption | exact Below.refl _ _ | refine Below.drew ?_ | refine below_drewN ?_ _ | refine below_set ?_ (by simp; try omega) _ | refine below_alloc ?_ (Nat.le_refl _) _ | refine below_sub (by assumption) ?_)))
    clear f229 zf229 f230 f231 zf231 f232 f233 zf233 f234 o245a o245b zo245 o246a o246b o247a o247b o248a o248b o249a o249b o250a o250b o251a o251b o252a o252b o253a o253b o254a o254b m235a m235b zm235 m236a m236b m237a m237b m238a m238b m239a m239b m240a m240b m241a m241b m242a m242b m243a m243b m244a m244b hwwc
    go_cut [11] (fun sE wx => sE = .int .i64 e3 ∧ ∃ wq3, wx = ((wq3.setCell ⟨w7.heap.size, 0, none⟩ (.int .i64 kx)).setCell ⟨w7.heap.size, 1, none⟩ (.int .i64 ky)) ∧ Below wc.heap.size wc wq3)
    case first =>
      go_region_with (first
        | (go_at_call 51; (with_reducible refine (TC _).mono ?_); rintro e w' ⟨rfl, rfl⟩)
        | (go_at_call 53; refine (RC _).mono ?_; rintro e w' ⟨rfl, hb'⟩; refine (fun n0 => ?_) (own_below hb' (a := ⟨w7.heap.size, 0, none⟩) (v := .int .i64 0) ?_); rotate_left; (· (repeat (first | (refine ⟨?_, ?_⟩ <;> (with_reducible assumption)) | (with_reducible apply own_same) | ((with_reducible refine own_set ?_ ?_ _); (· first | (simp; done) | (simp; omega))) | ((with_reducible refine own_new ?_ ?_); (· (simp; done)); (· rfl)) | (with_reducible refine own_alloc ?_ _) | (with_reducible refine own_drew ?_) | (with_reducible refine own_drewN ?_ _) | (with_reducible refine own_below (by assumption) ?_)))); obtain ⟨n0a, n0b⟩ := n0; refine (fun n1 => ?_) (own_below hb' (a := ⟨w7.heap.size, 1, none⟩) (v := .int .i64 0) ?_); rotate_left; (· (repeat (first | (refine ⟨?_, ?_⟩ <;> (with_reducible assumption)) | (with_reducible apply own_same) | ((with_reducible refine own_set ?_ ?_ _); (· first | (simp; done) | (simp; omega))) | ((with_reducible refine own_new ?_ ?_); (· (simp; done)); (· rfl)) | (with_reducible refine own_alloc ?_ _) | (with_reducible refine own_drew ?_) | (with_reducible refine own_drewN ?_ _) | (with_reducible refine own_below (by assumption) ?_)))); obtain ⟨n1a, n1b⟩ := n1))
      all_goals
        go_wp2_with fail
        go_meet
        refine ⟨rfl, _, rfl, ?_⟩
        (repeat (with_reducible (first | assumption | exact Below.refl _ _ | refine Below.drew ?_ | refine below_drewN ?_ _ | refine below_set ?_ (by simp; try omega) _ | refine below_alloc ?_ (Nat.le_refl _) _ | refine below_sub (by assumption) ?_)))
    case rest =>
      obtain ⟨rfl, wq3, rfl, hq3⟩ := hcut
      obtain ⟨t285, t286, t287, t288, t289, t290⟩ : wq3.cell? ⟨w.heap.size, 0, none⟩ = some (.int .i64 ax) ∧ wq3.cell? ⟨w.heap.size, 1, none⟩ = some (.int .i64 ay) ∧ wq3.cell? ⟨w.heap.size + 1, 0, none⟩ = some (.int .i64 bx) ∧ wq3.cell? ⟨w.heap.size + 1, 1, none⟩ = some (.int .i64 b_y) ∧ wq3.cell? ⟨w.heap.size + 1 + 1, 0, none⟩ = some (.int .i64 cx) ∧ wq3.cell? ⟨w.heap.size + 1 + 1, 1, none⟩ = some (.int .i64 cy) := by
        refine ⟨?_, ?_, ?_, ?_, ?_, ?_⟩ <;> (refine cell_below hq3 ?_; repeat (first | (with_reducible assumption) | ((with_reducible refine cell_set ?_ ?_ _); (· first | (simp; done) | (simp; omega) | omega)) | ((with_reducible refine cell_new ?_ ?_); (· (simp; done)); (· rfl)) | (with_reducible refine cell_alloc ?_ _) | (with_reducible refine cell_drew ?_) | (with_reducible refine cell_drewN ?_ _) | (with_reducible refine cell_below (by assumption) ?_)))
      have zt285 : w.heap.size < wq3.heap.size := World.block_lt_of_cell? _ _ t285
      have zt287 : w.heap.size + 1 < wq3.heap.size := World.block_lt_of_cell? _ _ t287
      have zt289 : w.heap.size + 1 + 1 < wq3.heap.size := World.block_lt_of_cell? _ _ t289
      obtain ⟨⟨t291a, t291b⟩, ⟨t292a, t292b⟩, ⟨t293a, t293b⟩, ⟨t294a, t294b⟩, ⟨t295a, t295b⟩, ⟨t296a, t296b⟩, ⟨t297a, t297b⟩, ⟨t298a, t298b⟩, ⟨t299a, t299b⟩, ⟨t300a, t300b⟩⟩ : (wq3.cell? ⟨w7.heap.size, 0, none⟩ = some (.int .i64 0) ∧ wq3.frozen? ⟨w7.heap.size, 0, none⟩ = false) ∧ (wq3.cell? ⟨w7.heap.size, 1, none⟩ = some (.int .i64 0) ∧ wq3.frozen? ⟨w7.heap.size, 1, none⟩ = false) ∧ (wq3.cell? ⟨w7.heap.size, 2, none⟩ = some (.int .i64 r) ∧ wq3.frozen? ⟨w7.heap.size, 2, none⟩ = false) ∧ (wq3.cell? ⟨w7.heap.size, 3, none⟩ = some (.int .i64 fr) ∧ wq3.frozen? ⟨w7.heap.size, 3, none⟩ = false) ∧ (wq3.cell? ⟨w7.heap.size, 4, none⟩ = some (.int .i64 d) ∧ wq3.frozen? ⟨w7.heap.size, 4, none⟩ = false) ∧ (wq3.cell? ⟨w7.heap.size, 5, none⟩ = some (.int .i64 sx) ∧ wq3.frozen? ⟨w7.heap.size, 5, none⟩ = false) ∧ (wq3.cell? ⟨w7.heap.size, 6, none⟩ = some (.int .i64 sy) ∧ wq3.frozen? ⟨w7.heap.size, 6, none⟩ = false) ∧ (wq3.cell? ⟨w7.heap.size, 7, none⟩ = some (.int .i64 ex) ∧ wq3.frozen? ⟨w7.heap.size, 7, none⟩ = false) ∧ (wq3.cell? ⟨w7.heap.size, 8, none⟩ = some (.int .i64 ey) ∧ wq3.frozen? ⟨w7.heap.size, 8, none⟩ = false) ∧ (wq3.cell? ⟨w7.heap.size, 9, none⟩ = some (.int .i64 l) ∧ wq3.frozen? ⟨w7.heap.size, 9, none⟩ = false) := by
        refine ⟨?_, ?_, ?_, ?_, ?_, ?_, ?_, ?_, ?_, ?_⟩ <;> (refine own_below hq3 ?_; repeat (first | (refine ⟨?_, ?_⟩ <;> (with_reducible assumption)) | (with_reducible apply own_same) | ((with_reducible refine own_set ?_ ?_ _); (· first | (simp; done) | (simp; omega))) | ((with_reducible refine own_new ?_ ?_); (· (simp; done)); (· rfl)) | (with_reducible refine own_alloc ?_ _) | (with_reducible refine own_drew ?_) | (with_reducible refine own_drewN ?_ _) | (with_reducible refine own_below (by assumption) ?_)))
      have zt291 : w7.heap.size < wq3.heap.size := World.block_lt_of_cell? _ _ t291a
      obtain ⟨⟨t301a, t301b⟩, ⟨t302a, t302b⟩, ⟨t303a, t303b⟩, ⟨t304a, t304b⟩, ⟨t305a, t305b⟩, ⟨t306a, t306b⟩, ⟨t307a, t307b⟩, ⟨t308a, t308b⟩, ⟨t309a, t309b⟩, ⟨t310a, t310b⟩⟩ : MineC5 wq3 (w.heap.size + 1 + 1 + 1) 0 ∧ MineC5 wq3 (w.heap.size + 1 + 1 + 1) 1 ∧ MineC5 wq3 (w.heap.size + 1 + 1 + 1) 2 ∧ MineC5 wq3 (w.heap.size + 1 + 1 + 1) 3 ∧ MineC5 wq3 (w.heap.size + 1 + 1 + 1) 4 ∧ MineC5 wq3 (w.heap.size + 1 + 1 + 1) 5 ∧ MineC5 wq3 (w.heap.size + 1 + 1 + 1) 6 ∧ MineC5 wq3 (w.heap.size + 1 + 1 + 1) 7 ∧ MineC5 wq3 (w.heap.size + 1 + 1 + 1) 8 ∧ MineC5 wq3 (w.heap.size + 1 + 1 + 1) 9 := by
        refine ⟨?_, ?_, ?_, ?_, ?_, ?_, ?_, ?_, ?_, ?_⟩ <;> (refine mine_below hq3 ?_; repeat (first | (refine ⟨?_, ?_⟩ <;> (with_reducible assumption)) | (with_reducible refine mine_alloc ?_ _) | (with_reducible refine mine_set ?_ _ _) | (with_reducible refine mine_drew ?_) | (with_reducible refine mine_drewN ?_ _) | (with_reducible refine mine_below (by assumption) ?_)))
      have zt301 : w.heap.size + 1 + 1 + 1 < wq3.heap.size := World.block_lt_of_cell? _ _ t301a
      clear x259 zzx259 x260 x261 zzx261 x262 x263 zzx263 x264 x265a x265b zzx265a x266a x266b x267a x267b x268a x268b x269a x269b x270a x270b x271a x271b x272a x272b x273a x273b x274a x274b x275a x275b zzx275a x276a x276b x277a x277b x278a x278b x279a x279b x280a x280b x281a x281b x282a x282b x283a x283b x284a x284b
      generalize hwwd : ((wq3.setCell ⟨w7.heap.size, 0, none⟩ (.int .i64 kx)).setCell ⟨w7.heap.size, 1, none⟩ (.int .i64 ky)) = wd
      have ne311 : w7.heap.size ≠ w.heap.size := by omega
      have ne312 : w7.heap.size ≠ w.heap.size + 1 := by omega
      have ne313 : w7.heap.size ≠ w.heap.size + 1 + 1 := by omega
      have ne314 : w7.heap.size ≠ w.heap.size + 1 + 1 + 1 := by omega
      have x315 : wd.cell? ⟨w.heap.size, 0, none⟩ = some (.int .i64 ax) := by
        rw [← hwwd]; exact (cell_set ne311 (cell_set ne311 t285 _) _)
      have zzx315 : w.heap.size < wd.heap.size := World.block_lt_of_cell? _ _ x315
      have x316 : wd.cell? ⟨w.heap.size, 1, none⟩ = some (.int .i64 ay) := by
        rw [← hwwd]; exact (cell_set ne311 (cell_set ne311 t286 _) _)
      have x317 : wd.cell? ⟨w.heap.size + 1, 0, none⟩ = some (.int .i64 bx) := by
        rw [← hwwd]; exact (cell_set ne312 (cell_set ne312 t287 _) _)
      have zzx317 : w.heap.size + 1 < wd.heap.size := World.block_lt_of_cell? _ _ x317
      have x318 : wd.cell? ⟨w.heap.size + 1, 1, none⟩ = some (.int .i64 b_y) := by
        rw [← hwwd]; exact (cell_set ne312 (cell_set ne312 t288 _) _)
      have x319 : wd.cell? ⟨w.heap.size + 1 + 1, 0, none⟩ = some (.int .i64 cx) := by
        rw [← hwwd]; exact (cell_set ne313 (cell_set ne313 t289 _) _)
      have zzx319 : w.heap.size + 1 + 1 < wd.heap.size := World.block_lt_of_cell? _ _ x319
      have x320 : wd.cell? ⟨w.heap.size + 1 + 1, 1, none⟩ = some (.int .i64 cy) := by
        rw [← hwwd]; exact (cell_set ne313 (cell_set ne313 t290 _) _)
      obtain ⟨x321a, x321b⟩ : wd.cell? ⟨w7.heap.size, 0, none⟩ = some (.int .i64 kx) ∧ wd.frozen? ⟨w7.heap.size, 0, none⟩ = false := by
        rw [← hwwd]; exact (own_set (by simp) (own_same ⟨t291a, t291b⟩ _) _)
      have zzx321a : w7.heap.size < wd.heap.size := World.block_lt_of_cell? _ _ x321a
      obtain ⟨x322a, x322b⟩ : wd.cell? ⟨w7.heap.size, 1, none⟩ = some (.int .i64 ky) ∧ wd.frozen? ⟨w7.heap.size, 1, none⟩ = false := by
        rw [← hwwd]; exact (own_same (own_set (by simp) ⟨t292a, t292b⟩ _) _)
      obtain ⟨x323a, x323b⟩ : wd.cell? ⟨w7.heap.size, 2, none⟩ = some (.int .i64 r) ∧ wd.frozen? ⟨w7.heap.size, 2, none⟩ = false := by
        rw [← hwwd]; exact (own_set (by simp) (own_set (by simp) ⟨t293a, t293b⟩ _) _)
      obtain ⟨x324a, x324b⟩ : wd.cell? ⟨w7.heap.size, 3, none⟩ = some (.int .i64 fr) ∧ wd.frozen? ⟨w7.heap.size, 3, none⟩ = false := by
        rw [← hwwd]; exact (own_set (by simp) (own_set (by simp) ⟨t294a, t294b⟩ _) _)
      obtain ⟨x325a, x325b⟩ : wd.cell? ⟨w7.heap.size, 4, none⟩ = some (.int .i64 d) ∧ wd.frozen? ⟨w7.heap.size, 4, none⟩ = false := by
        rw [← hwwd]; exact (own_set (by simp) (own_set (by simp) ⟨t295a, t295b⟩ _) _)
      obtain ⟨x326a, x326b⟩ : wd.cell? ⟨w7.heap.size, 5, none⟩ = some (.int .i64 sx) ∧ wd.frozen? ⟨w7.heap.size, 5, none⟩ = false := by
        rw [← hwwd]; exact (own_set (by simp) (own_set (by simp) ⟨t296a, t296b⟩ _) _)
      obtain ⟨x327a, x327b⟩ : wd.cell? ⟨w7.heap.size, 6, none⟩ = some (.int .i64 sy) ∧ wd.frozen? ⟨w7.heap.size, 6, none⟩ = false := by
        rw [← hwwd]; exact (own_set (by simp) (own_set (by simp) ⟨t297a, t297b⟩ _) _)
      obtain ⟨x328a, x328b⟩ : wd.cell? ⟨w7.heap.size, 7, none⟩ = some (.int .i64 ex) ∧ wd.frozen? ⟨w7.heap.size, 7, none⟩ = false := by
        rw [← hwwd]; exact (own_set (by simp) (own_set (by simp) ⟨t298a, t298b⟩ _) _)
      obtain ⟨x329a, x329b⟩ : wd.cell? ⟨w7.heap.size, 8, none⟩ = some (.int .i64 ey) ∧ wd.frozen? ⟨w7.heap.size, 8, none⟩ = false := by
        rw [← hwwd]; exact (own_set (by simp) (own_set (by simp) ⟨t299a, t299b⟩ _) _)
      obtain ⟨x330a, x330b⟩ : wd.cell? ⟨w7.heap.size, 9, none⟩ = some (.int .i64 l) ∧ wd.frozen? ⟨w7.heap.size, 9, none⟩ = false := by
        rw [← hwwd]; exact (own_set (by simp) (own_set (by simp) ⟨t300a, t300b⟩ _) _)
      obtain ⟨x331a, x331b⟩ : wd.cell? ⟨w.heap.size + 1 + 1 + 1, 0, none⟩ = some (cellV wd ⟨w.heap.size + 1 + 1 + 1, 0, none⟩) ∧ wd.frozen? ⟨w.heap.size + 1 + 1 + 1, 0, none⟩ = false := by
        rw [← hwwd]; exact (mine_set (mine_set ⟨t301a, t301b⟩ _ _) _ _)
      have zzx331a : w.heap.size + 1 + 1 + 1 < wd.heap.size := World.block_lt_of_cell? _ _ x331a
      obtain ⟨x332a, x332b⟩ : wd.cell? ⟨w.heap.size + 1 + 1 + 1, 1, none⟩ = some (cellV wd ⟨w.heap.size + 1 + 1 + 1, 1, none⟩) ∧ wd.frozen? ⟨w.heap.size + 1 + 1 + 1, 1, none⟩ = false := by
        rw [← hwwd]; exact (mine_set (mine_set ⟨t302a, t302b⟩ _ _) _ _)
      obtain ⟨x333a, x333b⟩ : wd.cell? ⟨w.heap.size + 1 + 1 + 1, 2, none⟩ = some (cellV wd ⟨w.heap.size + 1 + 1 + 1, 2, none⟩) ∧ wd.frozen? ⟨w.heap.size + 1 + 1 + 1, 2, none⟩ = false := by
        rw [← hwwd]; exact (mine_set (mine_set ⟨t303a, t303b⟩ _ _) _ _)
      obtain ⟨x334a, x334b⟩ : wd.cell? ⟨w.heap.size + 1 + 1 + 1, 3, none⟩ = some (cellV wd ⟨w.heap.size + 1 + 1 + 1, 3, none⟩) ∧ wd.frozen? ⟨w.heap.size + 1 + 1 + 1, 3, none⟩ = false := by
        rw [← hwwd]; exact (mine_set (mine_set ⟨t304a, t304b⟩ _ _) _ _)
      obtain ⟨x335a, x335b⟩ : wd.cell? ⟨w.heap.size + 1 + 1 + 1, 4, none⟩ = some (cellV wd ⟨w.heap.size + 1 + 1 + 1, 4, none⟩) ∧ wd.frozen? ⟨w.heap.size + 1 + 1 + 1, 4, none⟩ = false := by
        rw [← hwwd]; exact (mine_set (mine_set ⟨t305a, t305b⟩ _ _) _ _)
      obtain ⟨x336a, x336b⟩ : wd.cell? ⟨w.heap.size + 1 + 1 + 1, 5, none⟩ = some (cellV wd ⟨w.heap.size + 1 + 1 + 1, 5, none⟩) ∧ wd.frozen? ⟨w.heap.size + 1 + 1 + 1, 5, none⟩ = false := by
        rw [← hwwd]; exact (mine_set (mine_set ⟨t306a, t306b⟩ _ _) _ _)
      obtain ⟨x337a, x337b⟩ : wd.cell? ⟨w.heap.size + 1 + 1 + 1, 6, none⟩ = some (cellV wd ⟨w.heap.size + 1 + 1 + 1, 6, none⟩) ∧ wd.frozen? ⟨w.heap.size + 1 + 1 + 1, 6, none⟩ = false := by
        rw [← hwwd]; exact (mine_set (mine_set ⟨t307a, t307b⟩ _ _) _ _)
      obtain ⟨x338a, x338b⟩ : wd.cell? ⟨w.heap.size + 1 + 1 + 1, 7, none⟩ = some (cellV wd ⟨w.heap.size + 1 + 1 + 1, 7, none⟩) ∧ wd.frozen? ⟨w.heap.size + 1 + 1 + 1, 7, none⟩ = false := by
        rw [← hwwd]; exact (mine_set (mine_set ⟨t308a, t308b⟩ _ _) _ _)
      obtain ⟨x339a, x339b⟩ : wd.cell? ⟨w.heap.size + 1 + 1 + 1, 8, none⟩ = some (cellV wd ⟨w.heap.size + 1 + 1 + 1, 8, none⟩) ∧ wd.frozen? ⟨w.heap.size + 1 + 1 + 1, 8, none⟩ = false := by
        rw [← hwwd]; exact (mine_set (mine_set ⟨t309a, t309b⟩ _ _) _ _)
      obtain ⟨x340a, x340b⟩ : wd.cell? ⟨w.heap.size + 1 + 1 + 1, 9, none⟩ = some (cellV wd ⟨w.heap.size + 1 + 1 + 1, 9, none⟩) ∧ wd.frozen? ⟨w.heap.size + 1 + 1 + 1, 9, none⟩ = false := by
        rw [← hwwd]; exact (mine_set (mine_set ⟨t310a, t310b⟩ _ _) _ _)
      have Bwd : Below w.heap.size w wd := by
        rw [← hwwd]
        (repeat (with_reducible (first | assumption | exact Below.refl _ _ | refine Below.drew ?_ | refine below_drewN ?_ _ | refine below_set ?_ (by simp; try omega) _ | refine below_alloc ?_ (Nat.le_refl _) _ | refine below_sub (by assumption) ?_)))
      clear t285 zt285 t286 t287 zt287 t288 t289 zt289 t290 t291a t291b zt291 t292a t292b t293a t293b t294a t294b t295a t295b t296a t296b t297a t297b t298a t298b t299a t299b t300a t300b t301a t301b zt301 t302a t302b t303a t303b t304a t304b t305a t305b t306a t306b t307a t307b t308a t308b t309a t309b t310a t310b hwwd
      by_cases hE3 : e3 = 0
      rotate_left
      · have hz : (([v0, v1, v2, v3, v4, v5, v6, v7, v8, v9], e0) : List Int × Int) = (zeros10, 2) := by rw [hR, if_neg (fun h => h hE1), if_neg (fun h => h hE2), if_pos hE3]
        exact absurd (he0.out.symm.trans (congrArg Prod.snd hz)) (show ¬ (0 : Int) = 2 by decide)
      rw [if_neg (fun h => h hE1), if_neg (fun h => h hE2), if_neg (fun h => h hE3)] at hR
      obtain ⟨⟨rfl, rfl, rfl, rfl, rfl⟩, ⟨rfl, rfl, rfl, rfl, rfl⟩, rfl⟩ := fly_eq hR.symm
      go_wp2_with fail
      clear RS RE RC OP SQ MU SN CN DF AB DA DB PV0 PV1 PV2 CA CB x315 zzx315 x316 x317 zzx317 x318 x319 zzx319 x320 x321a x321b zzx321a x322a x322b x323a x323b x324a x324b x325a x325b x326a x326b x327a x327b x328a x328b x329a x329b x330a x330b
      exact bodyPost_ret (v := .tuple #[.agg #[.int .i64 kx, .int .i64 ky, .int .i64 r, .int .i64 fr, .int .i64 d, .int .i64 sx, .int .i64 sy, .int .i64 ex, .int .i64 ey, .int .i64 l], .int .i64 0]) (by simp [results, Tryz.results135, go_sem, *]) rfl ⟨rfl, by (repeat (with_reducible (first | assumption | exact Below.refl _ _ | refine Below.drew ?_ | refine below_drewN ?_ _ | refine below_set ?_ (by simp; try omega) _ | refine below_alloc ?_ (Nat.le_refl _) _ | refine below_sub (by assumption) ?_)))⟩
end Go.Proofs.YtapgmnjpfcohhaaGreatDoor
