/-
  The walk of the law TurnTangents.
-/
import Derived.Test.YteedgcffdgkicaaMAwakeT
import Derived.Test.YteedgcffdgkicaaMTurnEr
import Derived.Test.YteedgcffdgkicaaRows
import Derived.Test.YteedgcffdgkicaaMFrame
namespace Go.Proofs.Yteedgcffdgkicaa
open Go.RowKit
set_option linter.unusedVariables false
set_option linter.unusedSimpArgs false
set_option maxRecDepth 100000 in
set_option maxHeartbeats 4000000 in
theorem turnTangents_walk (ax ay bx b_y cx cy r : Int) (right : Bool) (hax : I64 ax) (hay : I64 ay) (hbx : I64 bx) (hb_y : I64 b_y) (hcx : I64 cx) (hcy : I64 cy) (hr : I64 r) (w : World) :
    Calls Try.prog 9 #[.agg #[.int .i64 ax, .int .i64 ay, .int .i64 bx, .int .i64 b_y, .int .i64 cx, .int .i64 cy, .int .i64 r], .bool right] w fun e w' => e = .returned (.bool true) ∧ Below w.heap.size w w' := by
  rcases right with _ | _
  · obtain ⟨X, Y, E, hR⟩ := tan_cells ax ay r bx b_y false
    have HR := hide hR
    clear hR
    go_enter Try.func9, Try.ntmps9
    go_wp2_with fail
    refine (awake12_any _).mono ?_
    rintro e w1 ⟨rfl, hb1⟩
    obtain ⟨f1, f2, f3, f4, f5, f6, f7⟩ : w1.cell? ⟨w.heap.size, 0, none⟩ = some (.int .i64 ax) ∧ w1.cell? ⟨w.heap.size, 1, none⟩ = some (.int .i64 ay) ∧ w1.cell? ⟨w.heap.size, 2, none⟩ = some (.int .i64 bx) ∧ w1.cell? ⟨w.heap.size, 3, none⟩ = some (.int .i64 b_y) ∧ w1.cell? ⟨w.heap.size, 4, none⟩ = some (.int .i64 cx) ∧ w1.cell? ⟨w.heap.size, 5, none⟩ = some (.int .i64 cy) ∧ w1.cell? ⟨w.heap.size, 6, none⟩ = some (.int .i64 r) := by
      refine ⟨?_, ?_, ?_, ?_, ?_, ?_, ?_⟩ <;> (refine cell_below hb1 ?_; repeat (first | (with_reducible assumption) | (with_reducible refine cell_drew ?_) | (with_reducible refine cell_drewN ?_ _) | (with_reducible refine cell_below (by assumption) ?_) | ((with_reducible refine cell_new ?_ ?_); (· (simp; done)); (· rfl)) | (with_reducible refine cell_alloc ?_ _) | ((with_reducible refine cell_set ?_ ?_ _); (· first | (simp; done) | (simp; omega) | omega))))
    have zf1 : w.heap.size < w1.heap.size := World.block_lt_of_cell? _ _ f1
    go_wp2_with fail
    refine (tan_l ax ay r bx b_y hr _ X Y E HR.out).mono ?_
    rintro e w2 ⟨rfl, hb2⟩
    obtain ⟨f8, f9, f10, f11, f12, f13, f14⟩ : w2.cell? ⟨w.heap.size, 0, none⟩ = some (.int .i64 ax) ∧ w2.cell? ⟨w.heap.size, 1, none⟩ = some (.int .i64 ay) ∧ w2.cell? ⟨w.heap.size, 2, none⟩ = some (.int .i64 bx) ∧ w2.cell? ⟨w.heap.size, 3, none⟩ = some (.int .i64 b_y) ∧ w2.cell? ⟨w.heap.size, 4, none⟩ = some (.int .i64 cx) ∧ w2.cell? ⟨w.heap.size, 5, none⟩ = some (.int .i64 cy) ∧ w2.cell? ⟨w.heap.size, 6, none⟩ = some (.int .i64 r) := by
      refine ⟨?_, ?_, ?_, ?_, ?_, ?_, ?_⟩ <;> (refine cell_below hb2 ?_; repeat (first | (with_reducible assumption) | (with_reducible refine cell_drew ?_) | (with_reducible refine cell_drewN ?_ _) | (with_reducible refine cell_below (by assumption) ?_) | ((with_reducible refine cell_new ?_ ?_); (· (simp; done)); (· rfl)) | (with_reducible refine cell_alloc ?_ _) | ((with_reducible refine cell_set ?_ ?_ _); (· first | (simp; done) | (simp; omega) | omega))))
    have zf8 : w.heap.size < w2.heap.size := World.block_lt_of_cell? _ _ f8
    clear f1 zf1 f2 f3 f4 f5 f6 f7
    go_wp2_with fail
    refine (rtan_l ax ay r bx b_y hr _ X Y E HR.out).mono ?_
    rintro e w3 ⟨rfl, hb3⟩
    obtain ⟨f15, f16, f17, f18, f19, f20, f21, f22, f23⟩ : w3.cell? ⟨w.heap.size, 0, none⟩ = some (.int .i64 ax) ∧ w3.cell? ⟨w.heap.size, 1, none⟩ = some (.int .i64 ay) ∧ w3.cell? ⟨w.heap.size, 2, none⟩ = some (.int .i64 bx) ∧ w3.cell? ⟨w.heap.size, 3, none⟩ = some (.int .i64 b_y) ∧ w3.cell? ⟨w.heap.size, 4, none⟩ = some (.int .i64 cx) ∧ w3.cell? ⟨w.heap.size, 5, none⟩ = some (.int .i64 cy) ∧ w3.cell? ⟨w.heap.size, 6, none⟩ = some (.int .i64 r) ∧ w3.cell? ⟨w2.heap.size, 0, none⟩ = some (.int .i64 X) ∧ w3.cell? ⟨w2.heap.size, 1, none⟩ = some (.int .i64 Y) := by
      refine ⟨?_, ?_, ?_, ?_, ?_, ?_, ?_, ?_, ?_⟩ <;> (refine cell_below hb3 ?_; repeat (first | (with_reducible assumption) | (with_reducible refine cell_drew ?_) | (with_reducible refine cell_drewN ?_ _) | (with_reducible refine cell_below (by assumption) ?_) | ((with_reducible refine cell_new ?_ ?_); (· (simp; done)); (· rfl)) | (with_reducible refine cell_alloc ?_ _) | ((with_reducible refine cell_set ?_ ?_ _); (· first | (simp; done) | (simp; omega) | omega))))
    have zf15 : w.heap.size < w3.heap.size := World.block_lt_of_cell? _ _ f15
    have zf22 : w2.heap.size < w3.heap.size := World.block_lt_of_cell? _ _ f22
    clear f8 zf8 f9 f10 f11 f12 f13 f14
    go_wp2_with fail
    refine (tan_o ax ay r bx b_y _).mono ?_
    rintro e w4 ⟨rfl, hb4⟩
    obtain ⟨f24, f25, f26, f27, f28, f29, f30, f31, f32, f33, f34⟩ : w4.cell? ⟨w.heap.size, 0, none⟩ = some (.int .i64 ax) ∧ w4.cell? ⟨w.heap.size, 1, none⟩ = some (.int .i64 ay) ∧ w4.cell? ⟨w.heap.size, 2, none⟩ = some (.int .i64 bx) ∧ w4.cell? ⟨w.heap.size, 3, none⟩ = some (.int .i64 b_y) ∧ w4.cell? ⟨w.heap.size, 4, none⟩ = some (.int .i64 cx) ∧ w4.cell? ⟨w.heap.size, 5, none⟩ = some (.int .i64 cy) ∧ w4.cell? ⟨w.heap.size, 6, none⟩ = some (.int .i64 r) ∧ w4.cell? ⟨w2.heap.size, 0, none⟩ = some (.int .i64 X) ∧ w4.cell? ⟨w2.heap.size, 1, none⟩ = some (.int .i64 Y) ∧ w4.cell? ⟨w3.heap.size, 0, none⟩ = some (.int .i64 X) ∧ w4.cell? ⟨w3.heap.size, 1, none⟩ = some (.int .i64 Y) := by
      refine ⟨?_, ?_, ?_, ?_, ?_, ?_, ?_, ?_, ?_, ?_, ?_⟩ <;> (refine cell_below hb4 ?_; repeat (first | (with_reducible assumption) | (with_reducible refine cell_drew ?_) | (with_reducible refine cell_drewN ?_ _) | (with_reducible refine cell_below (by assumption) ?_) | ((with_reducible refine cell_new ?_ ?_); (· (simp; done)); (· rfl)) | (with_reducible refine cell_alloc ?_ _) | ((with_reducible refine cell_set ?_ ?_ _); (· first | (simp; done) | (simp; omega) | omega))))
    have zf24 : w.heap.size < w4.heap.size := World.block_lt_of_cell? _ _ f24
    have zf31 : w2.heap.size < w4.heap.size := World.block_lt_of_cell? _ _ f31
    have zf33 : w3.heap.size < w4.heap.size := World.block_lt_of_cell? _ _ f33
    clear f15 zf15 f16 f17 f18 f19 f20 f21 f22 zf22 f23
    go_wp2_with fail
    all_goals
      go_ret
      exact ⟨rfl, by (repeat (with_reducible (first | assumption | exact Below.refl _ _ | refine Below.drew ?_ | refine below_drewN ?_ _ | refine below_set ?_ (by simp; try omega) _ | refine below_alloc ?_ (Nat.le_refl _) _ | refine below_sub (by assumption) ?_)))⟩
  · obtain ⟨X, Y, E, hR⟩ := tan_cells ax ay r bx b_y true
    have HR := hide hR
    clear hR
    go_enter Try.func9, Try.ntmps9
    go_wp2_with fail
    refine (awake12_any _).mono ?_
    rintro e w1 ⟨rfl, hb1⟩
    obtain ⟨f1, f2, f3, f4, f5, f6, f7⟩ : w1.cell? ⟨w.heap.size, 0, none⟩ = some (.int .i64 ax) ∧ w1.cell? ⟨w.heap.size, 1, none⟩ = some (.int .i64 ay) ∧ w1.cell? ⟨w.heap.size, 2, none⟩ = some (.int .i64 bx) ∧ w1.cell? ⟨w.heap.size, 3, none⟩ = some (.int .i64 b_y) ∧ w1.cell? ⟨w.heap.size, 4, none⟩ = some (.int .i64 cx) ∧ w1.cell? ⟨w.heap.size, 5, none⟩ = some (.int .i64 cy) ∧ w1.cell? ⟨w.heap.size, 6, none⟩ = some (.int .i64 r) := by
      refine ⟨?_, ?_, ?_, ?_, ?_, ?_, ?_⟩ <;> (refine cell_below hb1 ?_; repeat (first | (with_reducible assumption) | (with_reducible refine cell_drew ?_) | (with_reducible refine cell_drewN ?_ _) | (with_reducible refine cell_below (by assumption) ?_) | ((with_reducible refine cell_new ?_ ?_); (· (simp; done)); (· rfl)) | (with_reducible refine cell_alloc ?_ _) | ((with_reducible refine cell_set ?_ ?_ _); (· first | (simp; done) | (simp; omega) | omega))))
    have zf1 : w.heap.size < w1.heap.size := World.block_lt_of_cell? _ _ f1
    go_wp2_with fail
    refine (tan_r ax ay r bx b_y hr _ X Y E HR.out).mono ?_
    rintro e w2 ⟨rfl, hb2⟩
    obtain ⟨f8, f9, f10, f11, f12, f13, f14⟩ : w2.cell? ⟨w.heap.size, 0, none⟩ = some (.int .i64 ax) ∧ w2.cell? ⟨w.heap.size, 1, none⟩ = some (.int .i64 ay) ∧ w2.cell? ⟨w.heap.size, 2, none⟩ = some (.int .i64 bx) ∧ w2.cell? ⟨w.heap.size, 3, none⟩ = some (.int .i64 b_y) ∧ w2.cell? ⟨w.heap.size, 4, none⟩ = some (.int .i64 cx) ∧ w2.cell? ⟨w.heap.size, 5, none⟩ = some (.int .i64 cy) ∧ w2.cell? ⟨w.heap.size, 6, none⟩ = some (.int .i64 r) := by
      refine ⟨?_, ?_, ?_, ?_, ?_, ?_, ?_⟩ <;> (refine cell_below hb2 ?_; repeat (first | (with_reducible assumption) | (with_reducible refine cell_drew ?_) | (with_reducible refine cell_drewN ?_ _) | (with_reducible refine cell_below (by assumption) ?_) | ((with_reducible refine cell_new ?_ ?_); (· (simp; done)); (· rfl)) | (with_reducible refine cell_alloc ?_ _) | ((with_reducible refine cell_set ?_ ?_ _); (· first | (simp; done) | (simp; omega) | omega))))
    have zf8 : w.heap.size < w2.heap.size := World.block_lt_of_cell? _ _ f8
    clear f1 zf1 f2 f3 f4 f5 f6 f7
    go_wp2_with fail
    refine (rtan_r ax ay r bx b_y hr _ X Y E HR.out).mono ?_
    rintro e w3 ⟨rfl, hb3⟩
    obtain ⟨f15, f16, f17, f18, f19, f20, f21, f22, f23⟩ : w3.cell? ⟨w.heap.size, 0, none⟩ = some (.int .i64 ax) ∧ w3.cell? ⟨w.heap.size, 1, none⟩ = some (.int .i64 ay) ∧ w3.cell? ⟨w.heap.size, 2, none⟩ = some (.int .i64 bx) ∧ w3.cell? ⟨w.heap.size, 3, none⟩ = some (.int .i64 b_y) ∧ w3.cell? ⟨w.heap.size, 4, none⟩ = some (.int .i64 cx) ∧ w3.cell? ⟨w.heap.size, 5, none⟩ = some (.int .i64 cy) ∧ w3.cell? ⟨w.heap.size, 6, none⟩ = some (.int .i64 r) ∧ w3.cell? ⟨w2.heap.size, 0, none⟩ = some (.int .i64 X) ∧ w3.cell? ⟨w2.heap.size, 1, none⟩ = some (.int .i64 Y) := by
      refine ⟨?_, ?_, ?_, ?_, ?_, ?_, ?_, ?_, ?_⟩ <;> (refine cell_below hb3 ?_; repeat (first | (with_reducible assumption) | (with_reducible refine cell_drew ?_) | (with_reducible refine cell_drewN ?_ _) | (with_reducible refine cell_below (by assumption) ?_) | ((with_reducible refine cell_new ?_ ?_); (· (simp; done)); (· rfl)) | (with_reducible refine cell_alloc ?_ _) | ((with_reducible refine cell_set ?_ ?_ _); (· first | (simp; done) | (simp; omega) | omega))))
    have zf15 : w.heap.size < w3.heap.size := World.block_lt_of_cell? _ _ f15
    have zf22 : w2.heap.size < w3.heap.size := World.block_lt_of_cell? _ _ f22
    clear f8 zf8 f9 f10 f11 f12 f13 f14
    go_wp2_with fail
    refine (tan_o ax ay r bx b_y _).mono ?_
    rintro e w4 ⟨rfl, hb4⟩
    obtain ⟨f24, f25, f26, f27, f28, f29, f30, f31, f32, f33, f34⟩ : w4.cell? ⟨w.heap.size, 0, none⟩ = some (.int .i64 ax) ∧ w4.cell? ⟨w.heap.size, 1, none⟩ = some (.int .i64 ay) ∧ w4.cell? ⟨w.heap.size, 2, none⟩ = some (.int .i64 bx) ∧ w4.cell? ⟨w.heap.size, 3, none⟩ = some (.int .i64 b_y) ∧ w4.cell? ⟨w.heap.size, 4, none⟩ = some (.int .i64 cx) ∧ w4.cell? ⟨w.heap.size, 5, none⟩ = some (.int .i64 cy) ∧ w4.cell? ⟨w.heap.size, 6, none⟩ = some (.int .i64 r) ∧ w4.cell? ⟨w2.heap.size, 0, none⟩ = some (.int .i64 X) ∧ w4.cell? ⟨w2.heap.size, 1, none⟩ = some (.int .i64 Y) ∧ w4.cell? ⟨w3.heap.size, 0, none⟩ = some (.int .i64 X) ∧ w4.cell? ⟨w3.heap.size, 1, none⟩ = some (.int .i64 Y) := by
      refine ⟨?_, ?_, ?_, ?_, ?_, ?_, ?_, ?_, ?_, ?_, ?_⟩ <;> (refine cell_below hb4 ?_; repeat (first | (with_reducible assumption) | (with_reducible refine cell_drew ?_) | (with_reducible refine cell_drewN ?_ _) | (with_reducible refine cell_below (by assumption) ?_) | ((with_reducible refine cell_new ?_ ?_); (· (simp; done)); (· rfl)) | (with_reducible refine cell_alloc ?_ _) | ((with_reducible refine cell_set ?_ ?_ _); (· first | (simp; done) | (simp; omega) | omega))))
    have zf24 : w.heap.size < w4.heap.size := World.block_lt_of_cell? _ _ f24
    have zf31 : w2.heap.size < w4.heap.size := World.block_lt_of_cell? _ _ f31
    have zf33 : w3.heap.size < w4.heap.size := World.block_lt_of_cell? _ _ f33
    clear f15 zf15 f16 f17 f18 f19 f20 f21 f22 zf22 f23
    go_wp2_with fail
    all_goals
      go_ret
      exact ⟨rfl, by (repeat (with_reducible (first | assumption | exact Below.refl _ _ | refine Below.drew ?_ | refine below_drewN ?_ _ | refine below_set ?_ (by simp; try omega) _ | refine below_alloc ?_ (Nat.le_refl _) _ | refine below_sub (by assumption) ?_)))⟩
end Go.Proofs.Yteedgcffdgkicaa

/-
  TurnTangents: the row's step: the given statement 'TurnTangentsSaid' out of the walk.
-/
namespace Go.Proofs.Yteedgcffdgkicaa.turnTangents
open Go.ChangeShapes Go.WideShapes Go.ChangeAt Go.RowKit
set_option linter.unusedVariables false

theorem own : ownKnob Try.prog.godebug = none := by kernel_rfl
theorem laidOut : laidOutB Try.prog = true := pf_laid
theorem typed : (Try.f9.params.toList.all fun t => Try.prog.readableRec t && decide (t < Try.prog.types.size)) = true := by kernel_rfl
theorem typed' : ∀ t ∈ Try.f9.params.toList, Try.prog.readableRec t = true ∧ t < Try.prog.types.size := by
  intro t ht
  have h := List.all_eq_true.1 typed t ht
  simpa using h
theorem ct38 : Try.prog.cellTypes Try.prog.depth 38 = some (List.replicate 7 2) := by kernel_rfl
theorem cn38 : Try.prog.cellsOf 38 = (List.replicate 7 2).length := by kernel_rfl
set_option maxRecDepth 100000 in
theorem lifted (os : Os) (started : os.Started) (H : Type) (enc : TypeId × Value → H) :
    ReturnsInHanded {} Try.checked os 9 .any (Rows.turnTangentsSpec.pre6 enc Try.prog Try.f9 Rows.turnTangentsRow.domain false) (Rows.turnTangentsSpec.post enc Try.prog Try.f9 false true false false) := by
  refine returnsInHanded_of_change (C := Try.checked) own started (by kernel_rfl) Try.func9
    (ChangeSpec.witness6 (enc := enc) (C := Try.checked) false ⟨#[], #[.agg #[.int .i64 0, .int .i64 0, .int .i64 0, .int .i64 0, .int .i64 0, .int .i64 0, .int .i64 0], .bool false], []⟩ 8 (by kernel_rfl) (by kernel_rfl) (by kernel_rfl) (by kernel_rfl)) ?_
  intro W base args ds gs before hval0 hW hcnd _
  have hval : ∀ (j : Nat) t v, Try.f9.params[j]? = some t → args[j]? = some v → Value.okWide Try.prog W .any base t v := hval0
  have hW' := hW
  obtain ⟨p, q, hA0, hV, rfl, hfz, hnd⟩ := hW
  have hlen := trodAll_length _ _ _ _ hA0
  rw [Try.params9] at hval hlen
  obtain ⟨v0, v1, rfl⟩ := arr2 hlen.1
  obtain ⟨d0, d1, rfl⟩ := list2 hlen.2
  obtain ⟨lx, rfl, ex, hlx⟩ := ok_ints (Or.inl ⟨_, Try.underlying38⟩) ct38 cn38 (fun u hu => by rw [List.eq_of_mem_replicate hu]; exact Try.underlying2) (hval 0 38 v0 rfl rfl)
  obtain ⟨x0, x1, x2, x3, x4, x5, x6, rfl⟩ := list7 (ex.trans (by simp))
  have hx0 : I64 x0 := hlx _ (by simp)
  have hx1 : I64 x1 := hlx _ (by simp)
  have hx2 : I64 x2 := hlx _ (by simp)
  have hx3 : I64 x3 := hlx _ (by simp)
  have hx4 : I64 x4 := hlx _ (by simp)
  have hx5 : I64 x5 := hlx _ (by simp)
  have hx6 : I64 x6 := hlx _ (by simp)
  obtain ⟨right, rfl⟩ := ok_bool Try.underlying4 (hval 1 4 v1 rfl rfl)
  refine (turnTangents_walk x0 x1 x2 x3 x4 x5 x6 right hx0 hx1 hx2 hx3 hx4 hx5 hx6 W).mono fun e W' ⟨he, hb⟩ => ?_
  subst he
  exact ⟨_, rfl, law_post (f := Try.f9) (s := Rows.turnTangentsSpec) (tb := 4) laidOut typed' rfl (by kernel_rfl) Try.underlying4 hW' ⟨rfl, rfl, rfl⟩ hb⟩

theorem k0 : (Rows.turnTangentsRow.wf (OpenSpec.ofChange Rows.turnTangentsSpec)) = true := by kernel_rfl
theorem k3 : (Try.f9.params.all (Try.prog.readableRec ·)) = true := by kernel_rfl
theorem k4 : (namedTie Try.prog Rows.turnTangentsRow.named Rows.turnTangentsSpec.vars) = true := by kernel_rfl
theorem k5 : (Rows.turnTangentsRow.stops == []) = true := by kernel_rfl
theorem k7 : (Rows.turnTangentsRow.knobs == []) = true := by kernel_rfl
theorem k9 : (Rows.turnTangentsRow.inPlace == Try.prog.inPlace 9) = true := by kernel_rfl
theorem k10 : (Rows.turnTangentsRow.unfollowed == Try.prog.unfollowed 9) = true := by kernel_rfl
theorem k11 : (Rows.turnTangentsRow.recurses == Try.prog.recurses 9) = true := by kernel_rfl
theorem k12 : (Rows.turnTangentsRow.named == Try.prog.varsNamed 9) = true := by kernel_rfl
theorem k13 : (Rows.turnTangentsRow.maps == (Try.f9.params.toList ++ Rows.turnTangentsSpec.plain.varTypes Try.prog).any (Try.prog.mapsRec ·)) = true := by kernel_rfl
theorem k14 : (Rows.turnTangentsRow.ifaces == (Try.f9.params.toList ++ Rows.turnTangentsSpec.plain.varTypes Try.prog).any (Try.prog.ifacesRec ·)) = true := by kernel_rfl
theorem k15 : (Rows.turnTangentsRow.mapsOut == Try.prog.mapsAmong Try.f9.resultTypes.toList) = true := by kernel_rfl
theorem k16 : (Rows.turnTangentsRow.loops == (Try.f9.params.toList ++ Rows.turnTangentsSpec.plain.varTypes Try.prog).any (Try.prog.loopsFrom ·)) = true := by kernel_rfl
theorem k17 : (Rows.turnTangentsRow.wideKeys == (Try.f9.params.toList ++ Rows.turnTangentsSpec.plain.varTypes Try.prog ++ Try.f9.resultTypes.toList).any (Try.prog.wideKeysFrom ·)) = true := by kernel_rfl
theorem k18 : (Rows.turnTangentsSpec.vars.all (Try.prog.varReadable ·)) = true := by kernel_rfl
theorem k19 : (Try.f9.resultTypes.all (fun t => Try.prog.readableRec t && decide (t < Try.prog.types.size))) = true := by kernel_rfl
theorem k20 : (Rows.turnTangentsRow.ifacesOut == Try.f9.resultTypes.toList.any (Try.prog.ifacesRec ·)) = true := by kernel_rfl
theorem k21 : (Rows.turnTangentsRow.loopsOut == Try.f9.resultTypes.toList.any (Try.prog.loopsFrom ·)) = true := by kernel_rfl
theorem k22 : (Rows.turnTangentsRow.plainKeys == Try.prog.plainKeys) = true := by kernel_rfl
theorem k23 : (Rows.turnTangentsRow.shortTexts.isNone) = true := by kernel_rfl
theorem k26 : (Rows.turnTangentsRow.lifted == Try.prog.liftsFinal) = true := by rw [pf_lifts]; rfl
theorem k27 : (Try.prog.make == some Rows.turnTangentsRow.make) = true := by rw [pf_make]; rfl
theorem k28 : (Rows.turnTangentsRow.kinds == (if Rows.turnTangentsRow.domain.isEmpty then [] else Try.f9.params.toList.map fun t => match Try.prog.underlying t with | some (.int k) => some k | _ => none)) = true := by kernel_rfl
theorem k29 : (Rows.turnTangentsRow.pinned == Rows.turnTangentsRow.pinnedBy) = true := by kernel_rfl
theorem k30 : (Rows.turnTangentsRow.veiled == (Try.f9.params.toList ++ Rows.turnTangentsSpec.plain.varTypes Try.prog ++ Try.f9.resultTypes.toList).any (Try.prog.veiledRec ·)) = true := by kernel_rfl
theorem k31 : (Rows.turnTangentsRow.veiledFits Try.prog Try.f9.params.toList (Try.f9.params.toList ++ Rows.turnTangentsSpec.plain.varTypes Try.prog ++ Try.f9.resultTypes.toList)) = true := by kernel_rfl
set_option maxRecDepth 100000 in
theorem closed : joinedFacts Try.prog 9 Try.f9 Rows.turnTangentsSpec Rows.turnTangentsRow = true := (band (band (band (band (band (band (band (band (band (band (band (band (band (band (band (band (band (band (band (band (band (band (band (band (band (band (band (band (band (band (band k0 pf_laid) pf_maps) k3) k4) k5) pf_stops) k7) pf_knobs) k9) k10) k11) k12) k13) k14) k15) k16) k17) k18) k19) k20) k21) k22) k23) pf_heard) pf_enter) k26) k27) k28) k29) k30) k31)
theorem byName : Try.prog.funcNamed Rows.turnTangentsRow.func = some 9 := by kernel_rfl
theorem inst : Try.f9.isInstance Try.prog Rows.turnTangentsRow.origin Rows.turnTangentsRow.targs := of_decide_eq_true (by kernel_rfl)
theorem over : Rows.turnTangentsRow.holds Try.pinned (OpenSpec.ofChange Rows.turnTangentsSpec) :=
  OpenClaim.holds_of_wide 9 Try.f9 rfl rfl rfl rfl rfl rfl rfl ⟨rfl, rfl, rfl, rfl, rfl⟩ rfl rfl rfl rfl rfl byName Try.func9 closed
    inst (by unfold Func.isWrapper; rw [if_neg (of_decide_eq_false (by kernel_rfl))]; exact ⟨rfl, rfl⟩)
    (fun os started H enc _ => lifted os started H enc)

/-- The given statement. -/
theorem proved : Rows.TurnTangentsSaid := over
end Go.Proofs.Yteedgcffdgkicaa.turnTangents

