/-
  The walk of the law TurnFlyBys.
-/
import Derived.Test.YteedgcffdgkicaaMAwakeT2
import Derived.Test.YteedgcffdgkicaaMTurnFr2
import Derived.Test.YteedgcffdgkicaaRows
import Derived.Test.YteedgcffdgkicaaMFrame
namespace Go.Proofs.Yteedgcffdgkicaa
open Go.RowKit
set_option linter.unusedVariables false
set_option linter.unusedSimpArgs false
set_option maxRecDepth 100000 in
set_option maxHeartbeats 4000000 in
theorem turnFlyBys_walk (ax ay bx b_y cx cy r : Int) (hax : I64 ax) (hay : I64 ay) (hbx : I64 bx) (hb_y : I64 b_y) (hcx : I64 cx) (hcy : I64 cy) (hr : I64 r) (w : World) :
    Calls Try.prog 7 #[.agg #[.int .i64 ax, .int .i64 ay, .int .i64 bx, .int .i64 b_y, .int .i64 cx, .int .i64 cy, .int .i64 r]] w fun e w' => e = .returned (.bool true) ∧ Below w.heap.size w w' := by
  obtain ⟨v0, v1, v2, v3, v4, v5, v6, v7, v8, v9, e0, hR⟩ := fly_cells ax ay bx b_y cx cy r
  have HR := hide hR
  clear hR
  go_enter Try.func7, Try.ntmps7
  go_wp2_with fail
  refine (awake12_any _).mono ?_
  rintro e w1 ⟨rfl, hb1⟩
  obtain ⟨f1, f2, f3, f4, f5, f6, f7⟩ : w1.cell? ⟨w.heap.size, 0, none⟩ = some (.int .i64 ax) ∧ w1.cell? ⟨w.heap.size, 1, none⟩ = some (.int .i64 ay) ∧ w1.cell? ⟨w.heap.size, 2, none⟩ = some (.int .i64 bx) ∧ w1.cell? ⟨w.heap.size, 3, none⟩ = some (.int .i64 b_y) ∧ w1.cell? ⟨w.heap.size, 4, none⟩ = some (.int .i64 cx) ∧ w1.cell? ⟨w.heap.size, 5, none⟩ = some (.int .i64 cy) ∧ w1.cell? ⟨w.heap.size, 6, none⟩ = some (.int .i64 r) := by
    refine ⟨?_, ?_, ?_, ?_, ?_, ?_, ?_⟩ <;> (refine cell_below hb1 ?_; repeat (first | (with_reducible assumption) | (with_reducible refine cell_drew ?_) | (with_reducible refine cell_drewN ?_ _) | (with_reducible refine cell_below (by assumption) ?_) | ((with_reducible refine cell_new ?_ ?_); (· (simp; done)); (· rfl)) | (with_reducible refine cell_alloc ?_ _) | ((with_reducible refine cell_set ?_ ?_ _); (· first | (simp; done) | (simp; omega) | omega))))
  have zf1 : w.heap.size < w1.heap.size := World.block_lt_of_cell? _ _ f1
  go_wp2_with fail
  refine (fly_any ax ay bx b_y cx cy r hr _ v0 v1 v2 v3 v4 v5 v6 v7 v8 v9 e0 HR.out).mono ?_
  rintro e w2 ⟨rfl, hb2⟩
  obtain ⟨f8, f9, f10, f11, f12, f13, f14⟩ : w2.cell? ⟨w.heap.size, 0, none⟩ = some (.int .i64 ax) ∧ w2.cell? ⟨w.heap.size, 1, none⟩ = some (.int .i64 ay) ∧ w2.cell? ⟨w.heap.size, 2, none⟩ = some (.int .i64 bx) ∧ w2.cell? ⟨w.heap.size, 3, none⟩ = some (.int .i64 b_y) ∧ w2.cell? ⟨w.heap.size, 4, none⟩ = some (.int .i64 cx) ∧ w2.cell? ⟨w.heap.size, 5, none⟩ = some (.int .i64 cy) ∧ w2.cell? ⟨w.heap.size, 6, none⟩ = some (.int .i64 r) := by
    refine ⟨?_, ?_, ?_, ?_, ?_, ?_, ?_⟩ <;> (refine cell_below hb2 ?_; repeat (first | (with_reducible assumption) | (with_reducible refine cell_drew ?_) | (with_reducible refine cell_drewN ?_ _) | (with_reducible refine cell_below (by assumption) ?_) | ((with_reducible refine cell_new ?_ ?_); (· (simp; done)); (· rfl)) | (with_reducible refine cell_alloc ?_ _) | ((with_reducible refine cell_set ?_ ?_ _); (· first | (simp; done) | (simp; omega) | omega))))
  have zf8 : w.heap.size < w2.heap.size := World.block_lt_of_cell? _ _ f8
  clear f1 zf1 f2 f3 f4 f5 f6 f7
  go_wp2_with fail
  refine (rfly_any ax ay bx b_y cx cy r hr _ v0 v1 v2 v3 v4 v5 v6 v7 v8 v9 e0 HR.out).mono ?_
  rintro e w3 ⟨rfl, hb3⟩
  obtain ⟨f15, f16, f17, f18, f19, f20, f21, f22, f23, f24, f25, f26, f27, f28, f29, f30, f31⟩ : w3.cell? ⟨w.heap.size, 0, none⟩ = some (.int .i64 ax) ∧ w3.cell? ⟨w.heap.size, 1, none⟩ = some (.int .i64 ay) ∧ w3.cell? ⟨w.heap.size, 2, none⟩ = some (.int .i64 bx) ∧ w3.cell? ⟨w.heap.size, 3, none⟩ = some (.int .i64 b_y) ∧ w3.cell? ⟨w.heap.size, 4, none⟩ = some (.int .i64 cx) ∧ w3.cell? ⟨w.heap.size, 5, none⟩ = some (.int .i64 cy) ∧ w3.cell? ⟨w.heap.size, 6, none⟩ = some (.int .i64 r) ∧ w3.cell? ⟨w2.heap.size, 0, none⟩ = some (.int .i64 v0) ∧ w3.cell? ⟨w2.heap.size, 1, none⟩ = some (.int .i64 v1) ∧ w3.cell? ⟨w2.heap.size, 2, none⟩ = some (.int .i64 v2) ∧ w3.cell? ⟨w2.heap.size, 3, none⟩ = some (.int .i64 v3) ∧ w3.cell? ⟨w2.heap.size, 4, none⟩ = some (.int .i64 v4) ∧ w3.cell? ⟨w2.heap.size, 5, none⟩ = some (.int .i64 v5) ∧ w3.cell? ⟨w2.heap.size, 6, none⟩ = some (.int .i64 v6) ∧ w3.cell? ⟨w2.heap.size, 7, none⟩ = some (.int .i64 v7) ∧ w3.cell? ⟨w2.heap.size, 8, none⟩ = some (.int .i64 v8) ∧ w3.cell? ⟨w2.heap.size, 9, none⟩ = some (.int .i64 v9) := by
    refine ⟨?_, ?_, ?_, ?_, ?_, ?_, ?_, ?_, ?_, ?_, ?_, ?_, ?_, ?_, ?_, ?_, ?_⟩ <;> (refine cell_below hb3 ?_; repeat (first | (with_reducible assumption) | (with_reducible refine cell_drew ?_) | (with_reducible refine cell_drewN ?_ _) | (with_reducible refine cell_below (by assumption) ?_) | ((with_reducible refine cell_new ?_ ?_); (· (simp; done)); (· rfl)) | (with_reducible refine cell_alloc ?_ _) | ((with_reducible refine cell_set ?_ ?_ _); (· first | (simp; done) | (simp; omega) | omega))))
  have zf15 : w.heap.size < w3.heap.size := World.block_lt_of_cell? _ _ f15
  have zf22 : w2.heap.size < w3.heap.size := World.block_lt_of_cell? _ _ f22
  clear f8 zf8 f9 f10 f11 f12 f13 f14
  go_wp2_with fail
  all_goals
    go_ret
    exact ⟨rfl, by (repeat (with_reducible (first | assumption | exact Below.refl _ _ | refine Below.drew ?_ | refine below_drewN ?_ _ | refine below_set ?_ (by simp; try omega) _ | refine below_alloc ?_ (Nat.le_refl _) _ | refine below_sub (by assumption) ?_)))⟩
end Go.Proofs.Yteedgcffdgkicaa

/-
  TurnFlyBys: the row's step: the given statement 'TurnFlyBysSaid' out of the walk.
-/
namespace Go.Proofs.Yteedgcffdgkicaa.turnFlyBys
open Go.ChangeShapes Go.WideShapes Go.ChangeAt Go.RowKit
set_option linter.unusedVariables false

theorem own : ownKnob Try.prog.godebug = none := by kernel_rfl
theorem laidOut : laidOutB Try.prog = true := pf_laid
theorem typed : (Try.f7.params.toList.all fun t => Try.prog.readableRec t && decide (t < Try.prog.types.size)) = true := by kernel_rfl
theorem typed' : ∀ t ∈ Try.f7.params.toList, Try.prog.readableRec t = true ∧ t < Try.prog.types.size := by
  intro t ht
  have h := List.all_eq_true.1 typed t ht
  simpa using h
theorem ct38 : Try.prog.cellTypes Try.prog.depth 38 = some (List.replicate 7 2) := by kernel_rfl
theorem cn38 : Try.prog.cellsOf 38 = (List.replicate 7 2).length := by kernel_rfl
set_option maxRecDepth 100000 in
theorem lifted (os : Os) (started : os.Started) (H : Type) (enc : TypeId × Value → H) :
    ReturnsInHanded {} Try.checked os 7 .any (Rows.turnFlyBysSpec.pre6 enc Try.prog Try.f7 Rows.turnFlyBysRow.domain false) (Rows.turnFlyBysSpec.post enc Try.prog Try.f7 false true false false) := by
  refine returnsInHanded_of_change (C := Try.checked) own started (by kernel_rfl) Try.func7
    (ChangeSpec.witness6 (enc := enc) (C := Try.checked) false ⟨#[], #[.agg #[.int .i64 0, .int .i64 0, .int .i64 0, .int .i64 0, .int .i64 0, .int .i64 0, .int .i64 0]], []⟩ 8 (by kernel_rfl) (by kernel_rfl) (by kernel_rfl) (by kernel_rfl)) ?_
  intro W base args ds gs before hval0 hW hcnd _
  have hval : ∀ (j : Nat) t v, Try.f7.params[j]? = some t → args[j]? = some v → Value.okWide Try.prog W .any base t v := hval0
  have hW' := hW
  obtain ⟨p, q, hA0, hV, rfl, hfz, hnd⟩ := hW
  have hlen := trodAll_length _ _ _ _ hA0
  rw [Try.params7] at hval hlen
  obtain ⟨v0, rfl⟩ := arr1 hlen.1
  obtain ⟨d0, rfl⟩ := list1 hlen.2
  obtain ⟨lx, rfl, ex, hlx⟩ := ok_ints (Or.inl ⟨_, Try.underlying38⟩) ct38 cn38 (fun u hu => by rw [List.eq_of_mem_replicate hu]; exact Try.underlying2) (hval 0 38 v0 rfl rfl)
  obtain ⟨x0, x1, x2, x3, x4, x5, x6, rfl⟩ := list7 (ex.trans (by simp))
  have hx0 : I64 x0 := hlx _ (by simp)
  have hx1 : I64 x1 := hlx _ (by simp)
  have hx2 : I64 x2 := hlx _ (by simp)
  have hx3 : I64 x3 := hlx _ (by simp)
  have hx4 : I64 x4 := hlx _ (by simp)
  have hx5 : I64 x5 := hlx _ (by simp)
  have hx6 : I64 x6 := hlx _ (by simp)
  refine (turnFlyBys_walk x0 x1 x2 x3 x4 x5 x6 hx0 hx1 hx2 hx3 hx4 hx5 hx6 W).mono fun e W' ⟨he, hb⟩ => ?_
  subst he
  exact ⟨_, rfl, law_post (f := Try.f7) (s := Rows.turnFlyBysSpec) (tb := 4) laidOut typed' rfl (by kernel_rfl) Try.underlying4 hW' ⟨rfl, rfl, rfl⟩ hb⟩

theorem k0 : (Rows.turnFlyBysRow.wf (OpenSpec.ofChange Rows.turnFlyBysSpec)) = true := by kernel_rfl
theorem k3 : (Try.f7.params.all (Try.prog.readableRec ·)) = true := by kernel_rfl
theorem k4 : (namedTie Try.prog Rows.turnFlyBysRow.named Rows.turnFlyBysSpec.vars) = true := by kernel_rfl
theorem k5 : (Rows.turnFlyBysRow.stops == []) = true := by kernel_rfl
theorem k7 : (Rows.turnFlyBysRow.knobs == []) = true := by kernel_rfl
theorem k9 : (Rows.turnFlyBysRow.inPlace == Try.prog.inPlace 7) = true := by kernel_rfl
theorem k10 : (Rows.turnFlyBysRow.unfollowed == Try.prog.unfollowed 7) = true := by kernel_rfl
theorem k11 : (Rows.turnFlyBysRow.recurses == Try.prog.recurses 7) = true := by kernel_rfl
theorem k12 : (Rows.turnFlyBysRow.named == Try.prog.varsNamed 7) = true := by kernel_rfl
theorem k13 : (Rows.turnFlyBysRow.maps == (Try.f7.params.toList ++ Rows.turnFlyBysSpec.plain.varTypes Try.prog).any (Try.prog.mapsRec ·)) = true := by kernel_rfl
theorem k14 : (Rows.turnFlyBysRow.ifaces == (Try.f7.params.toList ++ Rows.turnFlyBysSpec.plain.varTypes Try.prog).any (Try.prog.ifacesRec ·)) = true := by kernel_rfl
theorem k15 : (Rows.turnFlyBysRow.mapsOut == Try.prog.mapsAmong Try.f7.resultTypes.toList) = true := by kernel_rfl
theorem k16 : (Rows.turnFlyBysRow.loops == (Try.f7.params.toList ++ Rows.turnFlyBysSpec.plain.varTypes Try.prog).any (Try.prog.loopsFrom ·)) = true := by kernel_rfl
theorem k17 : (Rows.turnFlyBysRow.wideKeys == (Try.f7.params.toList ++ Rows.turnFlyBysSpec.plain.varTypes Try.prog ++ Try.f7.resultTypes.toList).any (Try.prog.wideKeysFrom ·)) = true := by kernel_rfl
theorem k18 : (Rows.turnFlyBysSpec.vars.all (Try.prog.varReadable ·)) = true := by kernel_rfl
theorem k19 : (Try.f7.resultTypes.all (fun t => Try.prog.readableRec t && decide (t < Try.prog.types.size))) = true := by kernel_rfl
theorem k20 : (Rows.turnFlyBysRow.ifacesOut == Try.f7.resultTypes.toList.any (Try.prog.ifacesRec ·)) = true := by kernel_rfl
theorem k21 : (Rows.turnFlyBysRow.loopsOut == Try.f7.resultTypes.toList.any (Try.prog.loopsFrom ·)) = true := by kernel_rfl
theorem k22 : (Rows.turnFlyBysRow.plainKeys == Try.prog.plainKeys) = true := by kernel_rfl
theorem k23 : (Rows.turnFlyBysRow.shortTexts.isNone) = true := by kernel_rfl
theorem k26 : (Rows.turnFlyBysRow.lifted == Try.prog.liftsFinal) = true := by rw [pf_lifts]; rfl
theorem k27 : (Try.prog.make == some Rows.turnFlyBysRow.make) = true := by rw [pf_make]; rfl
theorem k28 : (Rows.turnFlyBysRow.kinds == (if Rows.turnFlyBysRow.domain.isEmpty then [] else Try.f7.params.toList.map fun t => match Try.prog.underlying t with | some (.int k) => some k | _ => none)) = true := by kernel_rfl
theorem k29 : (Rows.turnFlyBysRow.pinned == Rows.turnFlyBysRow.pinnedBy) = true := by kernel_rfl
theorem k30 : (Rows.turnFlyBysRow.veiled == (Try.f7.params.toList ++ Rows.turnFlyBysSpec.plain.varTypes Try.prog ++ Try.f7.resultTypes.toList).any (Try.prog.veiledRec ·)) = true := by kernel_rfl
theorem k31 : (Rows.turnFlyBysRow.veiledFits Try.prog Try.f7.params.toList (Try.f7.params.toList ++ Rows.turnFlyBysSpec.plain.varTypes Try.prog ++ Try.f7.resultTypes.toList)) = true := by kernel_rfl
set_option maxRecDepth 100000 in
theorem closed : joinedFacts Try.prog 7 Try.f7 Rows.turnFlyBysSpec Rows.turnFlyBysRow = true := (band (band (band (band (band (band (band (band (band (band (band (band (band (band (band (band (band (band (band (band (band (band (band (band (band (band (band (band (band (band (band k0 pf_laid) pf_maps) k3) k4) k5) pf_stops) k7) pf_knobs) k9) k10) k11) k12) k13) k14) k15) k16) k17) k18) k19) k20) k21) k22) k23) pf_heard) pf_enter) k26) k27) k28) k29) k30) k31)
theorem byName : Try.prog.funcNamed Rows.turnFlyBysRow.func = some 7 := by kernel_rfl
theorem inst : Try.f7.isInstance Try.prog Rows.turnFlyBysRow.origin Rows.turnFlyBysRow.targs := of_decide_eq_true (by kernel_rfl)
theorem over : Rows.turnFlyBysRow.holds Try.pinned (OpenSpec.ofChange Rows.turnFlyBysSpec) :=
  OpenClaim.holds_of_wide 7 Try.f7 rfl rfl rfl rfl rfl rfl rfl ⟨rfl, rfl, rfl, rfl, rfl⟩ rfl rfl rfl rfl rfl byName Try.func7 closed
    inst (by unfold Func.isWrapper; rw [if_neg (of_decide_eq_false (by kernel_rfl))]; exact ⟨rfl, rfl⟩)
    (fun os started H enc _ => lifted os started H enc)

/-- The given statement. -/
theorem proved : Rows.TurnFlyBysSaid := over
end Go.Proofs.Yteedgcffdgkicaa.turnFlyBys

