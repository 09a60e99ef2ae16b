/-
  The walk of the law TurnOffsets.
-/
import Derived.Test.YteedgcffdgkicaaMAwakeT
import Derived.Test.YteedgcffdgkicaaRows
import Derived.Test.YteedgcffdgkicaaMFrame
namespace Go.Proofs.Yteedgcffdgkicaa
open Go.RowKit
set_option linter.unusedVariables false
set_option linter.unusedSimpArgs false
set_option maxRecDepth 100000 in
set_option maxHeartbeats 4000000 in
theorem turnOffsets_walk (cx cy r f s px py : Int) (hcx : I64 cx) (hcy : I64 cy) (hr : I64 r) (hf : I64 f) (hs : I64 s) (hpx : I64 px) (hpy : I64 py) (w : World) :
    Calls Try.prog 5 #[.agg #[.int .i64 cx, .int .i64 cy, .int .i64 r, .int .i64 f, .int .i64 s], .agg #[.int .i64 px, .int .i64 py]] w fun e w' => e = .returned (.bool true) ∧ Below w.heap.size w w' := by
  obtain ⟨R, hR⟩ : ∃ R, R = arcOff cx cy r f s px py := ⟨_, rfl⟩
  have HR := hide hR
  clear hR
  go_enter Try.func5, Try.ntmps5
  go_wp2_with fail
  refine (awake12_any _).mono ?_
  rintro e w1 ⟨rfl, hb1⟩
  obtain ⟨f1, f2, f3, f4, f5, f6, f7⟩ : w1.cell? ⟨w.heap.size, 0, none⟩ = some (.int .i64 cx) ∧ w1.cell? ⟨w.heap.size, 1, none⟩ = some (.int .i64 cy) ∧ w1.cell? ⟨w.heap.size, 2, none⟩ = some (.int .i64 r) ∧ w1.cell? ⟨w.heap.size, 3, none⟩ = some (.int .i64 f) ∧ w1.cell? ⟨w.heap.size, 4, none⟩ = some (.int .i64 s) ∧ w1.cell? ⟨w.heap.size + 1, 0, none⟩ = some (.int .i64 px) ∧ w1.cell? ⟨w.heap.size + 1, 1, none⟩ = some (.int .i64 py) := by
    refine ⟨?_, ?_, ?_, ?_, ?_, ?_, ?_⟩ <;> (refine cell_below hb1 ?_; repeat (first | (with_reducible assumption) | (with_reducible refine cell_drew ?_) | (with_reducible refine cell_drewN ?_ _) | (with_reducible refine cell_below (by assumption) ?_) | ((with_reducible refine cell_new ?_ ?_); (· (simp; done)); (· rfl)) | (with_reducible refine cell_alloc ?_ _) | ((with_reducible refine cell_set ?_ ?_ _); (· first | (simp; done) | (simp; omega) | omega))))
  have zf1 : w.heap.size < w1.heap.size := World.block_lt_of_cell? _ _ f1
  have zf6 : w.heap.size + 1 < w1.heap.size := World.block_lt_of_cell? _ _ f6
  go_wp2_with fail
  refine (aoff_any cx cy r f s px py _ R HR.out).mono ?_
  rintro e w2 ⟨rfl, hb2⟩
  obtain ⟨f8, f9, f10, f11, f12, f13, f14⟩ : w2.cell? ⟨w.heap.size, 0, none⟩ = some (.int .i64 cx) ∧ w2.cell? ⟨w.heap.size, 1, none⟩ = some (.int .i64 cy) ∧ w2.cell? ⟨w.heap.size, 2, none⟩ = some (.int .i64 r) ∧ w2.cell? ⟨w.heap.size, 3, none⟩ = some (.int .i64 f) ∧ w2.cell? ⟨w.heap.size, 4, none⟩ = some (.int .i64 s) ∧ w2.cell? ⟨w.heap.size + 1, 0, none⟩ = some (.int .i64 px) ∧ w2.cell? ⟨w.heap.size + 1, 1, none⟩ = some (.int .i64 py) := by
    refine ⟨?_, ?_, ?_, ?_, ?_, ?_, ?_⟩ <;> (refine cell_below hb2 ?_; repeat (first | (with_reducible assumption) | (with_reducible refine cell_drew ?_) | (with_reducible refine cell_drewN ?_ _) | (with_reducible refine cell_below (by assumption) ?_) | ((with_reducible refine cell_new ?_ ?_); (· (simp; done)); (· rfl)) | (with_reducible refine cell_alloc ?_ _) | ((with_reducible refine cell_set ?_ ?_ _); (· first | (simp; done) | (simp; omega) | omega))))
  have zf8 : w.heap.size < w2.heap.size := World.block_lt_of_cell? _ _ f8
  have zf13 : w.heap.size + 1 < w2.heap.size := World.block_lt_of_cell? _ _ f13
  clear f1 zf1 f2 f3 f4 f5 f6 zf6 f7
  go_wp2_with fail
  refine (raoff_any cx cy r f s px py _ R HR.out).mono ?_
  rintro e w3 ⟨rfl, hb3⟩
  obtain ⟨f15, f16, f17, f18, f19, f20, f21⟩ : w3.cell? ⟨w.heap.size, 0, none⟩ = some (.int .i64 cx) ∧ w3.cell? ⟨w.heap.size, 1, none⟩ = some (.int .i64 cy) ∧ w3.cell? ⟨w.heap.size, 2, none⟩ = some (.int .i64 r) ∧ w3.cell? ⟨w.heap.size, 3, none⟩ = some (.int .i64 f) ∧ w3.cell? ⟨w.heap.size, 4, none⟩ = some (.int .i64 s) ∧ w3.cell? ⟨w.heap.size + 1, 0, none⟩ = some (.int .i64 px) ∧ w3.cell? ⟨w.heap.size + 1, 1, none⟩ = some (.int .i64 py) := by
    refine ⟨?_, ?_, ?_, ?_, ?_, ?_, ?_⟩ <;> (refine cell_below hb3 ?_; repeat (first | (with_reducible assumption) | (with_reducible refine cell_drew ?_) | (with_reducible refine cell_drewN ?_ _) | (with_reducible refine cell_below (by assumption) ?_) | ((with_reducible refine cell_new ?_ ?_); (· (simp; done)); (· rfl)) | (with_reducible refine cell_alloc ?_ _) | ((with_reducible refine cell_set ?_ ?_ _); (· first | (simp; done) | (simp; omega) | omega))))
  have zf15 : w.heap.size < w3.heap.size := World.block_lt_of_cell? _ _ f15
  have zf20 : w.heap.size + 1 < w3.heap.size := World.block_lt_of_cell? _ _ f20
  clear f8 zf8 f9 f10 f11 f12 f13 zf13 f14
  go_wp2_with fail
  all_goals
    go_ret
    exact ⟨rfl, by (repeat (with_reducible (first | assumption | exact Below.refl _ _ | refine Below.drew ?_ | refine below_drewN ?_ _ | refine below_set ?_ (by simp; try omega) _ | refine below_alloc ?_ (Nat.le_refl _) _ | refine below_sub (by assumption) ?_)))⟩
end Go.Proofs.Yteedgcffdgkicaa

/-
  TurnOffsets: the row's step: the given statement 'TurnOffsetsSaid' out of the walk.
-/
namespace Go.Proofs.Yteedgcffdgkicaa.turnOffsets
open Go.ChangeShapes Go.WideShapes Go.ChangeAt Go.RowKit
set_option linter.unusedVariables false

theorem own : ownKnob Try.prog.godebug = none := by kernel_rfl
theorem laidOut : laidOutB Try.prog = true := pf_laid
theorem typed : (Try.f5.params.toList.all fun t => Try.prog.readableRec t && decide (t < Try.prog.types.size)) = true := by kernel_rfl
theorem typed' : ∀ t ∈ Try.f5.params.toList, Try.prog.readableRec t = true ∧ t < Try.prog.types.size := by
  intro t ht
  have h := List.all_eq_true.1 typed t ht
  simpa using h
theorem ct25 : Try.prog.cellTypes Try.prog.depth 25 = some (List.replicate 5 2) := by kernel_rfl
theorem cn25 : Try.prog.cellsOf 25 = (List.replicate 5 2).length := by kernel_rfl
theorem ct23 : Try.prog.cellTypes Try.prog.depth 23 = some (List.replicate 2 2) := by kernel_rfl
theorem cn23 : Try.prog.cellsOf 23 = (List.replicate 2 2).length := by kernel_rfl
set_option maxRecDepth 100000 in
theorem lifted (os : Os) (started : os.Started) (H : Type) (enc : TypeId × Value → H) :
    ReturnsInHanded {} Try.checked os 5 .any (Rows.turnOffsetsSpec.pre6 enc Try.prog Try.f5 Rows.turnOffsetsRow.domain false) (Rows.turnOffsetsSpec.post enc Try.prog Try.f5 false true false false) := by
  refine returnsInHanded_of_change (C := Try.checked) own started (by kernel_rfl) Try.func5
    (ChangeSpec.witness6 (enc := enc) (C := Try.checked) false ⟨#[], #[.agg #[.int .i64 0, .int .i64 0, .int .i64 0, .int .i64 0, .int .i64 0], .agg #[.int .i64 0, .int .i64 0]], []⟩ 8 (by kernel_rfl) (by kernel_rfl) (by kernel_rfl) (by kernel_rfl)) ?_
  intro W base args ds gs before hval0 hW hcnd _
  have hval : ∀ (j : Nat) t v, Try.f5.params[j]? = some t → args[j]? = some v → Value.okWide Try.prog W .any base t v := hval0
  have hW' := hW
  obtain ⟨p, q, hA0, hV, rfl, hfz, hnd⟩ := hW
  have hlen := trodAll_length _ _ _ _ hA0
  rw [Try.params5] at hval hlen
  obtain ⟨v0, v1, rfl⟩ := arr2 hlen.1
  obtain ⟨d0, d1, rfl⟩ := list2 hlen.2
  obtain ⟨la, rfl, ea, hla⟩ := ok_ints (Or.inl ⟨_, Try.underlying25⟩) ct25 cn25 (fun u hu => by rw [List.eq_of_mem_replicate hu]; exact Try.underlying2) (hval 0 25 v0 rfl rfl)
  obtain ⟨a0, a1, a2, a3, a4, rfl⟩ := list5 (ea.trans (by simp))
  have ha0 : I64 a0 := hla _ (by simp)
  have ha1 : I64 a1 := hla _ (by simp)
  have ha2 : I64 a2 := hla _ (by simp)
  have ha3 : I64 a3 := hla _ (by simp)
  have ha4 : I64 a4 := hla _ (by simp)
  obtain ⟨lp, rfl, ep, hlp⟩ := ok_ints (Or.inl ⟨_, Try.underlying23⟩) ct23 cn23 (fun u hu => by rw [List.eq_of_mem_replicate hu]; exact Try.underlying2) (hval 1 23 v1 rfl rfl)
  obtain ⟨p0, p1, rfl⟩ := list2 (ep.trans (by simp))
  have hp0 : I64 p0 := hlp _ (by simp)
  have hp1 : I64 p1 := hlp _ (by simp)
  refine (turnOffsets_walk a0 a1 a2 a3 a4 p0 p1 ha0 ha1 ha2 ha3 ha4 hp0 hp1 W).mono fun e W' ⟨he, hb⟩ => ?_
  subst he
  exact ⟨_, rfl, law_post (f := Try.f5) (s := Rows.turnOffsetsSpec) (tb := 4) laidOut typed' rfl (by kernel_rfl) Try.underlying4 hW' ⟨rfl, rfl, rfl⟩ hb⟩

theorem k0 : (Rows.turnOffsetsRow.wf (OpenSpec.ofChange Rows.turnOffsetsSpec)) = true := by kernel_rfl
theorem k3 : (Try.f5.params.all (Try.prog.readableRec ·)) = true := by kernel_rfl
theorem k4 : (namedTie Try.prog Rows.turnOffsetsRow.named Rows.turnOffsetsSpec.vars) = true := by kernel_rfl
theorem k5 : (Rows.turnOffsetsRow.stops == []) = true := by kernel_rfl
theorem k7 : (Rows.turnOffsetsRow.knobs == []) = true := by kernel_rfl
theorem k9 : (Rows.turnOffsetsRow.inPlace == Try.prog.inPlace 5) = true := by kernel_rfl
theorem k10 : (Rows.turnOffsetsRow.unfollowed == Try.prog.unfollowed 5) = true := by kernel_rfl
theorem k11 : (Rows.turnOffsetsRow.recurses == Try.prog.recurses 5) = true := by kernel_rfl
theorem k12 : (Rows.turnOffsetsRow.named == Try.prog.varsNamed 5) = true := by kernel_rfl
theorem k13 : (Rows.turnOffsetsRow.maps == (Try.f5.params.toList ++ Rows.turnOffsetsSpec.plain.varTypes Try.prog).any (Try.prog.mapsRec ·)) = true := by kernel_rfl
theorem k14 : (Rows.turnOffsetsRow.ifaces == (Try.f5.params.toList ++ Rows.turnOffsetsSpec.plain.varTypes Try.prog).any (Try.prog.ifacesRec ·)) = true := by kernel_rfl
theorem k15 : (Rows.turnOffsetsRow.mapsOut == Try.prog.mapsAmong Try.f5.resultTypes.toList) = true := by kernel_rfl
theorem k16 : (Rows.turnOffsetsRow.loops == (Try.f5.params.toList ++ Rows.turnOffsetsSpec.plain.varTypes Try.prog).any (Try.prog.loopsFrom ·)) = true := by kernel_rfl
theorem k17 : (Rows.turnOffsetsRow.wideKeys == (Try.f5.params.toList ++ Rows.turnOffsetsSpec.plain.varTypes Try.prog ++ Try.f5.resultTypes.toList).any (Try.prog.wideKeysFrom ·)) = true := by kernel_rfl
theorem k18 : (Rows.turnOffsetsSpec.vars.all (Try.prog.varReadable ·)) = true := by kernel_rfl
theorem k19 : (Try.f5.resultTypes.all (fun t => Try.prog.readableRec t && decide (t < Try.prog.types.size))) = true := by kernel_rfl
theorem k20 : (Rows.turnOffsetsRow.ifacesOut == Try.f5.resultTypes.toList.any (Try.prog.ifacesRec ·)) = true := by kernel_rfl
theorem k21 : (Rows.turnOffsetsRow.loopsOut == Try.f5.resultTypes.toList.any (Try.prog.loopsFrom ·)) = true := by kernel_rfl
theorem k22 : (Rows.turnOffsetsRow.plainKeys == Try.prog.plainKeys) = true := by kernel_rfl
theorem k23 : (Rows.turnOffsetsRow.shortTexts.isNone) = true := by kernel_rfl
theorem k26 : (Rows.turnOffsetsRow.lifted == Try.prog.liftsFinal) = true := by rw [pf_lifts]; rfl
theorem k27 : (Try.prog.make == some Rows.turnOffsetsRow.make) = true := by rw [pf_make]; rfl
theorem k28 : (Rows.turnOffsetsRow.kinds == (if Rows.turnOffsetsRow.domain.isEmpty then [] else Try.f5.params.toList.map fun t => match Try.prog.underlying t with | some (.int k) => some k | _ => none)) = true := by kernel_rfl
theorem k29 : (Rows.turnOffsetsRow.pinned == Rows.turnOffsetsRow.pinnedBy) = true := by kernel_rfl
theorem k30 : (Rows.turnOffsetsRow.veiled == (Try.f5.params.toList ++ Rows.turnOffsetsSpec.plain.varTypes Try.prog ++ Try.f5.resultTypes.toList).any (Try.prog.veiledRec ·)) = true := by kernel_rfl
theorem k31 : (Rows.turnOffsetsRow.veiledFits Try.prog Try.f5.params.toList (Try.f5.params.toList ++ Rows.turnOffsetsSpec.plain.varTypes Try.prog ++ Try.f5.resultTypes.toList)) = true := by kernel_rfl
set_option maxRecDepth 100000 in
theorem closed : joinedFacts Try.prog 5 Try.f5 Rows.turnOffsetsSpec Rows.turnOffsetsRow = true := (band (band (band (band (band (band (band (band (band (band (band (band (band (band (band (band (band (band (band (band (band (band (band (band (band (band (band (band (band (band (band k0 pf_laid) pf_maps) k3) k4) k5) pf_stops) k7) pf_knobs) k9) k10) k11) k12) k13) k14) k15) k16) k17) k18) k19) k20) k21) k22) k23) pf_heard) pf_enter) k26) k27) k28) k29) k30) k31)
theorem byName : Try.prog.funcNamed Rows.turnOffsetsRow.func = some 5 := by kernel_rfl
theorem inst : Try.f5.isInstance Try.prog Rows.turnOffsetsRow.origin Rows.turnOffsetsRow.targs := of_decide_eq_true (by kernel_rfl)
theorem over : Rows.turnOffsetsRow.holds Try.pinned (OpenSpec.ofChange Rows.turnOffsetsSpec) :=
  OpenClaim.holds_of_wide 5 Try.f5 rfl rfl rfl rfl rfl rfl rfl ⟨rfl, rfl, rfl, rfl, rfl⟩ rfl rfl rfl rfl rfl byName Try.func5 closed
    inst (by unfold Func.isWrapper; rw [if_neg (of_decide_eq_false (by kernel_rfl))]; exact ⟨rfl, rfl⟩)
    (fun os started H enc _ => lifted os started H enc)

/-- The given statement. -/
theorem proved : Rows.TurnOffsetsSaid := over
end Go.Proofs.Yteedgcffdgkicaa.turnOffsets

