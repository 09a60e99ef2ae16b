/-
  The walk of the law TurnArcs.
-/
import Derived.Test.YteedgcffdgkicaaMAwakeT
import Derived.Test.YteedgcffdgkicaaRows
import Derived.Test.YteedgcffdgkicaaMFrame
namespace Go.Proofs.Yteedgcffdgkicaa
open Go.RowKit
set_option linter.unusedVariables false
set_option linter.unusedSimpArgs false
set_option maxRecDepth 100000 in
set_option maxHeartbeats 4000000 in
theorem turnArcs_walk (cx cy r f s along : Int) (hcx : I64 cx) (hcy : I64 cy) (hr : I64 r) (hf : I64 f) (hs : I64 s) (halong : I64 along) (w : World) :
    Calls Try.prog 3 #[.agg #[.int .i64 cx, .int .i64 cy, .int .i64 r, .int .i64 f, .int .i64 s], .int .i64 along] w fun e w' => e = .returned (.bool true) ∧ Below w.heap.size w w' := by
  obtain ⟨R, hR⟩ : ∃ R, R = arcAt cx cy r f s along := ⟨_, rfl⟩
  obtain ⟨X, Y, C, E⟩ := R
  have HR := hide hR
  clear hR
  have V1 := fun W => tvalid_any cx cy r f s W
  have V2 := fun W => rtvalid_any cx cy r f s W
  have L1 := fun W => tlen_any cx cy r f s W
  have L2 := fun W => rtlen_any cx cy r f s W
  generalize arcB cx cy r f s = B at *
  generalize arcLen cx cy r f s = n at *
  go_enter Try.func3, Try.ntmps3
  go_wp2_with fail
  go_region_held3 (fun w' => w'.cell? ⟨w.heap.size, 0, none⟩ = some (.int .i64 cx) ∧ w'.cell? ⟨w.heap.size, 1, none⟩ = some (.int .i64 cy) ∧ w'.cell? ⟨w.heap.size, 2, none⟩ = some (.int .i64 r) ∧ w'.cell? ⟨w.heap.size, 3, none⟩ = some (.int .i64 f) ∧ w'.cell? ⟨w.heap.size, 4, none⟩ = some (.int .i64 s)) ((go_split_ands; refine ⟨?_, ?_, ?_, ?_, ?_⟩ <;> (repeat (first | (with_reducible assumption) | (with_reducible refine cell_drew ?_) | (with_reducible refine cell_drewN ?_ _) | (with_reducible refine cell_below (by assumption) ?_) | ((with_reducible refine cell_new ?_ ?_); (· (simp; done)); (· rfl)) | (with_reducible refine cell_alloc ?_ _) | ((with_reducible refine cell_set ?_ ?_ _); (· first | (simp; done) | (simp; omega) | omega))))))
    (first
      | (go_at_call 20; (with_reducible refine (awake12_any _).mono ?_); rintro e w' ⟨rfl, hb'⟩)
      | (go_at_call 21; (with_reducible refine (V1 _).mono ?_); rintro e w' ⟨rfl, hb'⟩)
      | (go_at_call 22; (with_reducible refine (V2 _).mono ?_); rintro e w' ⟨rfl, hb'⟩)
      | (go_at_call 23; (with_reducible refine (L1 _).mono ?_); rintro e w' ⟨rfl, hb'⟩)
      | (go_at_call 24; (with_reducible refine (L2 _).mono ?_); rintro e w' ⟨rfl, hb'⟩))
  rename_i hH
  obtain ⟨f1, f2, f3, f4, f5⟩ := hH
  have zf1 : w.heap.size < w'.heap.size := World.block_lt_of_cell? _ _ f1
  go_wp2_with fail
  refine (arcat_any cx cy r f s along _ (X, Y, C, E) HR.out).mono ?_
  rintro e w1 ⟨rfl, hb1⟩
  obtain ⟨f6, f7, f8, f9, f10⟩ : w1.cell? ⟨w.heap.size, 0, none⟩ = some (.int .i64 cx) ∧ w1.cell? ⟨w.heap.size, 1, none⟩ = some (.int .i64 cy) ∧ w1.cell? ⟨w.heap.size, 2, none⟩ = some (.int .i64 r) ∧ w1.cell? ⟨w.heap.size, 3, none⟩ = some (.int .i64 f) ∧ w1.cell? ⟨w.heap.size, 4, none⟩ = some (.int .i64 s) := by
    refine ⟨?_, ?_, ?_, ?_, ?_⟩ <;> (refine cell_below hb1 ?_; repeat (first | (with_reducible assumption) | (with_reducible refine cell_drew ?_) | (with_reducible refine cell_drewN ?_ _) | (with_reducible refine cell_below (by assumption) ?_) | ((with_reducible refine cell_new ?_ ?_); (· (simp; done)); (· rfl)) | (with_reducible refine cell_alloc ?_ _) | ((with_reducible refine cell_set ?_ ?_ _); (· first | (simp; done) | (simp; omega) | omega))))
  have zf6 : w.heap.size < w1.heap.size := World.block_lt_of_cell? _ _ f6
  clear f1 zf1 f2 f3 f4 f5
  go_wp2_with fail
  refine (rarcat_any cx cy r f s along _ (X, Y, C, E) HR.out).mono ?_
  rintro e w2 ⟨rfl, hb2⟩
  obtain ⟨f11, f12, f13, f14, f15, f16, f17⟩ : w2.cell? ⟨w.heap.size, 0, none⟩ = some (.int .i64 cx) ∧ w2.cell? ⟨w.heap.size, 1, none⟩ = some (.int .i64 cy) ∧ w2.cell? ⟨w.heap.size, 2, none⟩ = some (.int .i64 r) ∧ w2.cell? ⟨w.heap.size, 3, none⟩ = some (.int .i64 f) ∧ w2.cell? ⟨w.heap.size, 4, none⟩ = some (.int .i64 s) ∧ w2.cell? ⟨w1.heap.size, 0, none⟩ = some (.int .i64 X) ∧ w2.cell? ⟨w1.heap.size, 1, none⟩ = some (.int .i64 Y) := by
    refine ⟨?_, ?_, ?_, ?_, ?_, ?_, ?_⟩ <;> (refine cell_below hb2 ?_; repeat (first | (with_reducible assumption) | (with_reducible refine cell_drew ?_) | (with_reducible refine cell_drewN ?_ _) | (with_reducible refine cell_below (by assumption) ?_) | ((with_reducible refine cell_new ?_ ?_); (· (simp; done)); (· rfl)) | (with_reducible refine cell_alloc ?_ _) | ((with_reducible refine cell_set ?_ ?_ _); (· first | (simp; done) | (simp; omega) | omega))))
  have zf11 : w.heap.size < w2.heap.size := World.block_lt_of_cell? _ _ f11
  have zf16 : w1.heap.size < w2.heap.size := World.block_lt_of_cell? _ _ f16
  clear f6 zf6 f7 f8 f9 f10
  go_wp2_with fail
  all_goals
    go_ret
    exact ⟨rfl, by (repeat (with_reducible (first | assumption | exact Below.refl _ _ | refine Below.drew ?_ | refine below_drewN ?_ _ | refine below_set ?_ (by simp; try omega) _ | refine below_alloc ?_ (Nat.le_refl _) _ | refine below_sub (by assumption) ?_)))⟩
end Go.Proofs.Yteedgcffdgkicaa

/-
  TurnArcs: the row's step: the given statement 'TurnArcsSaid' out of the walk.
-/
namespace Go.Proofs.Yteedgcffdgkicaa.turnArcs
open Go.ChangeShapes Go.WideShapes Go.ChangeAt Go.RowKit
set_option linter.unusedVariables false

theorem own : ownKnob Try.prog.godebug = none := by kernel_rfl
theorem laidOut : laidOutB Try.prog = true := pf_laid
theorem typed : (Try.f3.params.toList.all fun t => Try.prog.readableRec t && decide (t < Try.prog.types.size)) = true := by kernel_rfl
theorem typed' : ∀ t ∈ Try.f3.params.toList, Try.prog.readableRec t = true ∧ t < Try.prog.types.size := by
  intro t ht
  have h := List.all_eq_true.1 typed t ht
  simpa using h
theorem ct25 : Try.prog.cellTypes Try.prog.depth 25 = some (List.replicate 5 2) := by kernel_rfl
theorem cn25 : Try.prog.cellsOf 25 = (List.replicate 5 2).length := by kernel_rfl
set_option maxRecDepth 100000 in
theorem lifted (os : Os) (started : os.Started) (H : Type) (enc : TypeId × Value → H) :
    ReturnsInHanded {} Try.checked os 3 .any (Rows.turnArcsSpec.pre6 enc Try.prog Try.f3 Rows.turnArcsRow.domain false) (Rows.turnArcsSpec.post enc Try.prog Try.f3 false true false false) := by
  refine returnsInHanded_of_change (C := Try.checked) own started (by kernel_rfl) Try.func3
    (ChangeSpec.witness6 (enc := enc) (C := Try.checked) false ⟨#[], #[.agg #[.int .i64 0, .int .i64 0, .int .i64 0, .int .i64 0, .int .i64 0], .int .i64 0], []⟩ 8 (by kernel_rfl) (by kernel_rfl) (by kernel_rfl) (by kernel_rfl)) ?_
  intro W base args ds gs before hval0 hW hcnd _
  have hval : ∀ (j : Nat) t v, Try.f3.params[j]? = some t → args[j]? = some v → Value.okWide Try.prog W .any base t v := hval0
  have hW' := hW
  obtain ⟨p, q, hA0, hV, rfl, hfz, hnd⟩ := hW
  have hlen := trodAll_length _ _ _ _ hA0
  rw [Try.params3] at hval hlen
  obtain ⟨v0, v1, rfl⟩ := arr2 hlen.1
  obtain ⟨d0, d1, rfl⟩ := list2 hlen.2
  obtain ⟨la, rfl, ea, hla⟩ := ok_ints (Or.inl ⟨_, Try.underlying25⟩) ct25 cn25 (fun u hu => by rw [List.eq_of_mem_replicate hu]; exact Try.underlying2) (hval 0 25 v0 rfl rfl)
  obtain ⟨a0, a1, a2, a3, a4, rfl⟩ := list5 (ea.trans (by simp))
  have ha0 : I64 a0 := hla _ (by simp)
  have ha1 : I64 a1 := hla _ (by simp)
  have ha2 : I64 a2 := hla _ (by simp)
  have ha3 : I64 a3 := hla _ (by simp)
  have ha4 : I64 a4 := hla _ (by simp)
  obtain ⟨along, rfl, halong⟩ := ok_i64 Try.underlying2 (hval 1 2 v1 rfl rfl)
  refine (turnArcs_walk a0 a1 a2 a3 a4 along ha0 ha1 ha2 ha3 ha4 halong W).mono fun e W' ⟨he, hb⟩ => ?_
  subst he
  exact ⟨_, rfl, law_post (f := Try.f3) (s := Rows.turnArcsSpec) (tb := 4) laidOut typed' rfl (by kernel_rfl) Try.underlying4 hW' ⟨rfl, rfl, rfl⟩ hb⟩

theorem k0 : (Rows.turnArcsRow.wf (OpenSpec.ofChange Rows.turnArcsSpec)) = true := by kernel_rfl
theorem k3 : (Try.f3.params.all (Try.prog.readableRec ·)) = true := by kernel_rfl
theorem k4 : (namedTie Try.prog Rows.turnArcsRow.named Rows.turnArcsSpec.vars) = true := by kernel_rfl
theorem k5 : (Rows.turnArcsRow.stops == []) = true := by kernel_rfl
theorem k7 : (Rows.turnArcsRow.knobs == []) = true := by kernel_rfl
theorem k9 : (Rows.turnArcsRow.inPlace == Try.prog.inPlace 3) = true := by kernel_rfl
theorem k10 : (Rows.turnArcsRow.unfollowed == Try.prog.unfollowed 3) = true := by kernel_rfl
theorem k11 : (Rows.turnArcsRow.recurses == Try.prog.recurses 3) = true := by kernel_rfl
theorem k12 : (Rows.turnArcsRow.named == Try.prog.varsNamed 3) = true := by kernel_rfl
theorem k13 : (Rows.turnArcsRow.maps == (Try.f3.params.toList ++ Rows.turnArcsSpec.plain.varTypes Try.prog).any (Try.prog.mapsRec ·)) = true := by kernel_rfl
theorem k14 : (Rows.turnArcsRow.ifaces == (Try.f3.params.toList ++ Rows.turnArcsSpec.plain.varTypes Try.prog).any (Try.prog.ifacesRec ·)) = true := by kernel_rfl
theorem k15 : (Rows.turnArcsRow.mapsOut == Try.prog.mapsAmong Try.f3.resultTypes.toList) = true := by kernel_rfl
theorem k16 : (Rows.turnArcsRow.loops == (Try.f3.params.toList ++ Rows.turnArcsSpec.plain.varTypes Try.prog).any (Try.prog.loopsFrom ·)) = true := by kernel_rfl
theorem k17 : (Rows.turnArcsRow.wideKeys == (Try.f3.params.toList ++ Rows.turnArcsSpec.plain.varTypes Try.prog ++ Try.f3.resultTypes.toList).any (Try.prog.wideKeysFrom ·)) = true := by kernel_rfl
theorem k18 : (Rows.turnArcsSpec.vars.all (Try.prog.varReadable ·)) = true := by kernel_rfl
theorem k19 : (Try.f3.resultTypes.all (fun t => Try.prog.readableRec t && decide (t < Try.prog.types.size))) = true := by kernel_rfl
theorem k20 : (Rows.turnArcsRow.ifacesOut == Try.f3.resultTypes.toList.any (Try.prog.ifacesRec ·)) = true := by kernel_rfl
theorem k21 : (Rows.turnArcsRow.loopsOut == Try.f3.resultTypes.toList.any (Try.prog.loopsFrom ·)) = true := by kernel_rfl
theorem k22 : (Rows.turnArcsRow.plainKeys == Try.prog.plainKeys) = true := by kernel_rfl
theorem k23 : (Rows.turnArcsRow.shortTexts.isNone) = true := by kernel_rfl
theorem k26 : (Rows.turnArcsRow.lifted == Try.prog.liftsFinal) = true := by rw [pf_lifts]; rfl
theorem k27 : (Try.prog.make == some Rows.turnArcsRow.make) = true := by rw [pf_make]; rfl
theorem k28 : (Rows.turnArcsRow.kinds == (if Rows.turnArcsRow.domain.isEmpty then [] else Try.f3.params.toList.map fun t => match Try.prog.underlying t with | some (.int k) => some k | _ => none)) = true := by kernel_rfl
theorem k29 : (Rows.turnArcsRow.pinned == Rows.turnArcsRow.pinnedBy) = true := by kernel_rfl
theorem k30 : (Rows.turnArcsRow.veiled == (Try.f3.params.toList ++ Rows.turnArcsSpec.plain.varTypes Try.prog ++ Try.f3.resultTypes.toList).any (Try.prog.veiledRec ·)) = true := by kernel_rfl
theorem k31 : (Rows.turnArcsRow.veiledFits Try.prog Try.f3.params.toList (Try.f3.params.toList ++ Rows.turnArcsSpec.plain.varTypes Try.prog ++ Try.f3.resultTypes.toList)) = true := by kernel_rfl
set_option maxRecDepth 100000 in
theorem closed : joinedFacts Try.prog 3 Try.f3 Rows.turnArcsSpec Rows.turnArcsRow = true := (band (band (band (band (band (band (band (band (band (band (band (band (band (band (band (band (band (band (band (band (band (band (band (band (band (band (band (band (band (band (band k0 pf_laid) pf_maps) k3) k4) k5) pf_stops) k7) pf_knobs) k9) k10) k11) k12) k13) k14) k15) k16) k17) k18) k19) k20) k21) k22) k23) pf_heard) pf_enter) k26) k27) k28) k29) k30) k31)
theorem byName : Try.prog.funcNamed Rows.turnArcsRow.func = some 3 := by kernel_rfl
theorem inst : Try.f3.isInstance Try.prog Rows.turnArcsRow.origin Rows.turnArcsRow.targs := of_decide_eq_true (by kernel_rfl)
theorem over : Rows.turnArcsRow.holds Try.pinned (OpenSpec.ofChange Rows.turnArcsSpec) :=
  OpenClaim.holds_of_wide 3 Try.f3 rfl rfl rfl rfl rfl rfl rfl ⟨rfl, rfl, rfl, rfl, rfl⟩ rfl rfl rfl rfl rfl byName Try.func3 closed
    inst (by unfold Func.isWrapper; rw [if_neg (of_decide_eq_false (by kernel_rfl))]; exact ⟨rfl, rfl⟩)
    (fun os started H enc _ => lifted os started H enc)

/-- The given statement. -/
theorem proved : Rows.TurnArcsSaid := over
end Go.Proofs.Yteedgcffdgkicaa.turnArcs

