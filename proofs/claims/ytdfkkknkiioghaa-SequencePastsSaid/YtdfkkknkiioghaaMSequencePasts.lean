/-
  The walk of the law SequencePasts.
-/
import Derived.Test.YtdfkkknkiioghaaMAwake28
import Derived.Test.YtdfkkknkiioghaaMPastR
import Derived.Test.YtdfkkknkiioghaaRows
import Derived.Test.YtdfkkknkiioghaaMFrame
namespace Go.Proofs.Ytdfkkknkiioghaa
open Go.RowKit
set_option linter.unusedVariables false
set_option linter.unusedSimpArgs false
set_option maxRecDepth 100000 in
set_option maxHeartbeats 2000000 in
theorem sequencePasts_walk (x0 : Bool) (x1 x2 x3 x4 x5 x6 x7 x8 x9 x10 x11 : Int) (x12 : Bool) (q0 q1 : Int) (hx1 : I64 x1) (hx2 : I64 x2) (hx3 : I64 x3) (hx4 : I64 x4) (hx5 : I64 x5) (hx6 : I64 x6) (hx7 : I64 x7) (hx8 : I64 x8) (hx9 : I64 x9) (hx10 : I64 x10) (hx11 : I64 x11) (hq0 : I64 q0) (hq1 : I64 q1) (w : World) :
    Calls Try.prog 4 #[.agg #[.bool x0, .int .i64 x1, .int .i64 x2, .int .i64 x3, .int .i64 x4, .int .i64 x5, .int .i64 x6, .int .i64 x7, .int .i64 x8, .int .i64 x9, .int .i64 x10, .int .i64 x11, .bool x12], .agg #[.int .i64 q0, .int .i64 q1]] w fun e w' => e = .returned (.bool true) ∧ Below w.heap.size w w' := by
  have OV := fun W => overp_any x0 x12 x1 x2 x3 x4 x5 x6 x7 x8 x9 x10 x11 q0 q1 W
  have RV := fun W => roverp_any x0 x12 x1 x2 x3 x4 x5 x6 x7 x8 x9 x10 x11 q0 q1 W
  clear hx1 hx2 hx3 hx4 hx5 hx6 hx7 hx8 hx9 hx10 hx11 hq0 hq1
  generalize overF x0 x1 x2 x3 x4 x5 x6 x7 x8 x9 q0 q1 = V at *
  go_enter Try.func4, Try.ntmps4
  go_wp2_with fail
  go_region_held3 (fun w' => w'.cell? ⟨w.heap.size, 0, none⟩ = some (.bool x0) ∧ w'.cell? ⟨w.heap.size, 1, none⟩ = some (.int .i64 x1) ∧ w'.cell? ⟨w.heap.size, 2, none⟩ = some (.int .i64 x2) ∧ w'.cell? ⟨w.heap.size, 3, none⟩ = some (.int .i64 x3) ∧ w'.cell? ⟨w.heap.size, 4, none⟩ = some (.int .i64 x4) ∧ w'.cell? ⟨w.heap.size, 5, none⟩ = some (.int .i64 x5) ∧ w'.cell? ⟨w.heap.size, 6, none⟩ = some (.int .i64 x6) ∧ w'.cell? ⟨w.heap.size, 7, none⟩ = some (.int .i64 x7) ∧ w'.cell? ⟨w.heap.size, 8, none⟩ = some (.int .i64 x8) ∧ w'.cell? ⟨w.heap.size, 9, none⟩ = some (.int .i64 x9) ∧ w'.cell? ⟨w.heap.size, 10, none⟩ = some (.int .i64 x10) ∧ w'.cell? ⟨w.heap.size, 11, none⟩ = some (.int .i64 x11) ∧ w'.cell? ⟨w.heap.size, 12, none⟩ = some (.bool x12) ∧ w'.cell? ⟨w.heap.size + 1, 0, none⟩ = some (.int .i64 q0) ∧ w'.cell? ⟨w.heap.size + 1, 1, none⟩ = some (.int .i64 q1)) ((go_split_ands; refine ⟨?_, ?_, ?_, ?_, ?_, ?_, ?_, ?_, ?_, ?_, ?_, ?_, ?_, ?_, ?_⟩ <;> (repeat (first | (with_reducible assumption) | ((with_reducible refine cell_set ?_ ?_ _); (· first | (simp; done) | (simp; omega) | omega)) | ((with_reducible refine cell_new ?_ ?_); (· (simp; done)); (· rfl)) | (with_reducible refine cell_alloc ?_ _) | (with_reducible refine cell_drew ?_) | (with_reducible refine cell_drewN ?_ _) | (with_reducible refine cell_below (by assumption) ?_)))))
    (first
      | (go_at_call 14; (with_reducible refine (awake28_any _).mono ?_); rintro e w' ⟨rfl, hb'⟩)
      | (go_at_call 15; (with_reducible refine (OV _).mono ?_); rintro e w' ⟨rfl, hb'⟩)
      | (go_at_call 16; (with_reducible refine (RV _).mono ?_); rintro e w' ⟨rfl, hb'⟩))
  go_wp2_with fail
  all_goals
    go_ret
    exact ⟨rfl, by (repeat (with_reducible (first | assumption | exact Below.refl _ _ | refine Below.drew ?_ | refine below_drewN ?_ _ | refine below_set ?_ (by simp; try omega) _ | refine below_alloc ?_ (Nat.le_refl _) _ | refine below_sub (by assumption) ?_)))⟩
end Go.Proofs.Ytdfkkknkiioghaa

/-
  SequencePasts: the row's step: the given statement 'SequencePastsSaid' out of the walk.
-/
namespace Go.Proofs.Ytdfkkknkiioghaa.sequencePasts
open Go.ChangeShapes Go.WideShapes Go.ChangeAt Go.RowKit
set_option linter.unusedVariables false

theorem own : ownKnob Try.prog.godebug = none := by kernel_rfl
theorem laidOut : laidOutB Try.prog = true := pf_laid
theorem typed : (Try.f4.params.toList.all fun t => Try.prog.readableRec t && decide (t < Try.prog.types.size)) = true := by kernel_rfl
theorem typed' : ∀ t ∈ Try.f4.params.toList, Try.prog.readableRec t = true ∧ t < Try.prog.types.size := by
  intro t ht
  have h := List.all_eq_true.1 typed t ht
  simpa using h
theorem cell_at {P : Program} {w : World} {r : Reach} {base : Nat} {ts : List TypeId} {cs : List Value} (h : ∀ (i : Nat) (x : Value), cs[i]? = some x → ∃ u, ts[i]? = some u ∧ Cell.okWide P w r base u x) {k : Nat} {x : Value} {u : TypeId} (hk : cs[k]? = some x) (hu : ts[k]? = some u) : Cell.okWide P w r base u x := by
  obtain ⟨u', h1, h2⟩ := h k x hk
  rw [hu] at h1
  injection h1 with h1
  rw [h1]; exact h2
theorem lst13 {α : Type} {l : List α} (h : l.length = 13) : ∃ x0 x1 x2 x3 x4 x5 x6 x7 x8 x9 x10 x11 x12 : α, l = [x0, x1, x2, x3, x4, x5, x6, x7, x8, x9, x10, x11, x12] := by
  match l, h with
  | [x0, x1, x2, x3, x4, x5, x6, x7, x8, x9, x10, x11, x12], _ => exact ⟨x0, x1, x2, x3, x4, x5, x6, x7, x8, x9, x10, x11, x12, rfl⟩
theorem ct34 : Try.prog.cellTypes Try.prog.depth 34 = some [4, 2, 2, 2, 2, 2, 2, 2, 2, 2, 2, 3, 4] := by kernel_rfl
theorem cn34 : Try.prog.cellsOf 34 = ([4, 2, 2, 2, 2, 2, 2, 2, 2, 2, 2, 3, 4] : List TypeId).length := by kernel_rfl
theorem ct28 : Try.prog.cellTypes Try.prog.depth 28 = some (List.replicate 2 2) := by kernel_rfl
theorem cn28 : Try.prog.cellsOf 28 = (List.replicate 2 2).length := by kernel_rfl
set_option maxRecDepth 100000 in
theorem lifted (os : Os) (started : os.Started) (H : Type) (enc : TypeId × Value → H) :
    ReturnsInHanded {} Try.checked os 4 .any (Rows.sequencePastsSpec.pre6 enc Try.prog Try.f4 Rows.sequencePastsRow.domain false) (Rows.sequencePastsSpec.post enc Try.prog Try.f4 false true false false) := by
  refine returnsInHanded_of_change (C := Try.checked) own started (by kernel_rfl) Try.func4
    (ChangeSpec.witness6 (enc := enc) (C := Try.checked) false ⟨#[], #[.agg #[.bool false, .int .i64 0, .int .i64 0, .int .i64 0, .int .i64 0, .int .i64 0, .int .i64 0, .int .i64 0, .int .i64 0, .int .i64 0, .int .i64 0, .int .i64 0, .bool false], .agg #[.int .i64 0, .int .i64 0]], []⟩ 8 (by kernel_rfl) (by kernel_rfl) (by kernel_rfl) (by kernel_rfl)) ?_
  intro W base args ds gs before hval0 hW hcnd _
  have hval : ∀ (j : Nat) t v, Try.f4.params[j]? = some t → args[j]? = some v → Value.okWide Try.prog W .any base t v := hval0
  have hW' := hW
  obtain ⟨p, q, hA0, hV, rfl, hfz, hnd⟩ := hW
  have hlen := trodAll_length _ _ _ _ hA0
  rw [Try.params4] at hval hlen
  obtain ⟨v0, v1, rfl⟩ := arr2 hlen.1
  obtain ⟨d0, d1, rfl⟩ := list2 hlen.2
  obtain ⟨lx, rfl, ex, hlx⟩ := ok_agg (Or.inl ⟨_, Try.underlying34⟩) ct34 cn34 (hval 0 34 v0 rfl rfl)
  obtain ⟨cx0, cx1, cx2, cx3, cx4, cx5, cx6, cx7, cx8, cx9, cx10, cx11, cx12, rfl⟩ := lst13 (ex.trans (by rfl))
  obtain ⟨x0, rfl⟩ := cell_bool Try.underlying4 (cell_at hlx (k := 0) rfl rfl)
  obtain ⟨x1, rfl, hx1⟩ := cell_i64 Try.underlying2 (cell_at hlx (k := 1) rfl rfl)
  obtain ⟨x2, rfl, hx2⟩ := cell_i64 Try.underlying2 (cell_at hlx (k := 2) rfl rfl)
  obtain ⟨x3, rfl, hx3⟩ := cell_i64 Try.underlying2 (cell_at hlx (k := 3) rfl rfl)
  obtain ⟨x4, rfl, hx4⟩ := cell_i64 Try.underlying2 (cell_at hlx (k := 4) rfl rfl)
  obtain ⟨x5, rfl, hx5⟩ := cell_i64 Try.underlying2 (cell_at hlx (k := 5) rfl rfl)
  obtain ⟨x6, rfl, hx6⟩ := cell_i64 Try.underlying2 (cell_at hlx (k := 6) rfl rfl)
  obtain ⟨x7, rfl, hx7⟩ := cell_i64 Try.underlying2 (cell_at hlx (k := 7) rfl rfl)
  obtain ⟨x8, rfl, hx8⟩ := cell_i64 Try.underlying2 (cell_at hlx (k := 8) rfl rfl)
  obtain ⟨x9, rfl, hx9⟩ := cell_i64 Try.underlying2 (cell_at hlx (k := 9) rfl rfl)
  obtain ⟨x10, rfl, hx10⟩ := cell_i64 Try.underlying2 (cell_at hlx (k := 10) rfl rfl)
  obtain ⟨x11, rfl, hx11⟩ := cell_i64 Try.underlying3 (cell_at hlx (k := 11) rfl rfl)
  obtain ⟨x12, rfl⟩ := cell_bool Try.underlying4 (cell_at hlx (k := 12) rfl rfl)
  obtain ⟨lq, rfl, eq, hlq⟩ := ok_ints (Or.inl ⟨_, Try.underlying28⟩) ct28 cn28 (fun u hu => by rw [List.eq_of_mem_replicate hu]; exact Try.underlying2) (hval 1 28 v1 rfl rfl)
  obtain ⟨q0, q1, rfl⟩ := list2 (eq.trans (by simp))
  have hq0 : I64 q0 := hlq _ (by simp)
  have hq1 : I64 q1 := hlq _ (by simp)
  refine (sequencePasts_walk x0 x1 x2 x3 x4 x5 x6 x7 x8 x9 x10 x11 x12 q0 q1 hx1 hx2 hx3 hx4 hx5 hx6 hx7 hx8 hx9 hx10 hx11 hq0 hq1 W).mono fun e W' ⟨he, hb⟩ => ?_
  subst he
  exact ⟨_, rfl, law_post (f := Try.f4) (s := Rows.sequencePastsSpec) (tb := 4) laidOut typed' rfl (by kernel_rfl) Try.underlying4 hW' ⟨rfl, rfl, rfl⟩ hb⟩

theorem k0 : (Rows.sequencePastsRow.wf (OpenSpec.ofChange Rows.sequencePastsSpec)) = true := by kernel_rfl
theorem k3 : (Try.f4.params.all (Try.prog.readableRec ·)) = true := by kernel_rfl
theorem k4 : (namedTie Try.prog Rows.sequencePastsRow.named Rows.sequencePastsSpec.vars) = true := by kernel_rfl
theorem k5 : (Rows.sequencePastsRow.stops == []) = true := by kernel_rfl
theorem k7 : (Rows.sequencePastsRow.knobs == []) = true := by kernel_rfl
theorem k9 : (Rows.sequencePastsRow.inPlace == Try.prog.inPlace 4) = true := by kernel_rfl
theorem k10 : (Rows.sequencePastsRow.unfollowed == Try.prog.unfollowed 4) = true := by kernel_rfl
theorem k11 : (Rows.sequencePastsRow.recurses == Try.prog.recurses 4) = true := by kernel_rfl
theorem k12 : (Rows.sequencePastsRow.named == Try.prog.varsNamed 4) = true := by kernel_rfl
theorem k13 : (Rows.sequencePastsRow.maps == (Try.f4.params.toList ++ Rows.sequencePastsSpec.plain.varTypes Try.prog).any (Try.prog.mapsRec ·)) = true := by kernel_rfl
theorem k14 : (Rows.sequencePastsRow.ifaces == (Try.f4.params.toList ++ Rows.sequencePastsSpec.plain.varTypes Try.prog).any (Try.prog.ifacesRec ·)) = true := by kernel_rfl
theorem k15 : (Rows.sequencePastsRow.mapsOut == Try.prog.mapsAmong Try.f4.resultTypes.toList) = true := by kernel_rfl
theorem k16 : (Rows.sequencePastsRow.loops == (Try.f4.params.toList ++ Rows.sequencePastsSpec.plain.varTypes Try.prog).any (Try.prog.loopsFrom ·)) = true := by kernel_rfl
theorem k17 : (Rows.sequencePastsRow.wideKeys == (Try.f4.params.toList ++ Rows.sequencePastsSpec.plain.varTypes Try.prog ++ Try.f4.resultTypes.toList).any (Try.prog.wideKeysFrom ·)) = true := by kernel_rfl
theorem k18 : (Rows.sequencePastsSpec.vars.all (Try.prog.varReadable ·)) = true := by kernel_rfl
theorem k19 : (Try.f4.resultTypes.all (fun t => Try.prog.readableRec t && decide (t < Try.prog.types.size))) = true := by kernel_rfl
theorem k20 : (Rows.sequencePastsRow.ifacesOut == Try.f4.resultTypes.toList.any (Try.prog.ifacesRec ·)) = true := by kernel_rfl
theorem k21 : (Rows.sequencePastsRow.loopsOut == Try.f4.resultTypes.toList.any (Try.prog.loopsFrom ·)) = true := by kernel_rfl
theorem k22 : (Rows.sequencePastsRow.plainKeys == Try.prog.plainKeys) = true := by kernel_rfl
theorem k23 : (Rows.sequencePastsRow.shortTexts.isNone) = true := by kernel_rfl
theorem k26 : (Rows.sequencePastsRow.lifted == Try.prog.liftsFinal) = true := by rw [pf_lifts]; rfl
theorem k27 : (Try.prog.make == some Rows.sequencePastsRow.make) = true := by rw [pf_make]; rfl
theorem k28 : (Rows.sequencePastsRow.kinds == (if Rows.sequencePastsRow.domain.isEmpty then [] else Try.f4.params.toList.map fun t => match Try.prog.underlying t with | some (.int k) => some k | _ => none)) = true := by kernel_rfl
theorem k29 : (Rows.sequencePastsRow.pinned == Rows.sequencePastsRow.pinnedBy) = true := by kernel_rfl
theorem k30 : (Rows.sequencePastsRow.veiled == (Try.f4.params.toList ++ Rows.sequencePastsSpec.plain.varTypes Try.prog ++ Try.f4.resultTypes.toList).any (Try.prog.veiledRec ·)) = true := by kernel_rfl
theorem k31 : (Rows.sequencePastsRow.veiledFits Try.prog Try.f4.params.toList (Try.f4.params.toList ++ Rows.sequencePastsSpec.plain.varTypes Try.prog ++ Try.f4.resultTypes.toList)) = true := by kernel_rfl
set_option maxRecDepth 100000 in
theorem closed : joinedFacts Try.prog 4 Try.f4 Rows.sequencePastsSpec Rows.sequencePastsRow = true := (band (band (band (band (band (band (band (band (band (band (band (band (band (band (band (band (band (band (band (band (band (band (band (band (band (band (band (band (band (band (band k0 pf_laid) pf_maps) k3) k4) k5) pf_stops) k7) pf_knobs) k9) k10) k11) k12) k13) k14) k15) k16) k17) k18) k19) k20) k21) k22) k23) pf_heard) pf_enter) k26) k27) k28) k29) k30) k31)
theorem byName : Try.prog.funcNamed Rows.sequencePastsRow.func = some 4 := by kernel_rfl
theorem inst : Try.f4.isInstance Try.prog Rows.sequencePastsRow.origin Rows.sequencePastsRow.targs := of_decide_eq_true (by kernel_rfl)
theorem over : Rows.sequencePastsRow.holds Try.pinned (OpenSpec.ofChange Rows.sequencePastsSpec) :=
  OpenClaim.holds_of_wide 4 Try.f4 rfl rfl rfl rfl rfl rfl rfl ⟨rfl, rfl, rfl, rfl, rfl⟩ rfl rfl rfl rfl rfl byName Try.func4 closed
    inst (by unfold Func.isWrapper; rw [if_neg (of_decide_eq_false (by kernel_rfl))]; exact ⟨rfl, rfl⟩)
    (fun os started H enc _ => lifted os started H enc)

/-- The given statement. -/
theorem proved : Rows.SequencePastsSaid := over
end Go.Proofs.Ytdfkkknkiioghaa.sequencePasts

