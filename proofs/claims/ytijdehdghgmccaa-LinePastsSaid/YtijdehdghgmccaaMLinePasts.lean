/-
  The walk of the law LinePasts.
-/
import Derived.Test.YtijdehdghgmccaaMAwakeL
import Derived.Test.YtijdehdghgmccaaMLaws
import Derived.Test.YtijdehdghgmccaaRows
import Derived.Test.YtijdehdghgmccaaMFrame
namespace Go.Proofs.Ytijdehdghgmccaa
open Go.RowKit
set_option linter.unusedVariables false
set_option linter.unusedSimpArgs false
set_option maxRecDepth 100000 in
set_option maxHeartbeats 4000000 in
theorem linePasts_walk (ax ay bx b_y cx cy dx dy : Int) (hax : I64 ax) (hay : I64 ay) (hbx : I64 bx) (hb_y : I64 b_y) (hcx : I64 cx) (hcy : I64 cy) (hdx : I64 dx) (hdy : I64 dy) (w : World) :
    Calls Try.prog 25 #[.agg #[.int .i64 ax, .int .i64 ay, .int .i64 bx, .int .i64 b_y, .int .i64 cx, .int .i64 cy, .int .i64 dx, .int .i64 dy]] w fun e w' => e = .returned (.bool true) ∧ Below w.heap.size w w' := by
  obtain ⟨R, hR⟩ : ∃ R, R = pastF ax ay bx b_y cx cy dx dy := ⟨_, rfl⟩
  have P1 := fun W => past_any ax ay bx b_y cx cy dx dy W R hR
  have P2 := fun W => rpast_any ax ay bx b_y cx cy dx dy W R hR
  have P3 := fun W => past_any ax ay bx b_y cx cy bx b_y W false (past_b ax ay bx b_y cx cy).symm
  clear hR
  rcases R with _ | _
  all_goals
    go_enter Try.func25, Try.ntmps25
    go_wp2_with fail
    refine (awake11_any _).mono ?_
    rintro e w1 ⟨rfl, hb1⟩
    have f1 := cell_below hb1 (b := w.heap.size) (o := 0) (v := .int .i64 ax) (by repeat (first | (with_reducible assumption) | (with_reducible refine cell_drew ?_) | (with_reducible refine cell_drewN ?_ _) | (with_reducible refine cell_below (by assumption) ?_) | ((with_reducible refine cell_new ?_ ?_); (· (simp; done)); (· rfl)) | (with_reducible refine cell_alloc ?_ _) | ((with_reducible refine cell_set ?_ ?_ _); (· first | (simp; done) | (simp; omega) | omega))))
    have zf1 : w.heap.size < w1.heap.size := World.block_lt_of_cell? _ _ f1
    have f2 := cell_below hb1 (b := w.heap.size) (o := 1) (v := .int .i64 ay) (by repeat (first | (with_reducible assumption) | (with_reducible refine cell_drew ?_) | (with_reducible refine cell_drewN ?_ _) | (with_reducible refine cell_below (by assumption) ?_) | ((with_reducible refine cell_new ?_ ?_); (· (simp; done)); (· rfl)) | (with_reducible refine cell_alloc ?_ _) | ((with_reducible refine cell_set ?_ ?_ _); (· first | (simp; done) | (simp; omega) | omega))))
    have f3 := cell_below hb1 (b := w.heap.size) (o := 2) (v := .int .i64 bx) (by repeat (first | (with_reducible assumption) | (with_reducible refine cell_drew ?_) | (with_reducible refine cell_drewN ?_ _) | (with_reducible refine cell_below (by assumption) ?_) | ((with_reducible refine cell_new ?_ ?_); (· (simp; done)); (· rfl)) | (with_reducible refine cell_alloc ?_ _) | ((with_reducible refine cell_set ?_ ?_ _); (· first | (simp; done) | (simp; omega) | omega))))
    have f4 := cell_below hb1 (b := w.heap.size) (o := 3) (v := .int .i64 b_y) (by repeat (first | (with_reducible assumption) | (with_reducible refine cell_drew ?_) | (with_reducible refine cell_drewN ?_ _) | (with_reducible refine cell_below (by assumption) ?_) | ((with_reducible refine cell_new ?_ ?_); (· (simp; done)); (· rfl)) | (with_reducible refine cell_alloc ?_ _) | ((with_reducible refine cell_set ?_ ?_ _); (· first | (simp; done) | (simp; omega) | omega))))
    have f5 := cell_below hb1 (b := w.heap.size) (o := 4) (v := .int .i64 cx) (by repeat (first | (with_reducible assumption) | (with_reducible refine cell_drew ?_) | (with_reducible refine cell_drewN ?_ _) | (with_reducible refine cell_below (by assumption) ?_) | ((with_reducible refine cell_new ?_ ?_); (· (simp; done)); (· rfl)) | (with_reducible refine cell_alloc ?_ _) | ((with_reducible refine cell_set ?_ ?_ _); (· first | (simp; done) | (simp; omega) | omega))))
    have f6 := cell_below hb1 (b := w.heap.size) (o := 5) (v := .int .i64 cy) (by repeat (first | (with_reducible assumption) | (with_reducible refine cell_drew ?_) | (with_reducible refine cell_drewN ?_ _) | (with_reducible refine cell_below (by assumption) ?_) | ((with_reducible refine cell_new ?_ ?_); (· (simp; done)); (· rfl)) | (with_reducible refine cell_alloc ?_ _) | ((with_reducible refine cell_set ?_ ?_ _); (· first | (simp; done) | (simp; omega) | omega))))
    have f7 := cell_below hb1 (b := w.heap.size) (o := 6) (v := .int .i64 dx) (by repeat (first | (with_reducible assumption) | (with_reducible refine cell_drew ?_) | (with_reducible refine cell_drewN ?_ _) | (with_reducible refine cell_below (by assumption) ?_) | ((with_reducible refine cell_new ?_ ?_); (· (simp; done)); (· rfl)) | (with_reducible refine cell_alloc ?_ _) | ((with_reducible refine cell_set ?_ ?_ _); (· first | (simp; done) | (simp; omega) | omega))))
    have f8 := cell_below hb1 (b := w.heap.size) (o := 7) (v := .int .i64 dy) (by repeat (first | (with_reducible assumption) | (with_reducible refine cell_drew ?_) | (with_reducible refine cell_drewN ?_ _) | (with_reducible refine cell_below (by assumption) ?_) | ((with_reducible refine cell_new ?_ ?_); (· (simp; done)); (· rfl)) | (with_reducible refine cell_alloc ?_ _) | ((with_reducible refine cell_set ?_ ?_ _); (· first | (simp; done) | (simp; omega) | omega))))
    go_wp2_with fail
    go_region_held3 (fun w' => w'.cell? ⟨w.heap.size, 0, none⟩ = some (.int .i64 ax) ∧ w'.cell? ⟨w.heap.size, 1, none⟩ = some (.int .i64 ay) ∧ w'.cell? ⟨w.heap.size, 2, none⟩ = some (.int .i64 bx) ∧ w'.cell? ⟨w.heap.size, 3, none⟩ = some (.int .i64 b_y) ∧ w'.cell? ⟨w.heap.size, 4, none⟩ = some (.int .i64 cx) ∧ w'.cell? ⟨w.heap.size, 5, none⟩ = some (.int .i64 cy) ∧ w'.cell? ⟨w.heap.size, 6, none⟩ = some (.int .i64 dx) ∧ w'.cell? ⟨w.heap.size, 7, none⟩ = some (.int .i64 dy)) ((go_split_ands; refine ⟨?_, ?_, ?_, ?_, ?_, ?_, ?_, ?_⟩ <;> (repeat (first | (with_reducible assumption) | (with_reducible refine cell_drew ?_) | (with_reducible refine cell_drewN ?_ _) | (with_reducible refine cell_below (by assumption) ?_) | ((with_reducible refine cell_new ?_ ?_); (· (simp; done)); (· rfl)) | (with_reducible refine cell_alloc ?_ _) | ((with_reducible refine cell_set ?_ ?_ _); (· first | (simp; done) | (simp; omega) | omega))))))
      (first
        | (go_at_call_of 71 (Value.agg #[.int .i64 dx, .int .i64 dy]); (with_reducible refine (P1 _).mono ?_); rintro e w' ⟨rfl, hb'⟩)
        | (go_at_call 71; (with_reducible refine (P3 _).mono ?_); rintro e w' ⟨rfl, hb'⟩)
        | (go_at_call 72; (with_reducible refine (P2 _).mono ?_); rintro e w' ⟨rfl, hb'⟩))
    rename_i hH
    obtain ⟨f9, f10, f11, f12, f13, f14, f15, f16⟩ := hH
    have zf9 : w.heap.size < w'.heap.size := World.block_lt_of_cell? _ _ f9
    clear f1 zf1 f2 f3 f4 f5 f6 f7 f8
    go_wp2_with fail
    go_ret
    exact ⟨rfl, by (repeat (with_reducible (first | assumption | exact Below.refl _ _ | refine Below.drew ?_ | refine below_drewN ?_ _ | refine below_set ?_ (by simp; try omega) _ | refine below_alloc ?_ (Nat.le_refl _) _ | refine below_sub (by assumption) ?_)))⟩
end Go.Proofs.Ytijdehdghgmccaa

/-
  LinePasts: the row's step: the given statement 'LinePastsSaid' out of the walk.
-/
namespace Go.Proofs.Ytijdehdghgmccaa.linePasts
open Go.ChangeShapes Go.WideShapes Go.ChangeAt Go.RowKit
set_option linter.unusedVariables false

theorem own : ownKnob Try.prog.godebug = none := by kernel_rfl
theorem laidOut : laidOutB Try.prog = true := pf_laid
theorem typed : (Try.f25.params.toList.all fun t => Try.prog.readableRec t && decide (t < Try.prog.types.size)) = true := by kernel_rfl
theorem typed' : ∀ t ∈ Try.f25.params.toList, Try.prog.readableRec t = true ∧ t < Try.prog.types.size := by
  intro t ht
  have h := List.all_eq_true.1 typed t ht
  simpa using h
theorem ct65 : Try.prog.cellTypes Try.prog.depth 65 = some (List.replicate 8 2) := by kernel_rfl
theorem cn65 : Try.prog.cellsOf 65 = (List.replicate 8 2).length := by kernel_rfl
set_option maxRecDepth 100000 in
theorem lifted (os : Os) (started : os.Started) (H : Type) (enc : TypeId × Value → H) :
    ReturnsInHanded {} Try.checked os 25 .any (Rows.linePastsSpec.pre6 enc Try.prog Try.f25 Rows.linePastsRow.domain false) (Rows.linePastsSpec.post enc Try.prog Try.f25 false true false false) := by
  refine returnsInHanded_of_change (C := Try.checked) own started (by kernel_rfl) Try.func25
    (ChangeSpec.witness6 (enc := enc) (C := Try.checked) false ⟨#[], #[.agg #[.int .i64 0, .int .i64 0, .int .i64 0, .int .i64 0, .int .i64 0, .int .i64 0, .int .i64 0, .int .i64 0]], []⟩ 8 (by kernel_rfl) (by kernel_rfl) (by kernel_rfl) (by kernel_rfl)) ?_
  intro W base args ds gs before hval0 hW hcnd _
  have hval : ∀ (j : Nat) t v, Try.f25.params[j]? = some t → args[j]? = some v → Value.okWide Try.prog W .any base t v := hval0
  have hW' := hW
  obtain ⟨p, q, hA0, hV, rfl, hfz, hnd⟩ := hW
  have hlen := trodAll_length _ _ _ _ hA0
  rw [Try.params25] at hval hlen
  obtain ⟨v0, rfl⟩ := arr1 hlen.1
  obtain ⟨d0, rfl⟩ := list1 hlen.2
  obtain ⟨ll, rfl, el, hll⟩ := ok_ints (Or.inl ⟨_, Try.underlying65⟩) ct65 cn65 (fun u hu => by rw [List.eq_of_mem_replicate hu]; exact Try.underlying2) (hval 0 65 v0 rfl rfl)
  obtain ⟨l0, l1, l2, l3, l4, l5, l6, l7, rfl⟩ := list8 (el.trans (by simp))
  have hl0 : I64 l0 := hll _ (by simp)
  have hl1 : I64 l1 := hll _ (by simp)
  have hl2 : I64 l2 := hll _ (by simp)
  have hl3 : I64 l3 := hll _ (by simp)
  have hl4 : I64 l4 := hll _ (by simp)
  have hl5 : I64 l5 := hll _ (by simp)
  have hl6 : I64 l6 := hll _ (by simp)
  have hl7 : I64 l7 := hll _ (by simp)
  refine (linePasts_walk l0 l1 l2 l3 l4 l5 l6 l7 hl0 hl1 hl2 hl3 hl4 hl5 hl6 hl7 W).mono fun e W' ⟨he, hb⟩ => ?_
  subst he
  exact ⟨_, rfl, law_post (f := Try.f25) (s := Rows.linePastsSpec) (tb := 4) laidOut typed' rfl (by kernel_rfl) Try.underlying4 hW' ⟨rfl, rfl, rfl⟩ hb⟩

theorem k0 : (Rows.linePastsRow.wf (OpenSpec.ofChange Rows.linePastsSpec)) = true := by kernel_rfl
theorem k3 : (Try.f25.params.all (Try.prog.readableRec ·)) = true := by kernel_rfl
theorem k4 : (namedTie Try.prog Rows.linePastsRow.named Rows.linePastsSpec.vars) = true := by kernel_rfl
theorem k5 : (Rows.linePastsRow.stops == []) = true := by kernel_rfl
theorem k7 : (Rows.linePastsRow.knobs == []) = true := by kernel_rfl
theorem k9 : (Rows.linePastsRow.inPlace == Try.prog.inPlace 25) = true := by kernel_rfl
theorem k10 : (Rows.linePastsRow.unfollowed == Try.prog.unfollowed 25) = true := by kernel_rfl
theorem k11 : (Rows.linePastsRow.recurses == Try.prog.recurses 25) = true := by kernel_rfl
theorem k12 : (Rows.linePastsRow.named == Try.prog.varsNamed 25) = true := by kernel_rfl
theorem k13 : (Rows.linePastsRow.maps == (Try.f25.params.toList ++ Rows.linePastsSpec.plain.varTypes Try.prog).any (Try.prog.mapsRec ·)) = true := by kernel_rfl
theorem k14 : (Rows.linePastsRow.ifaces == (Try.f25.params.toList ++ Rows.linePastsSpec.plain.varTypes Try.prog).any (Try.prog.ifacesRec ·)) = true := by kernel_rfl
theorem k15 : (Rows.linePastsRow.mapsOut == Try.prog.mapsAmong Try.f25.resultTypes.toList) = true := by kernel_rfl
theorem k16 : (Rows.linePastsRow.loops == (Try.f25.params.toList ++ Rows.linePastsSpec.plain.varTypes Try.prog).any (Try.prog.loopsFrom ·)) = true := by kernel_rfl
theorem k17 : (Rows.linePastsRow.wideKeys == (Try.f25.params.toList ++ Rows.linePastsSpec.plain.varTypes Try.prog ++ Try.f25.resultTypes.toList).any (Try.prog.wideKeysFrom ·)) = true := by kernel_rfl
theorem k18 : (Rows.linePastsSpec.vars.all (Try.prog.varReadable ·)) = true := by kernel_rfl
theorem k19 : (Try.f25.resultTypes.all (fun t => Try.prog.readableRec t && decide (t < Try.prog.types.size))) = true := by kernel_rfl
theorem k20 : (Rows.linePastsRow.ifacesOut == Try.f25.resultTypes.toList.any (Try.prog.ifacesRec ·)) = true := by kernel_rfl
theorem k21 : (Rows.linePastsRow.loopsOut == Try.f25.resultTypes.toList.any (Try.prog.loopsFrom ·)) = true := by kernel_rfl
theorem k22 : (Rows.linePastsRow.plainKeys == Try.prog.plainKeys) = true := by kernel_rfl
theorem k23 : (Rows.linePastsRow.shortTexts.isNone) = true := by kernel_rfl
theorem k26 : (Rows.linePastsRow.lifted == Try.prog.liftsFinal) = true := by rw [pf_lifts]; rfl
theorem k27 : (Try.prog.make == some Rows.linePastsRow.make) = true := by rw [pf_make]; rfl
theorem k28 : (Rows.linePastsRow.kinds == (if Rows.linePastsRow.domain.isEmpty then [] else Try.f25.params.toList.map fun t => match Try.prog.underlying t with | some (.int k) => some k | _ => none)) = true := by kernel_rfl
theorem k29 : (Rows.linePastsRow.pinned == Rows.linePastsRow.pinnedBy) = true := by kernel_rfl
theorem k30 : (Rows.linePastsRow.veiled == (Try.f25.params.toList ++ Rows.linePastsSpec.plain.varTypes Try.prog ++ Try.f25.resultTypes.toList).any (Try.prog.veiledRec ·)) = true := by kernel_rfl
theorem k31 : (Rows.linePastsRow.veiledFits Try.prog Try.f25.params.toList (Try.f25.params.toList ++ Rows.linePastsSpec.plain.varTypes Try.prog ++ Try.f25.resultTypes.toList)) = true := by kernel_rfl
set_option maxRecDepth 100000 in
theorem closed : joinedFacts Try.prog 25 Try.f25 Rows.linePastsSpec Rows.linePastsRow = true := (band (band (band (band (band (band (band (band (band (band (band (band (band (band (band (band (band (band (band (band (band (band (band (band (band (band (band (band (band (band (band k0 pf_laid) pf_maps) k3) k4) k5) pf_stops) k7) pf_knobs) k9) k10) k11) k12) k13) k14) k15) k16) k17) k18) k19) k20) k21) k22) k23) pf_heard) pf_enter) k26) k27) k28) k29) k30) k31)
theorem byName : Try.prog.funcNamed Rows.linePastsRow.func = some 25 := by kernel_rfl
theorem inst : Try.f25.isInstance Try.prog Rows.linePastsRow.origin Rows.linePastsRow.targs := of_decide_eq_true (by kernel_rfl)
theorem over : Rows.linePastsRow.holds Try.pinned (OpenSpec.ofChange Rows.linePastsSpec) :=
  OpenClaim.holds_of_wide 25 Try.f25 rfl rfl rfl rfl rfl rfl rfl ⟨rfl, rfl, rfl, rfl, rfl⟩ rfl rfl rfl rfl rfl byName Try.func25 closed
    inst (by unfold Func.isWrapper; rw [if_neg (of_decide_eq_false (by kernel_rfl))]; exact ⟨rfl, rfl⟩)
    (fun os started H enc _ => lifted os started H enc)

/-- The given statement. -/
theorem proved : Rows.LinePastsSaid := over
end Go.Proofs.Ytijdehdghgmccaa.linePasts

