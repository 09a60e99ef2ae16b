/-
  The walk of the law TurnRadii.
-/
import Derived.Test.YteedgcffdgkicaaMAwakeT
import Derived.Test.YteedgcffdgkicaaMTurnA
import Derived.Test.YteedgcffdgkicaaRows
import Derived.Test.YteedgcffdgkicaaMFrame
namespace Go.Proofs.Yteedgcffdgkicaa
open Go.RowKit
set_option linter.unusedVariables false
set_option linter.unusedSimpArgs false
set_option maxRecDepth 100000 in
set_option maxHeartbeats 4000000 in
theorem turnRadii_walk (speed bank : Int) (hspeed : I64 speed) (hbank : I64 bank) (w : World) :
    Calls Try.prog 11 #[.int .i64 speed, .int .i64 bank] w fun e w' => e = .returned (.bool true) ∧ Below w.heap.size w w' := by
  have RA := fun W => rad_any speed bank W
  have RB := fun W => rrad_any speed bank W
  have RC := fun W => rate_any speed bank W
  have RD := fun W => rrate_any speed bank W
  generalize (radF speed bank).1 = x1 at *
  generalize (radF speed bank).2 = x2 at *
  generalize (rateF speed bank).1 = x3 at *
  generalize (rateF speed bank).2 = x4 at *
  go_enter Try.func11, Try.ntmps11
  go_wp2_with fail
  refine (awake12_any _).mono ?_
  rintro e w1 ⟨rfl, hb1⟩
  go_wp2_with fail
  refine (RA _).mono ?_
  rintro e w2 ⟨rfl, hb2⟩
  go_wp2_with fail
  refine (RB _).mono ?_
  rintro e w3 ⟨rfl, hb3⟩
  go_wp2_with fail
  refine (RC _).mono ?_
  rintro e w4 ⟨rfl, hb4⟩
  go_wp2_with fail
  refine (RD _).mono ?_
  rintro e w5 ⟨rfl, hb5⟩
  go_wp2_with fail
  all_goals
    go_ret
    exact ⟨rfl, by (repeat (with_reducible (first | assumption | exact Below.refl _ _ | refine Below.drew ?_ | refine below_drewN ?_ _ | refine below_set ?_ (by simp; try omega) _ | refine below_alloc ?_ (Nat.le_refl _) _ | refine below_sub (by assumption) ?_)))⟩
end Go.Proofs.Yteedgcffdgkicaa

/-
  TurnRadii: the row's step: the given statement 'TurnRadiiSaid' out of the walk.
-/
namespace Go.Proofs.Yteedgcffdgkicaa.turnRadii
open Go.ChangeShapes Go.WideShapes Go.ChangeAt Go.RowKit
set_option linter.unusedVariables false

theorem own : ownKnob Try.prog.godebug = none := by kernel_rfl
theorem laidOut : laidOutB Try.prog = true := pf_laid
theorem typed : (Try.f11.params.toList.all fun t => Try.prog.readableRec t && decide (t < Try.prog.types.size)) = true := by kernel_rfl
theorem typed' : ∀ t ∈ Try.f11.params.toList, Try.prog.readableRec t = true ∧ t < Try.prog.types.size := by
  intro t ht
  have h := List.all_eq_true.1 typed t ht
  simpa using h
set_option maxRecDepth 100000 in
theorem lifted (os : Os) (started : os.Started) (H : Type) (enc : TypeId × Value → H) :
    ReturnsInHanded {} Try.checked os 11 .any (Rows.turnRadiiSpec.pre6 enc Try.prog Try.f11 Rows.turnRadiiRow.domain false) (Rows.turnRadiiSpec.post enc Try.prog Try.f11 false true false false) := by
  refine returnsInHanded_of_change (C := Try.checked) own started (by kernel_rfl) Try.func11
    (ChangeSpec.witness6 (enc := enc) (C := Try.checked) false ⟨#[], #[.int .i64 0, .int .i64 0], []⟩ 8 (by kernel_rfl) (by kernel_rfl) (by kernel_rfl) (by kernel_rfl)) ?_
  intro W base args ds gs before hval0 hW hcnd _
  have hval : ∀ (j : Nat) t v, Try.f11.params[j]? = some t → args[j]? = some v → Value.okWide Try.prog W .any base t v := hval0
  have hW' := hW
  obtain ⟨p, q, hA0, hV, rfl, hfz, hnd⟩ := hW
  have hlen := trodAll_length _ _ _ _ hA0
  rw [Try.params11] at hval hlen
  obtain ⟨v0, v1, rfl⟩ := arr2 hlen.1
  obtain ⟨d0, d1, rfl⟩ := list2 hlen.2
  obtain ⟨speed, rfl, hspeed⟩ := ok_i64 Try.underlying2 (hval 0 2 v0 rfl rfl)
  obtain ⟨bank, rfl, hbank⟩ := ok_i64 Try.underlying2 (hval 1 2 v1 rfl rfl)
  refine (turnRadii_walk speed bank hspeed hbank W).mono fun e W' ⟨he, hb⟩ => ?_
  subst he
  exact ⟨_, rfl, law_post (f := Try.f11) (s := Rows.turnRadiiSpec) (tb := 4) laidOut typed' rfl (by kernel_rfl) Try.underlying4 hW' ⟨rfl, rfl, rfl⟩ hb⟩

theorem k0 : (Rows.turnRadiiRow.wf (OpenSpec.ofChange Rows.turnRadiiSpec)) = true := by kernel_rfl
theorem k3 : (Try.f11.params.all (Try.prog.readableRec ·)) = true := by kernel_rfl
theorem k4 : (namedTie Try.prog Rows.turnRadiiRow.named Rows.turnRadiiSpec.vars) = true := by kernel_rfl
theorem k5 : (Rows.turnRadiiRow.stops == []) = true := by kernel_rfl
theorem k7 : (Rows.turnRadiiRow.knobs == []) = true := by kernel_rfl
theorem k9 : (Rows.turnRadiiRow.inPlace == Try.prog.inPlace 11) = true := by kernel_rfl
theorem k10 : (Rows.turnRadiiRow.unfollowed == Try.prog.unfollowed 11) = true := by kernel_rfl
theorem k11 : (Rows.turnRadiiRow.recurses == Try.prog.recurses 11) = true := by kernel_rfl
theorem k12 : (Rows.turnRadiiRow.named == Try.prog.varsNamed 11) = true := by kernel_rfl
theorem k13 : (Rows.turnRadiiRow.maps == (Try.f11.params.toList ++ Rows.turnRadiiSpec.plain.varTypes Try.prog).any (Try.prog.mapsRec ·)) = true := by kernel_rfl
theorem k14 : (Rows.turnRadiiRow.ifaces == (Try.f11.params.toList ++ Rows.turnRadiiSpec.plain.varTypes Try.prog).any (Try.prog.ifacesRec ·)) = true := by kernel_rfl
theorem k15 : (Rows.turnRadiiRow.mapsOut == Try.prog.mapsAmong Try.f11.resultTypes.toList) = true := by kernel_rfl
theorem k16 : (Rows.turnRadiiRow.loops == (Try.f11.params.toList ++ Rows.turnRadiiSpec.plain.varTypes Try.prog).any (Try.prog.loopsFrom ·)) = true := by kernel_rfl
theorem k17 : (Rows.turnRadiiRow.wideKeys == (Try.f11.params.toList ++ Rows.turnRadiiSpec.plain.varTypes Try.prog ++ Try.f11.resultTypes.toList).any (Try.prog.wideKeysFrom ·)) = true := by kernel_rfl
theorem k18 : (Rows.turnRadiiSpec.vars.all (Try.prog.varReadable ·)) = true := by kernel_rfl
theorem k19 : (Try.f11.resultTypes.all (fun t => Try.prog.readableRec t && decide (t < Try.prog.types.size))) = true := by kernel_rfl
theorem k20 : (Rows.turnRadiiRow.ifacesOut == Try.f11.resultTypes.toList.any (Try.prog.ifacesRec ·)) = true := by kernel_rfl
theorem k21 : (Rows.turnRadiiRow.loopsOut == Try.f11.resultTypes.toList.any (Try.prog.loopsFrom ·)) = true := by kernel_rfl
theorem k22 : (Rows.turnRadiiRow.plainKeys == Try.prog.plainKeys) = true := by kernel_rfl
theorem k23 : (Rows.turnRadiiRow.shortTexts.isNone) = true := by kernel_rfl
theorem k26 : (Rows.turnRadiiRow.lifted == Try.prog.liftsFinal) = true := by rw [pf_lifts]; rfl
theorem k27 : (Try.prog.make == some Rows.turnRadiiRow.make) = true := by rw [pf_make]; rfl
theorem k28 : (Rows.turnRadiiRow.kinds == (if Rows.turnRadiiRow.domain.isEmpty then [] else Try.f11.params.toList.map fun t => match Try.prog.underlying t with | some (.int k) => some k | _ => none)) = true := by kernel_rfl
theorem k29 : (Rows.turnRadiiRow.pinned == Rows.turnRadiiRow.pinnedBy) = true := by kernel_rfl
theorem k30 : (Rows.turnRadiiRow.veiled == (Try.f11.params.toList ++ Rows.turnRadiiSpec.plain.varTypes Try.prog ++ Try.f11.resultTypes.toList).any (Try.prog.veiledRec ·)) = true := by kernel_rfl
theorem k31 : (Rows.turnRadiiRow.veiledFits Try.prog Try.f11.params.toList (Try.f11.params.toList ++ Rows.turnRadiiSpec.plain.varTypes Try.prog ++ Try.f11.resultTypes.toList)) = true := by kernel_rfl
set_option maxRecDepth 100000 in
theorem closed : joinedFacts Try.prog 11 Try.f11 Rows.turnRadiiSpec Rows.turnRadiiRow = true := (band (band (band (band (band (band (band (band (band (band (band (band (band (band (band (band (band (band (band (band (band (band (band (band (band (band (band (band (band (band (band k0 pf_laid) pf_maps) k3) k4) k5) pf_stops) k7) pf_knobs) k9) k10) k11) k12) k13) k14) k15) k16) k17) k18) k19) k20) k21) k22) k23) pf_heard) pf_enter) k26) k27) k28) k29) k30) k31)
theorem byName : Try.prog.funcNamed Rows.turnRadiiRow.func = some 11 := by kernel_rfl
theorem inst : Try.f11.isInstance Try.prog Rows.turnRadiiRow.origin Rows.turnRadiiRow.targs := of_decide_eq_true (by kernel_rfl)
theorem over : Rows.turnRadiiRow.holds Try.pinned (OpenSpec.ofChange Rows.turnRadiiSpec) :=
  OpenClaim.holds_of_wide 11 Try.f11 rfl rfl rfl rfl rfl rfl rfl ⟨rfl, rfl, rfl, rfl, rfl⟩ rfl rfl rfl rfl rfl byName Try.func11 closed
    inst (by unfold Func.isWrapper; rw [if_neg (of_decide_eq_false (by kernel_rfl))]; exact ⟨rfl, rfl⟩)
    (fun os started H enc _ => lifted os started H enc)

/-- The given statement. -/
theorem proved : Rows.TurnRadiiSaid := over
end Go.Proofs.Yteedgcffdgkicaa.turnRadii

