/-
  The walk of the law TurnBanks.
-/
import Derived.Test.YteedgcffdgkicaaMAwakeT
import Derived.Test.YteedgcffdgkicaaMTurnA
import Derived.Test.YteedgcffdgkicaaMBank
import Derived.Test.YteedgcffdgkicaaRows
import Derived.Test.YteedgcffdgkicaaMFrame
namespace Go.Proofs.Yteedgcffdgkicaa
open Go.RowKit
set_option linter.unusedVariables false
set_option linter.unusedSimpArgs false
set_option maxRecDepth 100000 in
set_option maxHeartbeats 4000000 in
theorem turnBanks_walk (speed radius : Int) (hspeed : I64 speed) (hradius : I64 radius) (w : World) :
    Calls Try.prog 12 #[.int .i64 speed, .int .i64 radius] w fun e w' => e = .returned (.bool true) ∧ Below w.heap.size w w' := by
  go_enter Try.func12, Try.ntmps12
  go_wp2_with fail
  refine (awake12_any _).mono ?_
  rintro e w1 ⟨rfl, hb1⟩
  go_wp2_with fail
  refine (bank_any speed radius hspeed hradius _).mono ?_
  rintro e w2 ⟨R, rfl, hR, hb2⟩
  rcases hR with ⟨rfl, hi⟩ | ⟨⟨i1, i2, i3, i4⟩, hF, rfl⟩ | ⟨⟨i1, i2, i3, i4⟩, hE, ⟨b1, b2⟩, hF, hG⟩
  · have RA := fun W => rad_any speed 3000 W
    generalize (radF speed 3000).1 = X at *
    generalize (radF speed 3000).2 = E at *
    have hi' : speed < 1 ∨ (1 ≤ speed ∧ 1000 < speed) ∨ (1 ≤ speed ∧ speed ≤ 1000 ∧ radius < 1) ∨ (1 ≤ speed ∧ speed ≤ 1000 ∧ 1 ≤ radius ∧ 8000000 < radius) := by omega
    clear hi
    rcases hi' with c1 | ⟨c1, c2⟩ | ⟨c1, c2, c3⟩ | ⟨c1, c2, c3, c4⟩
    all_goals
      go_wp2_with fail
      refine (RA _).mono ?_
      rintro e w3 ⟨rfl, hb3⟩
      go_wp2_with fail
      all_goals
        go_ret
        exact ⟨rfl, by (repeat (with_reducible (first | assumption | exact Below.refl _ _ | refine Below.drew ?_ | refine below_drewN ?_ _ | refine below_set ?_ (by simp; try omega) _ | refine below_alloc ?_ (Nat.le_refl _) _ | refine below_sub (by assumption) ?_)))⟩
  · have RA := fun W => rad_any speed 3000 W
    have hF' := of_decide_eq_false hF
    clear hF
    generalize (radF speed 3000).1 = X at *
    generalize (radF speed 3000).2 = E at *
    have hc : (E == 0) = false ∨ (E = 0 ∧ X > radius) := by
      by_cases h : E = 0
      · right
        refine ⟨h, ?_⟩
        apply Classical.byContradiction
        intro hn
        exact hF' ⟨h, by omega⟩
      · left
        rw [beq_eq_false_iff_ne]; exact h
    clear hF'
    rcases hc with hc | ⟨rfl, hc⟩
    all_goals
      go_wp2_with fail
      refine (RA _).mono ?_
      rintro e w3 ⟨rfl, hb3⟩
      go_wp2_with fail
      all_goals
        go_ret
        refine ⟨ret_bool ?_, by (repeat (with_reducible (first | assumption | exact Below.refl _ _ | refine Below.drew ?_ | refine below_drewN ?_ _ | refine below_set ?_ (by simp; try omega) _ | refine below_alloc ?_ (Nat.le_refl _) _ | refine below_sub (by assumption) ?_)))⟩
        first | rfl | (simp; done) | (simp [hc]; done) | (simp at hc; simp [hc]; done) | (simp at hc ⊢; omega) | (simp; omega)
  · obtain ⟨b, E⟩ := R
    obtain rfl : E = 0 := hE
    have b1' : 1 ≤ b := b1
    have b2' : b ≤ 3000 := b2
    have hF' : (radF speed b).2 = 0 ∧ (radF speed b).1 ≤ radius := of_decide_eq_true hF
    have hG' : (radF speed (b - 1)).2 = 2 ∨ ((radF speed (b - 1)).2 = 0 ∧ radius < (radF speed (b - 1)).1) := by
      have hG0 : b = 1 ∨ fitsF speed radius (b - 1) = false := hG
      rcases hG0 with rfl | h
      · left; rw [show (1 : Int) - 1 = 0 from rfl, radF_zero]
      · have h' := of_decide_eq_false h
        rcases radF_code speed (b - 1) with hc | hc
        · right
          refine ⟨hc, ?_⟩
          apply Classical.byContradiction
          intro hn
          exact h' ⟨hc, by omega⟩
        · exact .inl hc
    have RA := fun W => rad_any speed b W
    have RB := fun W => rad_any speed (b - 1) W
    clear hF hG b1 b2
    obtain ⟨f1, f2⟩ := hF'
    rw [f1] at RA
    generalize (radF speed b).1 = X at *
    clear f1
    generalize (radF speed (b - 1)).1 = Y at *
    generalize (radF speed (b - 1)).2 = F at *
    rcases hG' with rfl | ⟨rfl, g2⟩
    all_goals
      go_wp2_with fail
      refine (RA _).mono ?_
      rintro e w3 ⟨rfl, hb3⟩
      go_wp2_with fail
      refine (RB _).mono ?_
      rintro e w4 ⟨rfl, hb4⟩
      go_wp2_with fail
      all_goals
        go_ret
        exact ⟨rfl, by (repeat (with_reducible (first | assumption | exact Below.refl _ _ | refine Below.drew ?_ | refine below_drewN ?_ _ | refine below_set ?_ (by simp; try omega) _ | refine below_alloc ?_ (Nat.le_refl _) _ | refine below_sub (by assumption) ?_)))⟩
end Go.Proofs.Yteedgcffdgkicaa

/-
  TurnBanks: the row's step: the given statement 'TurnBanksSaid' out of the walk.
-/
namespace Go.Proofs.Yteedgcffdgkicaa.turnBanks
open Go.ChangeShapes Go.WideShapes Go.ChangeAt Go.RowKit
set_option linter.unusedVariables false

theorem own : ownKnob Try.prog.godebug = none := by kernel_rfl
theorem laidOut : laidOutB Try.prog = true := pf_laid
theorem typed : (Try.f12.params.toList.all fun t => Try.prog.readableRec t && decide (t < Try.prog.types.size)) = true := by kernel_rfl
theorem typed' : ∀ t ∈ Try.f12.params.toList, Try.prog.readableRec t = true ∧ t < Try.prog.types.size := by
  intro t ht
  have h := List.all_eq_true.1 typed t ht
  simpa using h
set_option maxRecDepth 100000 in
theorem lifted (os : Os) (started : os.Started) (H : Type) (enc : TypeId × Value → H) :
    ReturnsInHanded {} Try.checked os 12 .any (Rows.turnBanksSpec.pre6 enc Try.prog Try.f12 Rows.turnBanksRow.domain false) (Rows.turnBanksSpec.post enc Try.prog Try.f12 false true false false) := by
  refine returnsInHanded_of_change (C := Try.checked) own started (by kernel_rfl) Try.func12
    (ChangeSpec.witness6 (enc := enc) (C := Try.checked) false ⟨#[], #[.int .i64 0, .int .i64 0], []⟩ 8 (by kernel_rfl) (by kernel_rfl) (by kernel_rfl) (by kernel_rfl)) ?_
  intro W base args ds gs before hval0 hW hcnd _
  have hval : ∀ (j : Nat) t v, Try.f12.params[j]? = some t → args[j]? = some v → Value.okWide Try.prog W .any base t v := hval0
  have hW' := hW
  obtain ⟨p, q, hA0, hV, rfl, hfz, hnd⟩ := hW
  have hlen := trodAll_length _ _ _ _ hA0
  rw [Try.params12] at hval hlen
  obtain ⟨v0, v1, rfl⟩ := arr2 hlen.1
  obtain ⟨d0, d1, rfl⟩ := list2 hlen.2
  obtain ⟨speed, rfl, hspeed⟩ := ok_i64 Try.underlying2 (hval 0 2 v0 rfl rfl)
  obtain ⟨radius, rfl, hradius⟩ := ok_i64 Try.underlying2 (hval 1 2 v1 rfl rfl)
  refine (turnBanks_walk speed radius hspeed hradius W).mono fun e W' ⟨he, hb⟩ => ?_
  subst he
  exact ⟨_, rfl, law_post (f := Try.f12) (s := Rows.turnBanksSpec) (tb := 4) laidOut typed' rfl (by kernel_rfl) Try.underlying4 hW' ⟨rfl, rfl, rfl⟩ hb⟩

theorem k0 : (Rows.turnBanksRow.wf (OpenSpec.ofChange Rows.turnBanksSpec)) = true := by kernel_rfl
theorem k3 : (Try.f12.params.all (Try.prog.readableRec ·)) = true := by kernel_rfl
theorem k4 : (namedTie Try.prog Rows.turnBanksRow.named Rows.turnBanksSpec.vars) = true := by kernel_rfl
theorem k5 : (Rows.turnBanksRow.stops == []) = true := by kernel_rfl
theorem k7 : (Rows.turnBanksRow.knobs == []) = true := by kernel_rfl
theorem k9 : (Rows.turnBanksRow.inPlace == Try.prog.inPlace 12) = true := by kernel_rfl
theorem k10 : (Rows.turnBanksRow.unfollowed == Try.prog.unfollowed 12) = true := by kernel_rfl
theorem k11 : (Rows.turnBanksRow.recurses == Try.prog.recurses 12) = true := by kernel_rfl
theorem k12 : (Rows.turnBanksRow.named == Try.prog.varsNamed 12) = true := by kernel_rfl
theorem k13 : (Rows.turnBanksRow.maps == (Try.f12.params.toList ++ Rows.turnBanksSpec.plain.varTypes Try.prog).any (Try.prog.mapsRec ·)) = true := by kernel_rfl
theorem k14 : (Rows.turnBanksRow.ifaces == (Try.f12.params.toList ++ Rows.turnBanksSpec.plain.varTypes Try.prog).any (Try.prog.ifacesRec ·)) = true := by kernel_rfl
theorem k15 : (Rows.turnBanksRow.mapsOut == Try.prog.mapsAmong Try.f12.resultTypes.toList) = true := by kernel_rfl
theorem k16 : (Rows.turnBanksRow.loops == (Try.f12.params.toList ++ Rows.turnBanksSpec.plain.varTypes Try.prog).any (Try.prog.loopsFrom ·)) = true := by kernel_rfl
theorem k17 : (Rows.turnBanksRow.wideKeys == (Try.f12.params.toList ++ Rows.turnBanksSpec.plain.varTypes Try.prog ++ Try.f12.resultTypes.toList).any (Try.prog.wideKeysFrom ·)) = true := by kernel_rfl
theorem k18 : (Rows.turnBanksSpec.vars.all (Try.prog.varReadable ·)) = true := by kernel_rfl
theorem k19 : (Try.f12.resultTypes.all (fun t => Try.prog.readableRec t && decide (t < Try.prog.types.size))) = true := by kernel_rfl
theorem k20 : (Rows.turnBanksRow.ifacesOut == Try.f12.resultTypes.toList.any (Try.prog.ifacesRec ·)) = true := by kernel_rfl
theorem k21 : (Rows.turnBanksRow.loopsOut == Try.f12.resultTypes.toList.any (Try.prog.loopsFrom ·)) = true := by kernel_rfl
theorem k22 : (Rows.turnBanksRow.plainKeys == Try.prog.plainKeys) = true := by kernel_rfl
theorem k23 : (Rows.turnBanksRow.shortTexts.isNone) = true := by kernel_rfl
theorem k26 : (Rows.turnBanksRow.lifted == Try.prog.liftsFinal) = true := by rw [pf_lifts]; rfl
theorem k27 : (Try.prog.make == some Rows.turnBanksRow.make) = true := by rw [pf_make]; rfl
theorem k28 : (Rows.turnBanksRow.kinds == (if Rows.turnBanksRow.domain.isEmpty then [] else Try.f12.params.toList.map fun t => match Try.prog.underlying t with | some (.int k) => some k | _ => none)) = true := by kernel_rfl
theorem k29 : (Rows.turnBanksRow.pinned == Rows.turnBanksRow.pinnedBy) = true := by kernel_rfl
theorem k30 : (Rows.turnBanksRow.veiled == (Try.f12.params.toList ++ Rows.turnBanksSpec.plain.varTypes Try.prog ++ Try.f12.resultTypes.toList).any (Try.prog.veiledRec ·)) = true := by kernel_rfl
theorem k31 : (Rows.turnBanksRow.veiledFits Try.prog Try.f12.params.toList (Try.f12.params.toList ++ Rows.turnBanksSpec.plain.varTypes Try.prog ++ Try.f12.resultTypes.toList)) = true := by kernel_rfl
set_option maxRecDepth 100000 in
theorem closed : joinedFacts Try.prog 12 Try.f12 Rows.turnBanksSpec Rows.turnBanksRow = true := (band (band (band (band (band (band (band (band (band (band (band (band (band (band (band (band (band (band (band (band (band (band (band (band (band (band (band (band (band (band (band k0 pf_laid) pf_maps) k3) k4) k5) pf_stops) k7) pf_knobs) k9) k10) k11) k12) k13) k14) k15) k16) k17) k18) k19) k20) k21) k22) k23) pf_heard) pf_enter) k26) k27) k28) k29) k30) k31)
theorem byName : Try.prog.funcNamed Rows.turnBanksRow.func = some 12 := by kernel_rfl
theorem inst : Try.f12.isInstance Try.prog Rows.turnBanksRow.origin Rows.turnBanksRow.targs := of_decide_eq_true (by kernel_rfl)
theorem over : Rows.turnBanksRow.holds Try.pinned (OpenSpec.ofChange Rows.turnBanksSpec) :=
  OpenClaim.holds_of_wide 12 Try.f12 rfl rfl rfl rfl rfl rfl rfl ⟨rfl, rfl, rfl, rfl, rfl⟩ rfl rfl rfl rfl rfl byName Try.func12 closed
    inst (by unfold Func.isWrapper; rw [if_neg (of_decide_eq_false (by kernel_rfl))]; exact ⟨rfl, rfl⟩)
    (fun os started H enc _ => lifted os started H enc)

/-- The given statement. -/
theorem proved : Rows.TurnBanksSaid := over
end Go.Proofs.Yteedgcffdgkicaa.turnBanks

