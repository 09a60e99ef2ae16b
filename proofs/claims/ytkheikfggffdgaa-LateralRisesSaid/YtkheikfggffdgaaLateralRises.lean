/-
  LateralRises: the row's step: the given statement 'LateralRisesSaid' out of the walk.
-/
import Derived.Test.YtkheikfggffdgaaRows
import Derived.Test.YtkheikfggffdgaaLift
import Derived.Test.YtkheikfggffdgaaLatWalk
namespace Go.Proofs.Ytkheikfggffdgaa.lateralRises
open Go.ChangeShapes Go.WideShapes Go.ChangeAt Go.RowKit
set_option linter.unusedVariables false

theorem own : ownKnob Try.prog.godebug = none := by kernel_rfl
theorem laidOut : laidOutB Try.prog = true := by kernel_rfl
theorem typed : (Try.f7.params.toList.all fun t => Try.prog.readableRec t && decide (t < Try.prog.types.size)) = true := by kernel_rfl
theorem typed' : ∀ t ∈ Try.f7.params.toList, Try.prog.readableRec t = true ∧ t < Try.prog.types.size := by
  intro t ht
  have h := List.all_eq_true.1 typed t ht
  simpa using h
theorem ct22 : Try.prog.cellTypes Try.prog.depth 22 = some (List.replicate 2 2) := by kernel_rfl
theorem cn22 : Try.prog.cellsOf 22 = (List.replicate 2 2).length := by kernel_rfl
set_option maxRecDepth 100000 in
theorem lifted (os : Os) (started : os.Started) (H : Type) (enc : TypeId × Value → H) :
    ReturnsInHanded {} Try.checked os 7 .any (Rows.lateralRisesSpec.pre6 enc Try.prog Try.f7 Rows.lateralRisesRow.domain false) (Rows.lateralRisesSpec.post enc Try.prog Try.f7 false true false false) := by
  refine returnsInHanded_of_change (C := Try.checked) own started (by kernel_rfl) Try.func7
    (ChangeSpec.witness6 (enc := enc) (C := Try.checked) false ⟨#[], #[.agg #[.int .i64 0, .int .i64 0], .agg #[.int .i64 0, .int .i64 0], .agg #[.int .i64 0, .int .i64 0]], []⟩ 8 (by kernel_rfl) (by kernel_rfl) (by kernel_rfl) (by kernel_rfl)) ?_
  intro W base args ds gs before hval0 hW hcnd _
  have hval : ∀ (j : Nat) t v, Try.f7.params[j]? = some t → args[j]? = some v → Value.okWide Try.prog W .any base t v := hval0
  have hW' := hW
  obtain ⟨p, q, hA0, hV, rfl, hfz, hnd⟩ := hW
  have hlen := trodAll_length _ _ _ _ hA0
  rw [Try.params7] at hval hlen
  obtain ⟨v0, v1, v2, rfl⟩ := arr3 hlen.1
  obtain ⟨d0, d1, d2, rfl⟩ := list3 hlen.2
  obtain ⟨la, rfl, ea, hla⟩ := ok_ints (Or.inr ⟨_, _, Try.underlying22⟩) ct22 cn22 (fun u hu => by rw [List.eq_of_mem_replicate hu]; exact Try.underlying2) (hval 0 22 v0 rfl rfl)
  obtain ⟨a0, a1, rfl⟩ := list2 (ea.trans (by simp))
  have ha0 : I64 a0 := hla _ (by simp)
  have ha1 : I64 a1 := hla _ (by simp)
  obtain ⟨lb, rfl, eb, hlb⟩ := ok_ints (Or.inr ⟨_, _, Try.underlying22⟩) ct22 cn22 (fun u hu => by rw [List.eq_of_mem_replicate hu]; exact Try.underlying2) (hval 1 22 v1 rfl rfl)
  obtain ⟨b0, b1, rfl⟩ := list2 (eb.trans (by simp))
  have hb0 : I64 b0 := hlb _ (by simp)
  have hb1 : I64 b1 := hlb _ (by simp)
  obtain ⟨ln, rfl, en, hln⟩ := ok_ints (Or.inr ⟨_, _, Try.underlying22⟩) ct22 cn22 (fun u hu => by rw [List.eq_of_mem_replicate hu]; exact Try.underlying2) (hval 2 22 v2 rfl rfl)
  obtain ⟨n0, n1, rfl⟩ := list2 (en.trans (by simp))
  have hn0 : I64 n0 := hln _ (by simp)
  have hn1 : I64 n1 := hln _ (by simp)
  refine (lateralRises_walk a0 a1 b0 b1 n0 n1 ha0 ha1 hb0 hb1 hn0 hn1 W).mono fun e W' ⟨he, hb⟩ => ?_
  subst he
  exact ⟨_, rfl, law_post (f := Try.f7) (s := Rows.lateralRisesSpec) (tb := 4) laidOut typed' rfl (by kernel_rfl) Try.underlying4 hW' ⟨rfl, rfl, rfl⟩ hb⟩

theorem over : Rows.lateralRisesRow.holds Try.pinned (OpenSpec.ofChange Rows.lateralRisesSpec) :=
  OpenClaim.holds_of_wide 7 Try.f7 rfl rfl rfl rfl rfl rfl rfl ⟨rfl, rfl, rfl, rfl, rfl⟩ rfl rfl rfl rfl rfl (by kernel_rfl) Try.func7 (by kernel_rfl)
    (of_decide_eq_true (by kernel_rfl)) (by unfold Func.isWrapper; rw [if_neg (of_decide_eq_false (by kernel_rfl))]; exact ⟨rfl, rfl⟩)
    (fun os started H enc _ => lifted os started H enc)

/-- The given statement. -/
theorem proved : Rows.LateralRisesSaid := over
end Go.Proofs.Ytkheikfggffdgaa.lateralRises
