/-
  LateralMirrors: the row's step: the given statement 'LateralMirrorsSaid' out of the walk.
-/
import Derived.Test.YtkheikfggffdgaaRows
import Derived.Test.YtkheikfggffdgaaLift
import Derived.Test.YtkheikfggffdgaaLatWalk
namespace Go.Proofs.Ytkheikfggffdgaa.lateralMirrors
open Go.ChangeShapes Go.WideShapes Go.ChangeAt Go.RowKit
set_option linter.unusedVariables false

theorem own : ownKnob Try.prog.godebug = none := by kernel_rfl
theorem laidOut : laidOutB Try.prog = true := by kernel_rfl
theorem typed : (Try.f6.params.toList.all fun t => Try.prog.readableRec t && decide (t < Try.prog.types.size)) = true := by kernel_rfl
theorem typed' : ∀ t ∈ Try.f6.params.toList, Try.prog.readableRec t = true ∧ t < Try.prog.types.size := by
  intro t ht
  have h := List.all_eq_true.1 typed t ht
  simpa using h
theorem ct22 : Try.prog.cellTypes Try.prog.depth 22 = some (List.replicate 2 2) := by kernel_rfl
theorem cn22 : Try.prog.cellsOf 22 = (List.replicate 2 2).length := by kernel_rfl
set_option maxRecDepth 100000 in
theorem lifted (os : Os) (started : os.Started) (H : Type) (enc : TypeId × Value → H) :
    ReturnsInHanded {} Try.checked os 6 .any (Rows.lateralMirrorsSpec.pre6 enc Try.prog Try.f6 Rows.lateralMirrorsRow.domain false) (Rows.lateralMirrorsSpec.post enc Try.prog Try.f6 false true false false) := by
  refine returnsInHanded_of_change (C := Try.checked) own started (by kernel_rfl) Try.func6
    (ChangeSpec.witness6 (enc := enc) (C := Try.checked) false ⟨#[], #[.int .i64 0, .int .i64 0, .agg #[.int .i64 0, .int .i64 0]], []⟩ 8 (by kernel_rfl) (by kernel_rfl) (by kernel_rfl) (by kernel_rfl)) ?_
  intro W base args ds gs before hval0 hW hcnd _
  have hval : ∀ (j : Nat) t v, Try.f6.params[j]? = some t → args[j]? = some v → Value.okWide Try.prog W .any base t v := hval0
  have hW' := hW
  obtain ⟨p, q, hA0, hV, rfl, hfz, hnd⟩ := hW
  have hlen := trodAll_length _ _ _ _ hA0
  rw [Try.params6] at hval hlen
  obtain ⟨v0, v1, v2, rfl⟩ := arr3 hlen.1
  obtain ⟨d0, d1, d2, rfl⟩ := list3 hlen.2
  obtain ⟨off, rfl, hoff⟩ := ok_i64 Try.underlying2 (hval 0 2 v0 rfl rfl)
  obtain ⟨ang, rfl, hang⟩ := ok_i64 Try.underlying2 (hval 1 2 v1 rfl rfl)
  obtain ⟨ln, rfl, en, hln⟩ := ok_ints (Or.inr ⟨_, _, Try.underlying22⟩) ct22 cn22 (fun u hu => by rw [List.eq_of_mem_replicate hu]; exact Try.underlying2) (hval 2 22 v2 rfl rfl)
  obtain ⟨n0, n1, rfl⟩ := list2 (en.trans (by simp))
  have hn0 : I64 n0 := hln _ (by simp)
  have hn1 : I64 n1 := hln _ (by simp)
  refine (lateralMirrors_walk off ang n0 n1 hoff hang hn0 hn1 W).mono fun e W' ⟨he, hb⟩ => ?_
  subst he
  exact ⟨_, rfl, law_post (f := Try.f6) (s := Rows.lateralMirrorsSpec) (tb := 4) laidOut typed' rfl (by kernel_rfl) Try.underlying4 hW' ⟨rfl, rfl, rfl⟩ hb⟩

theorem over : Rows.lateralMirrorsRow.holds Try.pinned (OpenSpec.ofChange Rows.lateralMirrorsSpec) :=
  OpenClaim.holds_of_wide 6 Try.f6 rfl rfl rfl rfl rfl rfl rfl ⟨rfl, rfl, rfl, rfl, rfl⟩ rfl rfl rfl rfl rfl (by kernel_rfl) Try.func6 (by kernel_rfl)
    (of_decide_eq_true (by kernel_rfl)) (by unfold Func.isWrapper; rw [if_neg (of_decide_eq_false (by kernel_rfl))]; exact ⟨rfl, rfl⟩)
    (fun os started H enc _ => lifted os started H enc)

/-- The given statement. -/
theorem proved : Rows.LateralMirrorsSaid := over
end Go.Proofs.Ytkheikfggffdgaa.lateralMirrors
