/-
  The walk of the law LateralErrors.
-/
import Derived.Test.YtgcnfjheneieeaaGreatMCmd
import Derived.Test.YtgcnfjheneieeaaGreatMErrR
import Derived.Test.YtgcnfjheneieeaaGreatRows
import Derived.Test.YtgcnfjheneieeaaGreatMFrame
namespace Go.Proofs.YtgcnfjheneieeaaGreat
open Go.RowKit
set_option linter.unusedVariables false
set_option linter.unusedSimpArgs false
set_option maxRecDepth 100000 in
set_option maxHeartbeats 2000000 in
theorem lateralErrors_walk (x0 : Bool) (x1 x2 x3 x4 x5 x6 x7 x8 x9 x10 x11 : Int) (x12 : Bool) (q0 q1 n0 n1 : Int) (hx1 : I64 x1) (hx2 : I64 x2) (hx3 : I64 x3) (hx4 : I64 x4) (hx5 : I64 x5) (hx6 : I64 x6) (hx7 : I64 x7) (hx8 : I64 x8) (hx9 : I64 x9) (hx10 : I64 x10) (hx11 : I64 x11) (hq0 : I64 q0) (hq1 : I64 q1) (hn0 : I64 n0) (hn1 : I64 n1) (w : World) :
    Calls Tryz.prog 3 #[.agg #[.bool x0, .int .i64 x1, .int .i64 x2, .int .i64 x3, .int .i64 x4, .int .i64 x5, .int .i64 x6, .int .i64 x7, .int .i64 x8, .int .i64 x9, .int .i64 x10, .int .i64 x11, .bool x12], .agg #[.int .i64 q0, .int .i64 q1], .agg #[.int .i64 n0, .int .i64 n1]] w fun e w' => e = .returned (.bool true) ∧ Below w.heap.size w w' := by
  obtain ⟨R, hR⟩ := bank_ex n1 x7
  obtain ⟨T, hT⟩ : ∃ T, T = errF x0 x1 x2 x3 x4 x5 x6 x7 x8 x9 x10 q0 q1 n0 n1 R := ⟨_, rfl⟩
  have ER := fun W => errw_any x0 x12 x1 x2 x3 x4 x5 x6 x7 x8 x9 x10 x11 q0 q1 n0 n1 hn0 hn1 hx7 W R hR T hT
  have RE := fun W => rerrw_any x0 x12 x1 x2 x3 x4 x5 x6 x7 x8 x9 x10 x11 q0 q1 n0 n1 hn0 hn1 hx7 W R hR T hT
  clear hT hR hx1 hx2 hx3 hx4 hx5 hx6 hx7 hx8 hx9 hx10 hx11 hq0 hq1 hn0 hn1
  obtain ⟨t1, t2, t3, t4⟩ := T
  · skip
    go_enter Tryz.func3, Tryz.ntmps3
    go_wp2_with fail
    refine (awake50_any _).mono ?_
    rintro e w0 ⟨rfl, rfl⟩
    go_wp2_with fail
    refine (ER _).mono ?_
    rintro e w1 ⟨rfl, hb1⟩
    obtain ⟨f1, f2, f3, f4, f5, f6, f7, f8, f9, f10, f11, f12, f13, f14, f15, f16, f17⟩ : w1.cell? ⟨w.heap.size, 0, none⟩ = some (.bool x0) ∧ w1.cell? ⟨w.heap.size, 1, none⟩ = some (.int .i64 x1) ∧ w1.cell? ⟨w.heap.size, 2, none⟩ = some (.int .i64 x2) ∧ w1.cell? ⟨w.heap.size, 3, none⟩ = some (.int .i64 x3) ∧ w1.cell? ⟨w.heap.size, 4, none⟩ = some (.int .i64 x4) ∧ w1.cell? ⟨w.heap.size, 5, none⟩ = some (.int .i64 x5) ∧ w1.cell? ⟨w.heap.size, 6, none⟩ = some (.int .i64 x6) ∧ w1.cell? ⟨w.heap.size, 7, none⟩ = some (.int .i64 x7) ∧ w1.cell? ⟨w.heap.size, 8, none⟩ = some (.int .i64 x8) ∧ w1.cell? ⟨w.heap.size, 9, none⟩ = some (.int .i64 x9) ∧ w1.cell? ⟨w.heap.size, 10, none⟩ = some (.int .i64 x10) ∧ w1.cell? ⟨w.heap.size, 11, none⟩ = some (.int .i64 x11) ∧ w1.cell? ⟨w.heap.size, 12, none⟩ = some (.bool x12) ∧ w1.cell? ⟨w.heap.size + 1, 0, none⟩ = some (.int .i64 q0) ∧ w1.cell? ⟨w.heap.size + 1, 1, none⟩ = some (.int .i64 q1) ∧ w1.cell? ⟨w.heap.size + 1 + 1, 0, none⟩ = some (.int .i64 n0) ∧ w1.cell? ⟨w.heap.size + 1 + 1, 1, none⟩ = some (.int .i64 n1) := by
      refine ⟨?_, ?_, ?_, ?_, ?_, ?_, ?_, ?_, ?_, ?_, ?_, ?_, ?_, ?_, ?_, ?_, ?_⟩ <;> (refine cell_below hb1 ?_; repeat (first | (with_reducible assumption) | ((with_reducible refine cell_set ?_ ?_ _); (· first | (simp; done) | (simp; omega) | omega)) | ((with_reducible refine cell_new ?_ ?_); (· (simp; done)); (· rfl)) | (with_reducible refine cell_alloc ?_ _) | (with_reducible refine cell_drew ?_) | (with_reducible refine cell_drewN ?_ _) | (with_reducible refine cell_below (by assumption) ?_)))
    have zf1 : w.heap.size < w1.heap.size := World.block_lt_of_cell? _ _ f1
    have zf14 : w.heap.size + 1 < w1.heap.size := World.block_lt_of_cell? _ _ f14
    have zf16 : w.heap.size + 1 + 1 < w1.heap.size := World.block_lt_of_cell? _ _ f16
    go_wp2_with fail
    refine (RE _).mono ?_
    rintro e w2 ⟨rfl, hb2⟩
    obtain ⟨f18, f19, f20, f21, f22, f23, f24, f25, f26, f27, f28, f29, f30, f31, f32, f33, f34⟩ : w2.cell? ⟨w.heap.size, 0, none⟩ = some (.bool x0) ∧ w2.cell? ⟨w.heap.size, 1, none⟩ = some (.int .i64 x1) ∧ w2.cell? ⟨w.heap.size, 2, none⟩ = some (.int .i64 x2) ∧ w2.cell? ⟨w.heap.size, 3, none⟩ = some (.int .i64 x3) ∧ w2.cell? ⟨w.heap.size, 4, none⟩ = some (.int .i64 x4) ∧ w2.cell? ⟨w.heap.size, 5, none⟩ = some (.int .i64 x5) ∧ w2.cell? ⟨w.heap.size, 6, none⟩ = some (.int .i64 x6) ∧ w2.cell? ⟨w.heap.size, 7, none⟩ = some (.int .i64 x7) ∧ w2.cell? ⟨w.heap.size, 8, none⟩ = some (.int .i64 x8) ∧ w2.cell? ⟨w.heap.size, 9, none⟩ = some (.int .i64 x9) ∧ w2.cell? ⟨w.heap.size, 10, none⟩ = some (.int .i64 x10) ∧ w2.cell? ⟨w.heap.size, 11, none⟩ = some (.int .i64 x11) ∧ w2.cell? ⟨w.heap.size, 12, none⟩ = some (.bool x12) ∧ w2.cell? ⟨w.heap.size + 1, 0, none⟩ = some (.int .i64 q0) ∧ w2.cell? ⟨w.heap.size + 1, 1, none⟩ = some (.int .i64 q1) ∧ w2.cell? ⟨w.heap.size + 1 + 1, 0, none⟩ = some (.int .i64 n0) ∧ w2.cell? ⟨w.heap.size + 1 + 1, 1, none⟩ = some (.int .i64 n1) := by
      refine ⟨?_, ?_, ?_, ?_, ?_, ?_, ?_, ?_, ?_, ?_, ?_, ?_, ?_, ?_, ?_, ?_, ?_⟩ <;> (refine cell_below hb2 ?_; repeat (first | (with_reducible assumption) | ((with_reducible refine cell_set ?_ ?_ _); (· first | (simp; done) | (simp; omega) | omega)) | ((with_reducible refine cell_new ?_ ?_); (· (simp; done)); (· rfl)) | (with_reducible refine cell_alloc ?_ _) | (with_reducible refine cell_drew ?_) | (with_reducible refine cell_drewN ?_ _) | (with_reducible refine cell_below (by assumption) ?_)))
    have zf18 : w.heap.size < w2.heap.size := World.block_lt_of_cell? _ _ f18
    have zf31 : w.heap.size + 1 < w2.heap.size := World.block_lt_of_cell? _ _ f31
    have zf33 : w.heap.size + 1 + 1 < w2.heap.size := World.block_lt_of_cell? _ _ f33
    clear f1 zf1 f2 f3 f4 f5 f6 f7 f8 f9 f10 f11 f12 f13 f14 zf14 f15 f16 zf16 f17
    go_wp2_with fail
    all_goals
      go_ret
      exact ⟨rfl, by (repeat (with_reducible (first | assumption | exact Below.refl _ _ | refine Below.drew ?_ | refine below_drewN ?_ _ | refine below_set ?_ (by simp; try omega) _ | refine below_alloc ?_ (Nat.le_refl _) _ | refine below_sub (by assumption) ?_)))⟩
end Go.Proofs.YtgcnfjheneieeaaGreat

/-
  LateralErrors: the row's step: the given statement 'LateralErrorsSaid' out of the walk.
-/
namespace Go.Proofs.YtgcnfjheneieeaaGreat.lateralErrors
open Go.ChangeShapes Go.WideShapes Go.ChangeAt Go.RowKit
set_option linter.unusedVariables false

theorem own : ownKnob Tryz.prog.godebug = none := by kernel_rfl
theorem laidOut : laidOutB Tryz.prog = true := pf_laid
theorem typed : (Tryz.f3.params.toList.all fun t => Tryz.prog.readableRec t && decide (t < Tryz.prog.types.size)) = true := by kernel_rfl
theorem typed' : ∀ t ∈ Tryz.f3.params.toList, Tryz.prog.readableRec t = true ∧ t < Tryz.prog.types.size := by
  intro t ht
  have h := List.all_eq_true.1 typed t ht
  simpa using h
theorem cell_at {P : Program} {w : World} {r : Reach} {base : Nat} {ts : List TypeId} {cs : List Value} (h : ∀ (i : Nat) (x : Value), cs[i]? = some x → ∃ u, ts[i]? = some u ∧ Cell.okWide P w r base u x) {k : Nat} {x : Value} {u : TypeId} (hk : cs[k]? = some x) (hu : ts[k]? = some u) : Cell.okWide P w r base u x := by
  obtain ⟨u', h1, h2⟩ := h k x hk
  rw [hu] at h1
  injection h1 with h1
  rw [h1]; exact h2
theorem lst13 {α : Type} {l : List α} (h : l.length = 13) : ∃ x0 x1 x2 x3 x4 x5 x6 x7 x8 x9 x10 x11 x12 : α, l = [x0, x1, x2, x3, x4, x5, x6, x7, x8, x9, x10, x11, x12] := by
  match l, h with
  | [x0, x1, x2, x3, x4, x5, x6, x7, x8, x9, x10, x11, x12], _ => exact ⟨x0, x1, x2, x3, x4, x5, x6, x7, x8, x9, x10, x11, x12, rfl⟩
theorem ct27 : Tryz.prog.cellTypes Tryz.prog.depth 27 = some [4, 2, 2, 2, 2, 2, 2, 2, 2, 2, 2, 3, 4] := by kernel_rfl
theorem cn27 : Tryz.prog.cellsOf 27 = ([4, 2, 2, 2, 2, 2, 2, 2, 2, 2, 2, 3, 4] : List TypeId).length := by kernel_rfl
theorem ct23 : Tryz.prog.cellTypes Tryz.prog.depth 23 = some (List.replicate 2 2) := by kernel_rfl
theorem cn23 : Tryz.prog.cellsOf 23 = (List.replicate 2 2).length := by kernel_rfl
theorem ct28 : Tryz.prog.cellTypes Tryz.prog.depth 28 = some (List.replicate 2 2) := by kernel_rfl
theorem cn28 : Tryz.prog.cellsOf 28 = (List.replicate 2 2).length := by kernel_rfl
set_option maxRecDepth 100000 in
theorem lifted (os : Os) (started : os.Started) (H : Type) (enc : TypeId × Value → H) :
    ReturnsInHanded {} Tryz.checked os 3 .any (Rows.lateralErrorsSpec.pre6 enc Tryz.prog Tryz.f3 Rows.lateralErrorsRow.domain false) (Rows.lateralErrorsSpec.post enc Tryz.prog Tryz.f3 false true false false) := by
  refine returnsInHanded_of_change (C := Tryz.checked) own started (by kernel_rfl) Tryz.func3
    (ChangeSpec.witness6 (enc := enc) (C := Tryz.checked) false ⟨#[], #[.agg #[.bool false, .int .i64 0, .int .i64 0, .int .i64 0, .int .i64 0, .int .i64 0, .int .i64 0, .int .i64 0, .int .i64 0, .int .i64 0, .int .i64 0, .int .i64 0, .bool false], .agg #[.int .i64 0, .int .i64 0], .agg #[.int .i64 0, .int .i64 0]], []⟩ 8 (by kernel_rfl) (by kernel_rfl) (by kernel_rfl) (by kernel_rfl)) ?_
  intro W base args ds gs before hval0 hW hcnd _
  have hval : ∀ (j : Nat) t v, Tryz.f3.params[j]? = some t → args[j]? = some v → Value.okWide Tryz.prog W .any base t v := hval0
  have hW' := hW
  obtain ⟨p, q, hA0, hV, rfl, hfz, hnd⟩ := hW
  have hlen := trodAll_length _ _ _ _ hA0
  rw [Tryz.params3] at hval hlen
  obtain ⟨v0, v1, v2, rfl⟩ := arr3 hlen.1
  obtain ⟨d0, d1, d2, rfl⟩ := list3 hlen.2
  obtain ⟨lx, rfl, ex, hlx⟩ := ok_agg (Or.inl ⟨_, Tryz.underlying27⟩) ct27 cn27 (hval 0 27 v0 rfl rfl)
  obtain ⟨cx0, cx1, cx2, cx3, cx4, cx5, cx6, cx7, cx8, cx9, cx10, cx11, cx12, rfl⟩ := lst13 (ex.trans (by rfl))
  obtain ⟨x0, rfl⟩ := cell_bool Tryz.underlying4 (cell_at hlx (k := 0) rfl rfl)
  obtain ⟨x1, rfl, hx1⟩ := cell_i64 Tryz.underlying2 (cell_at hlx (k := 1) rfl rfl)
  obtain ⟨x2, rfl, hx2⟩ := cell_i64 Tryz.underlying2 (cell_at hlx (k := 2) rfl rfl)
  obtain ⟨x3, rfl, hx3⟩ := cell_i64 Tryz.underlying2 (cell_at hlx (k := 3) rfl rfl)
  obtain ⟨x4, rfl, hx4⟩ := cell_i64 Tryz.underlying2 (cell_at hlx (k := 4) rfl rfl)
  obtain ⟨x5, rfl, hx5⟩ := cell_i64 Tryz.underlying2 (cell_at hlx (k := 5) rfl rfl)
  obtain ⟨x6, rfl, hx6⟩ := cell_i64 Tryz.underlying2 (cell_at hlx (k := 6) rfl rfl)
  obtain ⟨x7, rfl, hx7⟩ := cell_i64 Tryz.underlying2 (cell_at hlx (k := 7) rfl rfl)
  obtain ⟨x8, rfl, hx8⟩ := cell_i64 Tryz.underlying2 (cell_at hlx (k := 8) rfl rfl)
  obtain ⟨x9, rfl, hx9⟩ := cell_i64 Tryz.underlying2 (cell_at hlx (k := 9) rfl rfl)
  obtain ⟨x10, rfl, hx10⟩ := cell_i64 Tryz.underlying2 (cell_at hlx (k := 10) rfl rfl)
  obtain ⟨x11, rfl, hx11⟩ := cell_i64 Tryz.underlying3 (cell_at hlx (k := 11) rfl rfl)
  obtain ⟨x12, rfl⟩ := cell_bool Tryz.underlying4 (cell_at hlx (k := 12) rfl rfl)
  obtain ⟨lq, rfl, eq, hlq⟩ := ok_ints (Or.inl ⟨_, Tryz.underlying23⟩) ct23 cn23 (fun u hu => by rw [List.eq_of_mem_replicate hu]; exact Tryz.underlying2) (hval 1 23 v1 rfl rfl)
  obtain ⟨q0, q1, rfl⟩ := list2 (eq.trans (by simp))
  have hq0 : I64 q0 := hlq _ (by simp)
  have hq1 : I64 q1 := hlq _ (by simp)
  obtain ⟨ln, rfl, en, hln⟩ := ok_ints (Or.inr ⟨_, _, Tryz.underlying28⟩) ct28 cn28 (fun u hu => by rw [List.eq_of_mem_replicate hu]; exact Tryz.underlying2) (hval 2 28 v2 rfl rfl)
  obtain ⟨n0, n1, rfl⟩ := list2 (en.trans (by simp))
  have hn0 : I64 n0 := hln _ (by simp)
  have hn1 : I64 n1 := hln _ (by simp)
  refine (lateralErrors_walk x0 x1 x2 x3 x4 x5 x6 x7 x8 x9 x10 x11 x12 q0 q1 n0 n1 hx1 hx2 hx3 hx4 hx5 hx6 hx7 hx8 hx9 hx10 hx11 hq0 hq1 hn0 hn1 W).mono fun e W' ⟨he, hb⟩ => ?_
  subst he
  exact ⟨_, rfl, law_post (f := Tryz.f3) (s := Rows.lateralErrorsSpec) (tb := 4) laidOut typed' rfl (by kernel_rfl) Tryz.underlying4 hW' ⟨rfl, rfl, rfl⟩ hb⟩

theorem k0 : (Rows.lateralErrorsRow.wf (OpenSpec.ofChange Rows.lateralErrorsSpec)) = true := by kernel_rfl
theorem k3 : (Tryz.f3.params.all (Tryz.prog.readableRec ·)) = true := by kernel_rfl
theorem k4 : (namedTie Tryz.prog Rows.lateralErrorsRow.named Rows.lateralErrorsSpec.vars) = true := by kernel_rfl
theorem k5 : (Rows.lateralErrorsRow.stops == []) = true := by kernel_rfl
theorem k7 : (Rows.lateralErrorsRow.knobs == []) = true := by kernel_rfl
theorem k9 : (Rows.lateralErrorsRow.inPlace == Tryz.prog.inPlace 3) = true := by kernel_rfl
theorem k10 : (Rows.lateralErrorsRow.unfollowed == Tryz.prog.unfollowed 3) = true := by kernel_rfl
theorem k11 : (Rows.lateralErrorsRow.recurses == Tryz.prog.recurses 3) = true := by kernel_rfl
theorem k12 : (Rows.lateralErrorsRow.named == Tryz.prog.varsNamed 3) = true := by kernel_rfl
theorem k13 : (Rows.lateralErrorsRow.maps == (Tryz.f3.params.toList ++ Rows.lateralErrorsSpec.plain.varTypes Tryz.prog).any (Tryz.prog.mapsRec ·)) = true := by kernel_rfl
theorem k14 : (Rows.lateralErrorsRow.ifaces == (Tryz.f3.params.toList ++ Rows.lateralErrorsSpec.plain.varTypes Tryz.prog).any (Tryz.prog.ifacesRec ·)) = true := by kernel_rfl
theorem k15 : (Rows.lateralErrorsRow.mapsOut == Tryz.prog.mapsAmong Tryz.f3.resultTypes.toList) = true := by kernel_rfl
theorem k16 : (Rows.lateralErrorsRow.loops == (Tryz.f3.params.toList ++ Rows.lateralErrorsSpec.plain.varTypes Tryz.prog).any (Tryz.prog.loopsFrom ·)) = true := by kernel_rfl
theorem k17 : (Rows.lateralErrorsRow.wideKeys == (Tryz.f3.params.toList ++ Rows.lateralErrorsSpec.plain.varTypes Tryz.prog ++ Tryz.f3.resultTypes.toList).any (Tryz.prog.wideKeysFrom ·)) = true := by kernel_rfl
theorem k18 : (Rows.lateralErrorsSpec.vars.all (Tryz.prog.varReadable ·)) = true := by kernel_rfl
theorem k19 : (Tryz.f3.resultTypes.all (fun t => Tryz.prog.readableRec t && decide (t < Tryz.prog.types.size))) = true := by kernel_rfl
theorem k20 : (Rows.lateralErrorsRow.ifacesOut == Tryz.f3.resultTypes.toList.any (Tryz.prog.ifacesRec ·)) = true := by kernel_rfl
theorem k21 : (Rows.lateralErrorsRow.loopsOut == Tryz.f3.resultTypes.toList.any (Tryz.prog.loopsFrom ·)) = true := by kernel_rfl
theorem k22 : (Rows.lateralErrorsRow.plainKeys == Tryz.prog.plainKeys) = true := by kernel_rfl
theorem k23 : (Rows.lateralErrorsRow.shortTexts.isNone) = true := by kernel_rfl
theorem k26 : (Rows.lateralErrorsRow.lifted == Tryz.prog.liftsFinal) = true := by rw [pf_lifts]; rfl
theorem k27 : (Tryz.prog.make == some Rows.lateralErrorsRow.make) = true := by rw [pf_make]; rfl
theorem k28 : (Rows.lateralErrorsRow.kinds == (if Rows.lateralErrorsRow.domain.isEmpty then [] else Tryz.f3.params.toList.map fun t => match Tryz.prog.underlying t with | some (.int k) => some k | _ => none)) = true := by kernel_rfl
theorem k29 : (Rows.lateralErrorsRow.pinned == Rows.lateralErrorsRow.pinnedBy) = true := by kernel_rfl
theorem k30 : (Rows.lateralErrorsRow.veiled == (Tryz.f3.params.toList ++ Rows.lateralErrorsSpec.plain.varTypes Tryz.prog ++ Tryz.f3.resultTypes.toList).any (Tryz.prog.veiledRec ·)) = true := by kernel_rfl
theorem k31 : (Rows.lateralErrorsRow.veiledFits Tryz.prog Tryz.f3.params.toList (Tryz.f3.params.toList ++ Rows.lateralErrorsSpec.plain.varTypes Tryz.prog ++ Tryz.f3.resultTypes.toList)) = true := by kernel_rfl
set_option maxRecDepth 100000 in
theorem closed : joinedFacts Tryz.prog 3 Tryz.f3 Rows.lateralErrorsSpec Rows.lateralErrorsRow = true := (band (band (band (band (band (band (band (band (band (band (band (band (band (band (band (band (band (band (band (band (band (band (band (band (band (band (band (band (band (band (band k0 pf_laid) pf_maps) k3) k4) k5) pf_stops) k7) pf_knobs) k9) k10) k11) k12) k13) k14) k15) k16) k17) k18) k19) k20) k21) k22) k23) pf_heard) pf_enter) k26) k27) k28) k29) k30) k31)
theorem byName : Tryz.prog.funcNamed Rows.lateralErrorsRow.func = some 3 := by kernel_rfl
theorem inst : Tryz.f3.isInstance Tryz.prog Rows.lateralErrorsRow.origin Rows.lateralErrorsRow.targs := of_decide_eq_true (by kernel_rfl)
theorem over : Rows.lateralErrorsRow.holds Tryz.pinned (OpenSpec.ofChange Rows.lateralErrorsSpec) :=
  OpenClaim.holds_of_wide 3 Tryz.f3 rfl rfl rfl rfl rfl rfl rfl ⟨rfl, rfl, rfl, rfl, rfl⟩ rfl rfl rfl rfl rfl byName Tryz.func3 closed
    inst (by unfold Func.isWrapper; rw [if_neg (of_decide_eq_false (by kernel_rfl))]; exact ⟨rfl, rfl⟩)
    (fun os started H enc _ => lifted os started H enc)

/-- The given statement. -/
theorem proved : Rows.LateralErrorsSaid := over
end Go.Proofs.YtgcnfjheneieeaaGreat.lateralErrors

