/-
  The walk of the law SequenceSteps.
-/
import Derived.Test.YtdfkkknkiioghaaGreatMAwake28
import Derived.Test.YtdfkkknkiioghaaGreatMStepAll
import Derived.Test.YtdfkkknkiioghaaGreatMStepR
import Derived.Test.YtdfkkknkiioghaaGreatMSameX
import Derived.Test.YtdfkkknkiioghaaGreatRows
import Derived.Test.YtdfkkknkiioghaaGreatMFrame
import Derived.Test.YtdfkkknkiioghaaGreatMPathIn
namespace Go.Proofs.YtdfkkknkiioghaaGreat
open Go.RowKit
set_option linter.unusedVariables false
set_option linter.unusedSimpArgs false
theorem stepG_len (l : List El) (px py : Int) : ∀ (m k : Nat) (en : Int) (ps : List Int), (stepG l px py m k en ps).2.2.2.length ≤ ps.length + m
  | 0, k, en, ps => by simp [stepG]
  | m + 1, k, en, ps => by
    rw [stepG]
    cases hk : l[k]? with
    | none => simp
    | some x =>
      dsimp only
      by_cases ho : x.over px py = false
      · simp [ho]
      · simp only [ho, if_false]
        cases hk2 : l[k + 1]? with
        | none => simp <;> omega
        | some y =>
          dsimp only
          by_cases hg : y.g = true
          · simp [hg] <;> omega
          · simp only [hg, if_false]
            by_cases hn : y.n = en
            · simp only [hn, if_true]
              have := stepG_len l px py m (k + 1) en ps
              simp at this ⊢
              omega
            · simp only [hn, if_false]
              have := stepG_len l px py m (k + 1) y.n (ps ++ [en])
              simp at this ⊢
              omega
theorem stepR_len2 {l : List El} {len el e0 px py : Int} {dn : Bool} {R : Int × Int × Bool × List Int} (hR : R = stepR l len el e0 dn px py) : R.2.2.2.length ≤ l.length := by
  subst hR
  unfold stepR
  repeat' split
  all_goals first | (simp; done) | skip
  all_goals
    rename_i x hx
    have := stepG_len l px py (l.length - el.toNat) el.toNat x.n []
    simp at this
    dsimp only
    omega
set_option maxRecDepth 100000 in
set_option maxHeartbeats 4000000 in
theorem sequenceSteps_walk0 (w : World) (S : Option Addr) (l : List El) (cap : Nat) (len g0 g1 : Int) (g2 : Bool) (q0 q1 : Int) (h2 : l.length ≤ 9223372036854775807) (hp : Hid (pathAt w S l)) :
    Calls Tryz.prog 3 #[.agg #[.slice S l.length cap, .int .i64 len], .agg #[.int .i64 g0, .int .i64 g1, .bool g2], .agg #[.int .i64 q0, .int .i64 q1]] w fun e w' => e = .returned (.bool true) ∧ Below w.heap.size w w' := by
  obtain ⟨⟨r1, r2, r3, ts⟩, hR⟩ : ∃ R, R = stepR l len g0 g1 g2 q0 q1 := ⟨_, rfl⟩
  have hts : ts.length ≤ 9223372036854775807 := Nat.le_trans (stepR_len2 hR) h2
  have HR := hide hR
  clear hR
  go_enter Tryz.func3, Tryz.ntmps3
  go_wp2_with fail
  refine (awake28_any _).mono ?_
  rintro e w1 ⟨rfl, hb1⟩
  obtain ⟨f1, f2, f3, f4, f5, f6, f7⟩ : w1.cell? ⟨w.heap.size, 0, none⟩ = some (.slice S l.length cap) ∧ w1.cell? ⟨w.heap.size, 1, none⟩ = some (.int .i64 len) ∧ w1.cell? ⟨w.heap.size + 1, 0, none⟩ = some (.int .i64 g0) ∧ w1.cell? ⟨w.heap.size + 1, 1, none⟩ = some (.int .i64 g1) ∧ w1.cell? ⟨w.heap.size + 1, 2, none⟩ = some (.bool g2) ∧ w1.cell? ⟨w.heap.size + 1 + 1, 0, none⟩ = some (.int .i64 q0) ∧ w1.cell? ⟨w.heap.size + 1 + 1, 1, none⟩ = some (.int .i64 q1) := by
    refine ⟨?_, ?_, ?_, ?_, ?_, ?_, ?_⟩ <;> (refine cell_below hb1 ?_; repeat (first | (with_reducible assumption) | ((with_reducible refine cell_set ?_ ?_ _); (· first | (simp; done) | (simp; omega) | omega)) | ((with_reducible refine cell_new ?_ ?_); (· (simp; done)); (· rfl)) | (with_reducible refine cell_alloc ?_ _) | (with_reducible refine cell_drew ?_) | (with_reducible refine cell_drewN ?_ _) | (with_reducible refine cell_below (by assumption) ?_)))
  have zf1 : w.heap.size < w1.heap.size := World.block_lt_of_cell? _ _ f1
  have zf3 : w.heap.size + 1 < w1.heap.size := World.block_lt_of_cell? _ _ f3
  have zf6 : w.heap.size + 1 + 1 < w1.heap.size := World.block_lt_of_cell? _ _ f6
  go_wp2_with fail
  refine (step_any S l cap len g0 g1 g2 q0 q1 _ h2 (hide (pathAt_below (show Below w.heap.size w _ by (repeat (with_reducible (first | assumption | exact Below.refl _ _ | refine Below.drew ?_ | refine below_drewN ?_ _ | refine below_set ?_ (by simp; try omega) _ | refine below_alloc ?_ (Nat.le_refl _) _ | refine below_sub (by assumption) ?_)))) hp.out)) (r1, r2, r3, ts) HR.out).mono ?_
  rintro e w2 ⟨S1, cp1, rfl, hi1, hn1, hb2⟩
  obtain ⟨f8, f9, f10, f11, f12, f13, f14⟩ : w2.cell? ⟨w.heap.size, 0, none⟩ = some (.slice S l.length cap) ∧ w2.cell? ⟨w.heap.size, 1, none⟩ = some (.int .i64 len) ∧ w2.cell? ⟨w.heap.size + 1, 0, none⟩ = some (.int .i64 g0) ∧ w2.cell? ⟨w.heap.size + 1, 1, none⟩ = some (.int .i64 g1) ∧ w2.cell? ⟨w.heap.size + 1, 2, none⟩ = some (.bool g2) ∧ w2.cell? ⟨w.heap.size + 1 + 1, 0, none⟩ = some (.int .i64 q0) ∧ w2.cell? ⟨w.heap.size + 1 + 1, 1, none⟩ = some (.int .i64 q1) := by
    refine ⟨?_, ?_, ?_, ?_, ?_, ?_, ?_⟩ <;> (refine cell_below hb2 ?_; repeat (first | (with_reducible assumption) | ((with_reducible refine cell_set ?_ ?_ _); (· first | (simp; done) | (simp; omega) | omega)) | ((with_reducible refine cell_new ?_ ?_); (· (simp; done)); (· rfl)) | (with_reducible refine cell_alloc ?_ _) | (with_reducible refine cell_drew ?_) | (with_reducible refine cell_drewN ?_ _) | (with_reducible refine cell_below (by assumption) ?_)))
  have zf8 : w.heap.size < w2.heap.size := World.block_lt_of_cell? _ _ f8
  have zf10 : w.heap.size + 1 < w2.heap.size := World.block_lt_of_cell? _ _ f10
  have zf13 : w.heap.size + 1 + 1 < w2.heap.size := World.block_lt_of_cell? _ _ f13
  clear f1 zf1 f2 f3 zf3 f4 f5 f6 zf6 f7
  go_wp2_with fail
  refine (rstep_any S l cap len g0 g1 g2 q0 q1 _ h2 (hide (pathAt_below (show Below w.heap.size w _ by (repeat (with_reducible (first | assumption | exact Below.refl _ _ | refine Below.drew ?_ | refine below_drewN ?_ _ | refine below_set ?_ (by simp; try omega) _ | refine below_alloc ?_ (Nat.le_refl _) _ | refine below_sub (by assumption) ?_)))) hp.out)) (r1, r2, r3, ts) HR.out).mono ?_
  rintro e w3 ⟨S2, cp2, rfl, hi2, hn2, hb3⟩
  have hi3 : Hid (intsAt w3 S1 ts) := hide (intsAt_below (show Below w2.heap.size w2 w3 by (repeat (with_reducible (first | assumption | exact Below.refl _ _ | refine Below.drew ?_ | refine below_drewN ?_ _ | refine below_set ?_ (by simp; try omega) _ | refine below_alloc ?_ (Nat.le_refl _) _ | refine below_sub (by assumption) ?_)))) hi1.out)
  obtain ⟨f15, f16, f17, f18, f19, f20, f21, f22, f23, f24⟩ : w3.cell? ⟨w.heap.size, 0, none⟩ = some (.slice S l.length cap) ∧ w3.cell? ⟨w.heap.size, 1, none⟩ = some (.int .i64 len) ∧ w3.cell? ⟨w.heap.size + 1, 0, none⟩ = some (.int .i64 g0) ∧ w3.cell? ⟨w.heap.size + 1, 1, none⟩ = some (.int .i64 g1) ∧ w3.cell? ⟨w.heap.size + 1, 2, none⟩ = some (.bool g2) ∧ w3.cell? ⟨w.heap.size + 1 + 1, 0, none⟩ = some (.int .i64 q0) ∧ w3.cell? ⟨w.heap.size + 1 + 1, 1, none⟩ = some (.int .i64 q1) ∧ w3.cell? ⟨w2.heap.size, 0, none⟩ = some (.int .i64 r1) ∧ w3.cell? ⟨w2.heap.size, 1, none⟩ = some (.int .i64 r2) ∧ w3.cell? ⟨w2.heap.size, 2, none⟩ = some (.bool r3) := by
    refine ⟨?_, ?_, ?_, ?_, ?_, ?_, ?_, ?_, ?_, ?_⟩ <;> (refine cell_below hb3 ?_; repeat (first | (with_reducible assumption) | ((with_reducible refine cell_set ?_ ?_ _); (· first | (simp; done) | (simp; omega) | omega)) | ((with_reducible refine cell_new ?_ ?_); (· (simp; done)); (· rfl)) | (with_reducible refine cell_alloc ?_ _) | (with_reducible refine cell_drew ?_) | (with_reducible refine cell_drewN ?_ _) | (with_reducible refine cell_below (by assumption) ?_)))
  have zf15 : w.heap.size < w3.heap.size := World.block_lt_of_cell? _ _ f15
  have zf17 : w.heap.size + 1 < w3.heap.size := World.block_lt_of_cell? _ _ f17
  have zf20 : w.heap.size + 1 + 1 < w3.heap.size := World.block_lt_of_cell? _ _ f20
  have zf22 : w2.heap.size < w3.heap.size := World.block_lt_of_cell? _ _ f22
  clear f8 zf8 f9 f10 zf10 f11 f12 f13 zf13 f14
  go_wp2_with fail
  refine (same_eq S1 S2 cp1 cp2 ts _ hts (hide (intsAt_below (show Below w3.heap.size w3 _ by (repeat (with_reducible (first | assumption | exact Below.refl _ _ | refine Below.drew ?_ | refine below_drewN ?_ _ | refine below_set ?_ (by simp; try omega) _ | refine below_alloc ?_ (Nat.le_refl _) _ | refine below_sub (by assumption) ?_)))) hi3.out)) (hide (intsAt_below (show Below w3.heap.size w3 _ by (repeat (with_reducible (first | assumption | exact Below.refl _ _ | refine Below.drew ?_ | refine below_drewN ?_ _ | refine below_set ?_ (by simp; try omega) _ | refine below_alloc ?_ (Nat.le_refl _) _ | refine below_sub (by assumption) ?_)))) hi2.out))).mono ?_
  rintro e w9 ⟨rfl, hb9⟩
  go_wp2_with fail
  all_goals
    go_ret
    exact ⟨rfl, by (repeat (with_reducible (first | assumption | exact Below.refl _ _ | refine Below.drew ?_ | refine below_drewN ?_ _ | refine below_set ?_ (by simp; try omega) _ | refine below_alloc ?_ (Nat.le_refl _) _ | refine below_sub (by assumption) ?_)))⟩
theorem sequenceSteps_walk {W : World} (S : Option Addr) (l : List El) (cap : Nat) (len g0 g1 : Int) (g2 : Bool) (q0 q1 : Int) (h2 : l.length ≤ 9223372036854775807) (hp : Hid (pathAt W S l)) (hg0 : I64 g0) (hg1 : I64 g1) (hq0 : I64 q0) (hq1 : I64 q1) (w : World) (hw : w = W := by rfl) :
    Calls Tryz.prog 3 #[.agg #[.slice S l.length cap, .int .i64 len], .agg #[.int .i64 g0, .int .i64 g1, .bool g2], .agg #[.int .i64 q0, .int .i64 q1]] w fun e w' => e = .returned (.bool true) ∧ Below w.heap.size w w' := by
  subst hw
  exact sequenceSteps_walk0 w S l cap len g0 g1 g2 q0 q1 h2 hp
end Go.Proofs.YtdfkkknkiioghaaGreat

/-
  SequenceSteps: the row's step: the given statement 'SequenceStepsSaid' out of the walk.
-/
namespace Go.Proofs.YtdfkkknkiioghaaGreat.sequenceSteps
open Go.ChangeShapes Go.WideShapes Go.ChangeAt Go.RowKit
set_option linter.unusedVariables false

theorem own : ownKnob Tryz.prog.godebug = none := by kernel_rfl
theorem laidOut : laidOutB Tryz.prog = true := pf_laid
theorem typed : (Tryz.f3.params.toList.all fun t => Tryz.prog.readableRec t && decide (t < Tryz.prog.types.size)) = true := by kernel_rfl
theorem typed' : ∀ t ∈ Tryz.f3.params.toList, Tryz.prog.readableRec t = true ∧ t < Tryz.prog.types.size := by
  intro t ht
  have h := List.all_eq_true.1 typed t ht
  simpa using h
theorem cell_at {P : Program} {w : World} {r : Reach} {base : Nat} {ts : List TypeId} {cs : List Value} (h : ∀ (i : Nat) (x : Value), cs[i]? = some x → ∃ u, ts[i]? = some u ∧ Cell.okWide P w r base u x) {k : Nat} {x : Value} {u : TypeId} (hk : cs[k]? = some x) (hu : ts[k]? = some u) : Cell.okWide P w r base u x := by
  obtain ⟨u', h1, h2⟩ := h k x hk
  rw [hu] at h1
  injection h1 with h1
  rw [h1]; exact h2
theorem ct24 : Tryz.prog.cellTypes Tryz.prog.depth 24 = some [22, 2] := by kernel_rfl
theorem cn24 : Tryz.prog.cellsOf 24 = ([22, 2] : List TypeId).length := by kernel_rfl
theorem lst3 {α : Type} {l : List α} (h : l.length = 3) : ∃ x0 x1 x2 : α, l = [x0, x1, x2] := by
  match l, h with
  | [x0, x1, x2], _ => exact ⟨x0, x1, x2, rfl⟩
theorem ct26 : Tryz.prog.cellTypes Tryz.prog.depth 26 = some [3, 3, 4] := by kernel_rfl
theorem cn26 : Tryz.prog.cellsOf 26 = ([3, 3, 4] : List TypeId).length := by kernel_rfl
theorem ct28 : Tryz.prog.cellTypes Tryz.prog.depth 28 = some (List.replicate 2 2) := by kernel_rfl
theorem cn28 : Tryz.prog.cellsOf 28 = (List.replicate 2 2).length := by kernel_rfl
set_option maxRecDepth 100000 in
theorem lifted (os : Os) (started : os.Started) (H : Type) (enc : TypeId × Value → H) :
    ReturnsInHanded {} Tryz.checked os 3 .any (Rows.sequenceStepsSpec.pre6 enc Tryz.prog Tryz.f3 Rows.sequenceStepsRow.domain false) (Rows.sequenceStepsSpec.post enc Tryz.prog Tryz.f3 false true false false) := by
  refine returnsInHanded_of_change (C := Tryz.checked) own started (by kernel_rfl) Tryz.func3
    (ChangeSpec.witness6 (enc := enc) (C := Tryz.checked) false ⟨#[], #[.agg #[.slice none 0 0, .int .i64 0], .agg #[.int .i64 0, .int .i64 0, .bool false], .agg #[.int .i64 0, .int .i64 0]], []⟩ 8 (by kernel_rfl) (by kernel_rfl) (by kernel_rfl) (by kernel_rfl)) ?_
  intro W base args ds gs before hval0 hW hcnd _
  have hval : ∀ (j : Nat) t v, Tryz.f3.params[j]? = some t → args[j]? = some v → Value.okWide Tryz.prog W .any base t v := hval0
  have hW' := hW
  obtain ⟨p, q, hA0, hV, rfl, hfz, hnd⟩ := hW
  have hlen := trodAll_length _ _ _ _ hA0
  rw [Tryz.params3] at hval hlen
  obtain ⟨v0, v1, v2, rfl⟩ := arr3 hlen.1
  obtain ⟨d0, d1, d2, rfl⟩ := list3 hlen.2
  obtain ⟨lp, rfl, ep, hlp⟩ := ok_agg (Or.inl ⟨_, Tryz.underlying24⟩) ct24 cn24 (hval 0 24 v0 rfl rfl)
  obtain ⟨pc0, pc1, rfl⟩ := list2 (ep.trans (by rfl))
  have hA' := hA0
  rw [Tryz.params3] at hA'
  obtain ⟨_, _, hTp, _⟩ := hA'
  obtain ⟨pS, pl, pcap, plen, hpv, hpl, hpp⟩ := path_in hTp ⟨pc0, pc1, rfl⟩
  obtain ⟨rfl, rfl⟩ : pc0 = .slice pS pl.length pcap ∧ pc1 = .int .i64 plen := by simpa using hpv
  obtain ⟨lg, rfl, eg, hlg⟩ := ok_agg (Or.inl ⟨_, Tryz.underlying26⟩) ct26 cn26 (hval 1 26 v1 rfl rfl)
  obtain ⟨cg0, cg1, cg2, rfl⟩ := lst3 (eg.trans (by rfl))
  obtain ⟨g0, rfl, hg0⟩ := cell_i64 Tryz.underlying3 (cell_at hlg (k := 0) rfl rfl)
  obtain ⟨g1, rfl, hg1⟩ := cell_i64 Tryz.underlying3 (cell_at hlg (k := 1) rfl rfl)
  obtain ⟨g2, rfl⟩ := cell_bool Tryz.underlying4 (cell_at hlg (k := 2) rfl rfl)
  obtain ⟨lq, rfl, eq, hlq⟩ := ok_ints (Or.inl ⟨_, Tryz.underlying28⟩) ct28 cn28 (fun u hu => by rw [List.eq_of_mem_replicate hu]; exact Tryz.underlying2) (hval 2 28 v2 rfl rfl)
  obtain ⟨q0, q1, rfl⟩ := list2 (eq.trans (by simp))
  have hq0 : I64 q0 := hlq _ (by simp)
  have hq1 : I64 q1 := hlq _ (by simp)
  refine (sequenceSteps_walk pS pl pcap plen g0 g1 g2 q0 q1 hpl (hide hpp) hg0 hg1 hq0 hq1 W).mono fun e W' ⟨he, hb⟩ => ?_
  subst he
  exact ⟨_, rfl, law_post (f := Tryz.f3) (s := Rows.sequenceStepsSpec) (tb := 4) laidOut typed' rfl (by kernel_rfl) Tryz.underlying4 hW' ⟨rfl, rfl, rfl⟩ hb⟩

theorem k0 : (Rows.sequenceStepsRow.wf (OpenSpec.ofChange Rows.sequenceStepsSpec)) = true := by kernel_rfl
theorem k3 : (Tryz.f3.params.all (Tryz.prog.readableRec ·)) = true := by kernel_rfl
theorem k4 : (namedTie Tryz.prog Rows.sequenceStepsRow.named Rows.sequenceStepsSpec.vars) = true := by kernel_rfl
theorem k5 : (Rows.sequenceStepsRow.stops == []) = true := by kernel_rfl
theorem k7 : (Rows.sequenceStepsRow.knobs == []) = true := by kernel_rfl
theorem k9 : (Rows.sequenceStepsRow.inPlace == Tryz.prog.inPlace 3) = true := by kernel_rfl
theorem k10 : (Rows.sequenceStepsRow.unfollowed == Tryz.prog.unfollowed 3) = true := by kernel_rfl
theorem k11 : (Rows.sequenceStepsRow.recurses == Tryz.prog.recurses 3) = true := by kernel_rfl
theorem k12 : (Rows.sequenceStepsRow.named == Tryz.prog.varsNamed 3) = true := by kernel_rfl
theorem k13 : (Rows.sequenceStepsRow.maps == (Tryz.f3.params.toList ++ Rows.sequenceStepsSpec.plain.varTypes Tryz.prog).any (Tryz.prog.mapsRec ·)) = true := by kernel_rfl
theorem k14 : (Rows.sequenceStepsRow.ifaces == (Tryz.f3.params.toList ++ Rows.sequenceStepsSpec.plain.varTypes Tryz.prog).any (Tryz.prog.ifacesRec ·)) = true := by kernel_rfl
theorem k15 : (Rows.sequenceStepsRow.mapsOut == Tryz.prog.mapsAmong Tryz.f3.resultTypes.toList) = true := by kernel_rfl
theorem k16 : (Rows.sequenceStepsRow.loops == (Tryz.f3.params.toList ++ Rows.sequenceStepsSpec.plain.varTypes Tryz.prog).any (Tryz.prog.loopsFrom ·)) = true := by kernel_rfl
theorem k17 : (Rows.sequenceStepsRow.wideKeys == (Tryz.f3.params.toList ++ Rows.sequenceStepsSpec.plain.varTypes Tryz.prog ++ Tryz.f3.resultTypes.toList).any (Tryz.prog.wideKeysFrom ·)) = true := by kernel_rfl
theorem k18 : (Rows.sequenceStepsSpec.vars.all (Tryz.prog.varReadable ·)) = true := by kernel_rfl
theorem k19 : (Tryz.f3.resultTypes.all (fun t => Tryz.prog.readableRec t && decide (t < Tryz.prog.types.size))) = true := by kernel_rfl
theorem k20 : (Rows.sequenceStepsRow.ifacesOut == Tryz.f3.resultTypes.toList.any (Tryz.prog.ifacesRec ·)) = true := by kernel_rfl
theorem k21 : (Rows.sequenceStepsRow.loopsOut == Tryz.f3.resultTypes.toList.any (Tryz.prog.loopsFrom ·)) = true := by kernel_rfl
theorem k22 : (Rows.sequenceStepsRow.plainKeys == Tryz.prog.plainKeys) = true := by kernel_rfl
theorem k23 : (Rows.sequenceStepsRow.shortTexts.isNone) = true := by kernel_rfl
theorem k26 : (Rows.sequenceStepsRow.lifted == Tryz.prog.liftsFinal) = true := by rw [pf_lifts]; rfl
theorem k27 : (Tryz.prog.make == some Rows.sequenceStepsRow.make) = true := by rw [pf_make]; rfl
theorem k28 : (Rows.sequenceStepsRow.kinds == (if Rows.sequenceStepsRow.domain.isEmpty then [] else Tryz.f3.params.toList.map fun t => match Tryz.prog.underlying t with | some (.int k) => some k | _ => none)) = true := by kernel_rfl
theorem k29 : (Rows.sequenceStepsRow.pinned == Rows.sequenceStepsRow.pinnedBy) = true := by kernel_rfl
theorem k30 : (Rows.sequenceStepsRow.veiled == (Tryz.f3.params.toList ++ Rows.sequenceStepsSpec.plain.varTypes Tryz.prog ++ Tryz.f3.resultTypes.toList).any (Tryz.prog.veiledRec ·)) = true := by kernel_rfl
theorem k31 : (Rows.sequenceStepsRow.veiledFits Tryz.prog Tryz.f3.params.toList (Tryz.f3.params.toList ++ Rows.sequenceStepsSpec.plain.varTypes Tryz.prog ++ Tryz.f3.resultTypes.toList)) = true := by kernel_rfl
set_option maxRecDepth 100000 in
theorem closed : joinedFacts Tryz.prog 3 Tryz.f3 Rows.sequenceStepsSpec Rows.sequenceStepsRow = true := (band (band (band (band (band (band (band (band (band (band (band (band (band (band (band (band (band (band (band (band (band (band (band (band (band (band (band (band (band (band (band k0 pf_laid) pf_maps) k3) k4) k5) pf_stops) k7) pf_knobs) k9) k10) k11) k12) k13) k14) k15) k16) k17) k18) k19) k20) k21) k22) k23) pf_heard) pf_enter) k26) k27) k28) k29) k30) k31)
theorem byName : Tryz.prog.funcNamed Rows.sequenceStepsRow.func = some 3 := by kernel_rfl
theorem inst : Tryz.f3.isInstance Tryz.prog Rows.sequenceStepsRow.origin Rows.sequenceStepsRow.targs := of_decide_eq_true (by kernel_rfl)
theorem over : Rows.sequenceStepsRow.holds Tryz.pinned (OpenSpec.ofChange Rows.sequenceStepsSpec) :=
  OpenClaim.holds_of_wide 3 Tryz.f3 rfl rfl rfl rfl rfl rfl rfl ⟨rfl, rfl, rfl, rfl, rfl⟩ rfl rfl rfl rfl rfl byName Tryz.func3 closed
    inst (by unfold Func.isWrapper; rw [if_neg (of_decide_eq_false (by kernel_rfl))]; exact ⟨rfl, rfl⟩)
    (fun os started H enc _ => lifted os started H enc)

/-- The given statement. -/
theorem proved : Rows.SequenceStepsSaid := over
end Go.Proofs.YtdfkkknkiioghaaGreat.sequenceSteps

