/-
  The walk of the law TurnTracks.
-/
import Derived.Test.YteedgcffdgkicaaMAwakeT
import Derived.Test.YteedgcffdgkicaaRows
import Derived.Test.YteedgcffdgkicaaMFrame
namespace Go.Proofs.Yteedgcffdgkicaa
open Go.RowKit
set_option linter.unusedVariables false
set_option linter.unusedSimpArgs false
set_option maxRecDepth 100000 in
set_option maxHeartbeats 4000000 in
theorem turnTracks_walk (cx cy r f s along : Int) (hcx : I64 cx) (hcy : I64 cy) (hr : I64 r) (hf : I64 f) (hs : I64 s) (halong : I64 along) (w : World) :
    Calls Try.prog 6 #[.agg #[.int .i64 cx, .int .i64 cy, .int .i64 r, .int .i64 f, .int .i64 s], .int .i64 along] w fun e w' => e = .returned (.bool true) ∧ Below w.heap.size w w' := by
  obtain ⟨R, hR⟩ : ∃ R, R = arcAt cx cy r f s along := ⟨_, rfl⟩
  have hc := arcAt_codes cx cy r f s along
  rw [← hR] at hc
  obtain ⟨X, Y, C, E⟩ := R
  rcases hc with hc | hc | hc
  · obtain rfl : E = 0 := hc
    by_cases hd : 100 ≤ r ∧ s ≤ 64800000 ∧ -64800000 ≤ s
    · obtain ⟨d1, d2, d3⟩ := hd
      obtain ⟨o, l, hO, ⟨o1, o2⟩, ⟨l1, l2⟩, al0, al1⟩ := tracks_at hR d1 d3 d2
      have HR := hide hR
      have HO := hide hO
      clear hR hO
      go_enter Try.func6, Try.ntmps6
      go_wp2_with fail
      refine (awake12_any _).mono ?_
      rintro e w1 ⟨rfl, hb1⟩
      obtain ⟨f1, f2, f3, f4, f5⟩ : w1.cell? ⟨w.heap.size, 0, none⟩ = some (.int .i64 cx) ∧ w1.cell? ⟨w.heap.size, 1, none⟩ = some (.int .i64 cy) ∧ w1.cell? ⟨w.heap.size, 2, none⟩ = some (.int .i64 r) ∧ w1.cell? ⟨w.heap.size, 3, none⟩ = some (.int .i64 f) ∧ w1.cell? ⟨w.heap.size, 4, none⟩ = some (.int .i64 s) := by
        refine ⟨?_, ?_, ?_, ?_, ?_⟩ <;> (refine cell_below hb1 ?_; repeat (first | (with_reducible assumption) | (with_reducible refine cell_drew ?_) | (with_reducible refine cell_drewN ?_ _) | (with_reducible refine cell_below (by assumption) ?_) | ((with_reducible refine cell_new ?_ ?_); (· (simp; done)); (· rfl)) | (with_reducible refine cell_alloc ?_ _) | ((with_reducible refine cell_set ?_ ?_ _); (· first | (simp; done) | (simp; omega) | omega))))
      have zf1 : w.heap.size < w1.heap.size := World.block_lt_of_cell? _ _ f1
      go_wp2_with fail
      refine (arcat_any cx cy r f s along _ (X, Y, C, 0) HR.out).mono ?_
      rintro e w2 ⟨rfl, hb2⟩
      obtain ⟨f6, f7, f8, f9, f10⟩ : w2.cell? ⟨w.heap.size, 0, none⟩ = some (.int .i64 cx) ∧ w2.cell? ⟨w.heap.size, 1, none⟩ = some (.int .i64 cy) ∧ w2.cell? ⟨w.heap.size, 2, none⟩ = some (.int .i64 r) ∧ w2.cell? ⟨w.heap.size, 3, none⟩ = some (.int .i64 f) ∧ w2.cell? ⟨w.heap.size, 4, none⟩ = some (.int .i64 s) := by
        refine ⟨?_, ?_, ?_, ?_, ?_⟩ <;> (refine cell_below hb2 ?_; repeat (first | (with_reducible assumption) | (with_reducible refine cell_drew ?_) | (with_reducible refine cell_drewN ?_ _) | (with_reducible refine cell_below (by assumption) ?_) | ((with_reducible refine cell_new ?_ ?_); (· (simp; done)); (· rfl)) | (with_reducible refine cell_alloc ?_ _) | ((with_reducible refine cell_set ?_ ?_ _); (· first | (simp; done) | (simp; omega) | omega))))
      have zf6 : w.heap.size < w2.heap.size := World.block_lt_of_cell? _ _ f6
      clear f1 zf1 f2 f3 f4 f5
      go_wp2_with fail
      refine (aoff_any cx cy r f s X Y _ (o, l, 0) HO.out).mono ?_
      rintro e w3 ⟨rfl, hb3⟩
      obtain ⟨f11, f12, f13, f14, f15, f16, f17⟩ : w3.cell? ⟨w.heap.size, 0, none⟩ = some (.int .i64 cx) ∧ w3.cell? ⟨w.heap.size, 1, none⟩ = some (.int .i64 cy) ∧ w3.cell? ⟨w.heap.size, 2, none⟩ = some (.int .i64 r) ∧ w3.cell? ⟨w.heap.size, 3, none⟩ = some (.int .i64 f) ∧ w3.cell? ⟨w.heap.size, 4, none⟩ = some (.int .i64 s) ∧ w3.cell? ⟨w2.heap.size, 0, none⟩ = some (.int .i64 X) ∧ w3.cell? ⟨w2.heap.size, 1, none⟩ = some (.int .i64 Y) := by
        refine ⟨?_, ?_, ?_, ?_, ?_, ?_, ?_⟩ <;> (refine cell_below hb3 ?_; repeat (first | (with_reducible assumption) | (with_reducible refine cell_drew ?_) | (with_reducible refine cell_drewN ?_ _) | (with_reducible refine cell_below (by assumption) ?_) | ((with_reducible refine cell_new ?_ ?_); (· (simp; done)); (· rfl)) | (with_reducible refine cell_alloc ?_ _) | ((with_reducible refine cell_set ?_ ?_ _); (· first | (simp; done) | (simp; omega) | omega))))
      have zf11 : w.heap.size < w3.heap.size := World.block_lt_of_cell? _ _ f11
      have zf16 : w2.heap.size < w3.heap.size := World.block_lt_of_cell? _ _ f16
      clear f6 zf6 f7 f8 f9 f10
      go_wp2_with (go_at_call 27; refine (near_true _ _ _ ?_ ?_ ?_ ?_ ?_ ?_ _).mono ?_; (· omega); (· omega); (· omega); (· omega); (· omega); (· omega); rintro e w' ⟨rfl, rfl⟩)
      go_ret
      exact ⟨rfl, by (repeat (with_reducible (first | assumption | exact Below.refl _ _ | refine Below.drew ?_ | refine below_drewN ?_ _ | refine below_set ?_ (by simp; try omega) _ | refine below_alloc ?_ (Nat.le_refl _) _ | refine below_sub (by assumption) ?_)))⟩
    · have HR := hide hR
      clear hR
      have hd' : r < 100 ∨ (100 ≤ r ∧ s > 64800000) ∨ (100 ≤ r ∧ s ≤ 64800000 ∧ s < -64800000) := by omega
      clear hd
      rcases hd' with d1 | ⟨d1, d2⟩ | ⟨d1, d2, d3⟩
      all_goals
        go_enter Try.func6, Try.ntmps6
        go_wp2_with fail
        refine (awake12_any _).mono ?_
        rintro e w1 ⟨rfl, hb1⟩
        obtain ⟨f1, f2, f3, f4, f5⟩ : w1.cell? ⟨w.heap.size, 0, none⟩ = some (.int .i64 cx) ∧ w1.cell? ⟨w.heap.size, 1, none⟩ = some (.int .i64 cy) ∧ w1.cell? ⟨w.heap.size, 2, none⟩ = some (.int .i64 r) ∧ w1.cell? ⟨w.heap.size, 3, none⟩ = some (.int .i64 f) ∧ w1.cell? ⟨w.heap.size, 4, none⟩ = some (.int .i64 s) := by
          refine ⟨?_, ?_, ?_, ?_, ?_⟩ <;> (refine cell_below hb1 ?_; repeat (first | (with_reducible assumption) | (with_reducible refine cell_drew ?_) | (with_reducible refine cell_drewN ?_ _) | (with_reducible refine cell_below (by assumption) ?_) | ((with_reducible refine cell_new ?_ ?_); (· (simp; done)); (· rfl)) | (with_reducible refine cell_alloc ?_ _) | ((with_reducible refine cell_set ?_ ?_ _); (· first | (simp; done) | (simp; omega) | omega))))
        have zf1 : w.heap.size < w1.heap.size := World.block_lt_of_cell? _ _ f1
        go_wp2_with fail
        refine (arcat_any cx cy r f s along _ (X, Y, C, 0) HR.out).mono ?_
        rintro e w2 ⟨rfl, hb2⟩
        obtain ⟨f6, f7, f8, f9, f10⟩ : w2.cell? ⟨w.heap.size, 0, none⟩ = some (.int .i64 cx) ∧ w2.cell? ⟨w.heap.size, 1, none⟩ = some (.int .i64 cy) ∧ w2.cell? ⟨w.heap.size, 2, none⟩ = some (.int .i64 r) ∧ w2.cell? ⟨w.heap.size, 3, none⟩ = some (.int .i64 f) ∧ w2.cell? ⟨w.heap.size, 4, none⟩ = some (.int .i64 s) := by
          refine ⟨?_, ?_, ?_, ?_, ?_⟩ <;> (refine cell_below hb2 ?_; repeat (first | (with_reducible assumption) | (with_reducible refine cell_drew ?_) | (with_reducible refine cell_drewN ?_ _) | (with_reducible refine cell_below (by assumption) ?_) | ((with_reducible refine cell_new ?_ ?_); (· (simp; done)); (· rfl)) | (with_reducible refine cell_alloc ?_ _) | ((with_reducible refine cell_set ?_ ?_ _); (· first | (simp; done) | (simp; omega) | omega))))
        have zf6 : w.heap.size < w2.heap.size := World.block_lt_of_cell? _ _ f6
        clear f1 zf1 f2 f3 f4 f5
        go_wp2_with fail
        all_goals
          go_ret
          exact ⟨rfl, by (repeat (with_reducible (first | assumption | exact Below.refl _ _ | refine Below.drew ?_ | refine below_drewN ?_ _ | refine below_set ?_ (by simp; try omega) _ | refine below_alloc ?_ (Nat.le_refl _) _ | refine below_sub (by assumption) ?_)))⟩
  · obtain rfl : E = 1 := hc
    have HR := hide hR
    clear hR
    · skip
      go_enter Try.func6, Try.ntmps6
      go_wp2_with fail
      refine (awake12_any _).mono ?_
      rintro e w1 ⟨rfl, hb1⟩
      obtain ⟨f1, f2, f3, f4, f5⟩ : w1.cell? ⟨w.heap.size, 0, none⟩ = some (.int .i64 cx) ∧ w1.cell? ⟨w.heap.size, 1, none⟩ = some (.int .i64 cy) ∧ w1.cell? ⟨w.heap.size, 2, none⟩ = some (.int .i64 r) ∧ w1.cell? ⟨w.heap.size, 3, none⟩ = some (.int .i64 f) ∧ w1.cell? ⟨w.heap.size, 4, none⟩ = some (.int .i64 s) := by
        refine ⟨?_, ?_, ?_, ?_, ?_⟩ <;> (refine cell_below hb1 ?_; repeat (first | (with_reducible assumption) | (with_reducible refine cell_drew ?_) | (with_reducible refine cell_drewN ?_ _) | (with_reducible refine cell_below (by assumption) ?_) | ((with_reducible refine cell_new ?_ ?_); (· (simp; done)); (· rfl)) | (with_reducible refine cell_alloc ?_ _) | ((with_reducible refine cell_set ?_ ?_ _); (· first | (simp; done) | (simp; omega) | omega))))
      have zf1 : w.heap.size < w1.heap.size := World.block_lt_of_cell? _ _ f1
      go_wp2_with fail
      refine (arcat_any cx cy r f s along _ (X, Y, C, 1) HR.out).mono ?_
      rintro e w2 ⟨rfl, hb2⟩
      obtain ⟨f6, f7, f8, f9, f10⟩ : w2.cell? ⟨w.heap.size, 0, none⟩ = some (.int .i64 cx) ∧ w2.cell? ⟨w.heap.size, 1, none⟩ = some (.int .i64 cy) ∧ w2.cell? ⟨w.heap.size, 2, none⟩ = some (.int .i64 r) ∧ w2.cell? ⟨w.heap.size, 3, none⟩ = some (.int .i64 f) ∧ w2.cell? ⟨w.heap.size, 4, none⟩ = some (.int .i64 s) := by
        refine ⟨?_, ?_, ?_, ?_, ?_⟩ <;> (refine cell_below hb2 ?_; repeat (first | (with_reducible assumption) | (with_reducible refine cell_drew ?_) | (with_reducible refine cell_drewN ?_ _) | (with_reducible refine cell_below (by assumption) ?_) | ((with_reducible refine cell_new ?_ ?_); (· (simp; done)); (· rfl)) | (with_reducible refine cell_alloc ?_ _) | ((with_reducible refine cell_set ?_ ?_ _); (· first | (simp; done) | (simp; omega) | omega))))
      have zf6 : w.heap.size < w2.heap.size := World.block_lt_of_cell? _ _ f6
      clear f1 zf1 f2 f3 f4 f5
      go_wp2_with fail
      all_goals
        go_ret
        exact ⟨rfl, by (repeat (with_reducible (first | assumption | exact Below.refl _ _ | refine Below.drew ?_ | refine below_drewN ?_ _ | refine below_set ?_ (by simp; try omega) _ | refine below_alloc ?_ (Nat.le_refl _) _ | refine below_sub (by assumption) ?_)))⟩
  · obtain rfl : E = 2 := hc
    have HR := hide hR
    clear hR
    · skip
      go_enter Try.func6, Try.ntmps6
      go_wp2_with fail
      refine (awake12_any _).mono ?_
      rintro e w1 ⟨rfl, hb1⟩
      obtain ⟨f1, f2, f3, f4, f5⟩ : w1.cell? ⟨w.heap.size, 0, none⟩ = some (.int .i64 cx) ∧ w1.cell? ⟨w.heap.size, 1, none⟩ = some (.int .i64 cy) ∧ w1.cell? ⟨w.heap.size, 2, none⟩ = some (.int .i64 r) ∧ w1.cell? ⟨w.heap.size, 3, none⟩ = some (.int .i64 f) ∧ w1.cell? ⟨w.heap.size, 4, none⟩ = some (.int .i64 s) := by
        refine ⟨?_, ?_, ?_, ?_, ?_⟩ <;> (refine cell_below hb1 ?_; repeat (first | (with_reducible assumption) | (with_reducible refine cell_drew ?_) | (with_reducible refine cell_drewN ?_ _) | (with_reducible refine cell_below (by assumption) ?_) | ((with_reducible refine cell_new ?_ ?_); (· (simp; done)); (· rfl)) | (with_reducible refine cell_alloc ?_ _) | ((with_reducible refine cell_set ?_ ?_ _); (· first | (simp; done) | (simp; omega) | omega))))
      have zf1 : w.heap.size < w1.heap.size := World.block_lt_of_cell? _ _ f1
      go_wp2_with fail
      refine (arcat_any cx cy r f s along _ (X, Y, C, 2) HR.out).mono ?_
      rintro e w2 ⟨rfl, hb2⟩
      obtain ⟨f6, f7, f8, f9, f10⟩ : w2.cell? ⟨w.heap.size, 0, none⟩ = some (.int .i64 cx) ∧ w2.cell? ⟨w.heap.size, 1, none⟩ = some (.int .i64 cy) ∧ w2.cell? ⟨w.heap.size, 2, none⟩ = some (.int .i64 r) ∧ w2.cell? ⟨w.heap.size, 3, none⟩ = some (.int .i64 f) ∧ w2.cell? ⟨w.heap.size, 4, none⟩ = some (.int .i64 s) := by
        refine ⟨?_, ?_, ?_, ?_, ?_⟩ <;> (refine cell_below hb2 ?_; repeat (first | (with_reducible assumption) | (with_reducible refine cell_drew ?_) | (with_reducible refine cell_drewN ?_ _) | (with_reducible refine cell_below (by assumption) ?_) | ((with_reducible refine cell_new ?_ ?_); (· (simp; done)); (· rfl)) | (with_reducible refine cell_alloc ?_ _) | ((with_reducible refine cell_set ?_ ?_ _); (· first | (simp; done) | (simp; omega) | omega))))
      have zf6 : w.heap.size < w2.heap.size := World.block_lt_of_cell? _ _ f6
      clear f1 zf1 f2 f3 f4 f5
      go_wp2_with fail
      all_goals
        go_ret
        exact ⟨rfl, by (repeat (with_reducible (first | assumption | exact Below.refl _ _ | refine Below.drew ?_ | refine below_drewN ?_ _ | refine below_set ?_ (by simp; try omega) _ | refine below_alloc ?_ (Nat.le_refl _) _ | refine below_sub (by assumption) ?_)))⟩
end Go.Proofs.Yteedgcffdgkicaa

/-
  TurnTracks: the row's step: the given statement 'TurnTracksSaid' out of the walk.
-/
namespace Go.Proofs.Yteedgcffdgkicaa.turnTracks
open Go.ChangeShapes Go.WideShapes Go.ChangeAt Go.RowKit
set_option linter.unusedVariables false

theorem own : ownKnob Try.prog.godebug = none := by kernel_rfl
theorem laidOut : laidOutB Try.prog = true := pf_laid
theorem typed : (Try.f6.params.toList.all fun t => Try.prog.readableRec t && decide (t < Try.prog.types.size)) = true := by kernel_rfl
theorem typed' : ∀ t ∈ Try.f6.params.toList, Try.prog.readableRec t = true ∧ t < Try.prog.types.size := by
  intro t ht
  have h := List.all_eq_true.1 typed t ht
  simpa using h
theorem ct25 : Try.prog.cellTypes Try.prog.depth 25 = some (List.replicate 5 2) := by kernel_rfl
theorem cn25 : Try.prog.cellsOf 25 = (List.replicate 5 2).length := by kernel_rfl
set_option maxRecDepth 100000 in
theorem lifted (os : Os) (started : os.Started) (H : Type) (enc : TypeId × Value → H) :
    ReturnsInHanded {} Try.checked os 6 .any (Rows.turnTracksSpec.pre6 enc Try.prog Try.f6 Rows.turnTracksRow.domain false) (Rows.turnTracksSpec.post enc Try.prog Try.f6 false true false false) := by
  refine returnsInHanded_of_change (C := Try.checked) own started (by kernel_rfl) Try.func6
    (ChangeSpec.witness6 (enc := enc) (C := Try.checked) false ⟨#[], #[.agg #[.int .i64 0, .int .i64 0, .int .i64 0, .int .i64 0, .int .i64 0], .int .i64 0], []⟩ 8 (by kernel_rfl) (by kernel_rfl) (by kernel_rfl) (by kernel_rfl)) ?_
  intro W base args ds gs before hval0 hW hcnd _
  have hval : ∀ (j : Nat) t v, Try.f6.params[j]? = some t → args[j]? = some v → Value.okWide Try.prog W .any base t v := hval0
  have hW' := hW
  obtain ⟨p, q, hA0, hV, rfl, hfz, hnd⟩ := hW
  have hlen := trodAll_length _ _ _ _ hA0
  rw [Try.params6] at hval hlen
  obtain ⟨v0, v1, rfl⟩ := arr2 hlen.1
  obtain ⟨d0, d1, rfl⟩ := list2 hlen.2
  obtain ⟨la, rfl, ea, hla⟩ := ok_ints (Or.inl ⟨_, Try.underlying25⟩) ct25 cn25 (fun u hu => by rw [List.eq_of_mem_replicate hu]; exact Try.underlying2) (hval 0 25 v0 rfl rfl)
  obtain ⟨a0, a1, a2, a3, a4, rfl⟩ := list5 (ea.trans (by simp))
  have ha0 : I64 a0 := hla _ (by simp)
  have ha1 : I64 a1 := hla _ (by simp)
  have ha2 : I64 a2 := hla _ (by simp)
  have ha3 : I64 a3 := hla _ (by simp)
  have ha4 : I64 a4 := hla _ (by simp)
  obtain ⟨along, rfl, halong⟩ := ok_i64 Try.underlying2 (hval 1 2 v1 rfl rfl)
  refine (turnTracks_walk a0 a1 a2 a3 a4 along ha0 ha1 ha2 ha3 ha4 halong W).mono fun e W' ⟨he, hb⟩ => ?_
  subst he
  exact ⟨_, rfl, law_post (f := Try.f6) (s := Rows.turnTracksSpec) (tb := 4) laidOut typed' rfl (by kernel_rfl) Try.underlying4 hW' ⟨rfl, rfl, rfl⟩ hb⟩

theorem k0 : (Rows.turnTracksRow.wf (OpenSpec.ofChange Rows.turnTracksSpec)) = true := by kernel_rfl
theorem k3 : (Try.f6.params.all (Try.prog.readableRec ·)) = true := by kernel_rfl
theorem k4 : (namedTie Try.prog Rows.turnTracksRow.named Rows.turnTracksSpec.vars) = true := by kernel_rfl
theorem k5 : (Rows.turnTracksRow.stops == []) = true := by kernel_rfl
theorem k7 : (Rows.turnTracksRow.knobs == []) = true := by kernel_rfl
theorem k9 : (Rows.turnTracksRow.inPlace == Try.prog.inPlace 6) = true := by kernel_rfl
theorem k10 : (Rows.turnTracksRow.unfollowed == Try.prog.unfollowed 6) = true := by kernel_rfl
theorem k11 : (Rows.turnTracksRow.recurses == Try.prog.recurses 6) = true := by kernel_rfl
theorem k12 : (Rows.turnTracksRow.named == Try.prog.varsNamed 6) = true := by kernel_rfl
theorem k13 : (Rows.turnTracksRow.maps == (Try.f6.params.toList ++ Rows.turnTracksSpec.plain.varTypes Try.prog).any (Try.prog.mapsRec ·)) = true := by kernel_rfl
theorem k14 : (Rows.turnTracksRow.ifaces == (Try.f6.params.toList ++ Rows.turnTracksSpec.plain.varTypes Try.prog).any (Try.prog.ifacesRec ·)) = true := by kernel_rfl
theorem k15 : (Rows.turnTracksRow.mapsOut == Try.prog.mapsAmong Try.f6.resultTypes.toList) = true := by kernel_rfl
theorem k16 : (Rows.turnTracksRow.loops == (Try.f6.params.toList ++ Rows.turnTracksSpec.plain.varTypes Try.prog).any (Try.prog.loopsFrom ·)) = true := by kernel_rfl
theorem k17 : (Rows.turnTracksRow.wideKeys == (Try.f6.params.toList ++ Rows.turnTracksSpec.plain.varTypes Try.prog ++ Try.f6.resultTypes.toList).any (Try.prog.wideKeysFrom ·)) = true := by kernel_rfl
theorem k18 : (Rows.turnTracksSpec.vars.all (Try.prog.varReadable ·)) = true := by kernel_rfl
theorem k19 : (Try.f6.resultTypes.all (fun t => Try.prog.readableRec t && decide (t < Try.prog.types.size))) = true := by kernel_rfl
theorem k20 : (Rows.turnTracksRow.ifacesOut == Try.f6.resultTypes.toList.any (Try.prog.ifacesRec ·)) = true := by kernel_rfl
theorem k21 : (Rows.turnTracksRow.loopsOut == Try.f6.resultTypes.toList.any (Try.prog.loopsFrom ·)) = true := by kernel_rfl
theorem k22 : (Rows.turnTracksRow.plainKeys == Try.prog.plainKeys) = true := by kernel_rfl
theorem k23 : (Rows.turnTracksRow.shortTexts.isNone) = true := by kernel_rfl
theorem k26 : (Rows.turnTracksRow.lifted == Try.prog.liftsFinal) = true := by rw [pf_lifts]; rfl
theorem k27 : (Try.prog.make == some Rows.turnTracksRow.make) = true := by rw [pf_make]; rfl
theorem k28 : (Rows.turnTracksRow.kinds == (if Rows.turnTracksRow.domain.isEmpty then [] else Try.f6.params.toList.map fun t => match Try.prog.underlying t with | some (.int k) => some k | _ => none)) = true := by kernel_rfl
theorem k29 : (Rows.turnTracksRow.pinned == Rows.turnTracksRow.pinnedBy) = true := by kernel_rfl
theorem k30 : (Rows.turnTracksRow.veiled == (Try.f6.params.toList ++ Rows.turnTracksSpec.plain.varTypes Try.prog ++ Try.f6.resultTypes.toList).any (Try.prog.veiledRec ·)) = true := by kernel_rfl
theorem k31 : (Rows.turnTracksRow.veiledFits Try.prog Try.f6.params.toList (Try.f6.params.toList ++ Rows.turnTracksSpec.plain.varTypes Try.prog ++ Try.f6.resultTypes.toList)) = true := by kernel_rfl
set_option maxRecDepth 100000 in
theorem closed : joinedFacts Try.prog 6 Try.f6 Rows.turnTracksSpec Rows.turnTracksRow = true := (band (band (band (band (band (band (band (band (band (band (band (band (band (band (band (band (band (band (band (band (band (band (band (band (band (band (band (band (band (band (band k0 pf_laid) pf_maps) k3) k4) k5) pf_stops) k7) pf_knobs) k9) k10) k11) k12) k13) k14) k15) k16) k17) k18) k19) k20) k21) k22) k23) pf_heard) pf_enter) k26) k27) k28) k29) k30) k31)
theorem byName : Try.prog.funcNamed Rows.turnTracksRow.func = some 6 := by kernel_rfl
theorem inst : Try.f6.isInstance Try.prog Rows.turnTracksRow.origin Rows.turnTracksRow.targs := of_decide_eq_true (by kernel_rfl)
theorem over : Rows.turnTracksRow.holds Try.pinned (OpenSpec.ofChange Rows.turnTracksSpec) :=
  OpenClaim.holds_of_wide 6 Try.f6 rfl rfl rfl rfl rfl rfl rfl ⟨rfl, rfl, rfl, rfl, rfl⟩ rfl rfl rfl rfl rfl byName Try.func6 closed
    inst (by unfold Func.isWrapper; rw [if_neg (of_decide_eq_false (by kernel_rfl))]; exact ⟨rfl, rfl⟩)
    (fun os started H enc _ => lifted os started H enc)

/-- The given statement. -/
theorem proved : Rows.TurnTracksSaid := over
end Go.Proofs.Yteedgcffdgkicaa.turnTracks

