/-
  The walk of the law LineRays.
-/
import Derived.Test.YtijdehdghgmccaaMAwakeL
import Derived.Test.YtijdehdghgmccaaMLaws
import Derived.Test.YtijdehdghgmccaaRows
import Derived.Test.YtijdehdghgmccaaMFrame
namespace Go.Proofs.Ytijdehdghgmccaa
open Go.RowKit
set_option linter.unusedVariables false
set_option linter.unusedSimpArgs false
set_option maxRecDepth 100000 in
set_option maxHeartbeats 4000000 in
theorem lineRays_walk (px py course dist : Int) (hpx : I64 px) (hpy : I64 py) (hcourse : I64 course) (hdist : I64 dist) (w : World) :
    Calls Try.prog 24 #[.agg #[.int .i64 px, .int .i64 py], .int .i64 course, .int .i64 dist] w fun e w' => e = .returned (.bool true) ∧ Below w.heap.size w w' := by
  obtain ⟨R, hR⟩ : ∃ R, R = rayF px py course dist := ⟨_, rfl⟩
  obtain ⟨X, Y, E⟩ := R
  by_cases hE : E = 0
  · subst hE
    have L := rays hR.symm
    have HR := hide hR
    obtain ⟨D, hD⟩ : ∃ D, D = distF px py X Y := ⟨_, rfl⟩
    rw [← hD] at L
    have HD := hide hD
    clear hR hD
    obtain ⟨⟨d1, d2⟩, ⟨d3, d4⟩, d5, d6⟩ := L
    have q : (0 ≤ dist ∧ D ≤ dist + 1 ∧ dist ≤ D + 1) ∨ (dist < 0 ∧ D ≤ -dist + 1 ∧ -dist ≤ D + 1) := by omega
    clear d5 d6
    rcases q with ⟨q1, q2, q3⟩ | ⟨q1, q2, q3⟩
    all_goals
      go_enter Try.func24, Try.ntmps24
      go_wp2_with fail
      refine (awake11_any _).mono ?_
      rintro e w1 ⟨rfl, hb1⟩
      have f1 := cell_below hb1 (b := w.heap.size) (o := 0) (v := .int .i64 px) (by repeat (first | (with_reducible assumption) | (with_reducible refine cell_drew ?_) | (with_reducible refine cell_drewN ?_ _) | (with_reducible refine cell_below (by assumption) ?_) | ((with_reducible refine cell_new ?_ ?_); (· (simp; done)); (· rfl)) | (with_reducible refine cell_alloc ?_ _) | ((with_reducible refine cell_set ?_ ?_ _); (· first | (simp; done) | (simp; omega) | omega))))
      have zf1 : w.heap.size < w1.heap.size := World.block_lt_of_cell? _ _ f1
      have f2 := cell_below hb1 (b := w.heap.size) (o := 1) (v := .int .i64 py) (by repeat (first | (with_reducible assumption) | (with_reducible refine cell_drew ?_) | (with_reducible refine cell_drewN ?_ _) | (with_reducible refine cell_below (by assumption) ?_) | ((with_reducible refine cell_new ?_ ?_); (· (simp; done)); (· rfl)) | (with_reducible refine cell_alloc ?_ _) | ((with_reducible refine cell_set ?_ ?_ _); (· first | (simp; done) | (simp; omega) | omega))))
      go_wp2_with fail
      refine (ray_any px py course dist hcourse hdist _ (X, Y, 0) HR.out).mono ?_
      rintro e w2 ⟨rfl, hb2⟩
      have f3 := cell_below hb2 (b := w.heap.size) (o := 0) (v := .int .i64 px) (by repeat (first | (with_reducible assumption) | (with_reducible refine cell_drew ?_) | (with_reducible refine cell_drewN ?_ _) | (with_reducible refine cell_below (by assumption) ?_) | ((with_reducible refine cell_new ?_ ?_); (· (simp; done)); (· rfl)) | (with_reducible refine cell_alloc ?_ _) | ((with_reducible refine cell_set ?_ ?_ _); (· first | (simp; done) | (simp; omega) | omega))))
      have zf3 : w.heap.size < w2.heap.size := World.block_lt_of_cell? _ _ f3
      have f4 := cell_below hb2 (b := w.heap.size) (o := 1) (v := .int .i64 py) (by repeat (first | (with_reducible assumption) | (with_reducible refine cell_drew ?_) | (with_reducible refine cell_drewN ?_ _) | (with_reducible refine cell_below (by assumption) ?_) | ((with_reducible refine cell_new ?_ ?_); (· (simp; done)); (· rfl)) | (with_reducible refine cell_alloc ?_ _) | ((with_reducible refine cell_set ?_ ?_ _); (· first | (simp; done) | (simp; omega) | omega))))
      clear f1 zf1 f2
      go_wp2_with fail
      refine (rray_any px py course dist hcourse hdist _ (X, Y, 0) HR.out).mono ?_
      rintro e w3 ⟨rfl, hb3⟩
      have f5 := cell_below hb3 (b := w.heap.size) (o := 0) (v := .int .i64 px) (by repeat (first | (with_reducible assumption) | (with_reducible refine cell_drew ?_) | (with_reducible refine cell_drewN ?_ _) | (with_reducible refine cell_below (by assumption) ?_) | ((with_reducible refine cell_new ?_ ?_); (· (simp; done)); (· rfl)) | (with_reducible refine cell_alloc ?_ _) | ((with_reducible refine cell_set ?_ ?_ _); (· first | (simp; done) | (simp; omega) | omega))))
      have zf5 : w.heap.size < w3.heap.size := World.block_lt_of_cell? _ _ f5
      have f6 := cell_below hb3 (b := w.heap.size) (o := 1) (v := .int .i64 py) (by repeat (first | (with_reducible assumption) | (with_reducible refine cell_drew ?_) | (with_reducible refine cell_drewN ?_ _) | (with_reducible refine cell_below (by assumption) ?_) | ((with_reducible refine cell_new ?_ ?_); (· (simp; done)); (· rfl)) | (with_reducible refine cell_alloc ?_ _) | ((with_reducible refine cell_set ?_ ?_ _); (· first | (simp; done) | (simp; omega) | omega))))
      have f7 := cell_below hb3 (b := w2.heap.size) (o := 0) (v := .int .i64 X) (by repeat (first | (with_reducible assumption) | (with_reducible refine cell_drew ?_) | (with_reducible refine cell_drewN ?_ _) | (with_reducible refine cell_below (by assumption) ?_) | ((with_reducible refine cell_new ?_ ?_); (· (simp; done)); (· rfl)) | (with_reducible refine cell_alloc ?_ _) | ((with_reducible refine cell_set ?_ ?_ _); (· first | (simp; done) | (simp; omega) | omega))))
      have zf7 : w2.heap.size < w3.heap.size := World.block_lt_of_cell? _ _ f7
      have f8 := cell_below hb3 (b := w2.heap.size) (o := 1) (v := .int .i64 Y) (by repeat (first | (with_reducible assumption) | (with_reducible refine cell_drew ?_) | (with_reducible refine cell_drewN ?_ _) | (with_reducible refine cell_below (by assumption) ?_) | ((with_reducible refine cell_new ?_ ?_); (· (simp; done)); (· rfl)) | (with_reducible refine cell_alloc ?_ _) | ((with_reducible refine cell_set ?_ ?_ _); (· first | (simp; done) | (simp; omega) | omega))))
      clear f3 zf3 f4
      go_wp2_with fail
      refine (dist_any px py X Y _).mono ?_
      rintro e w4 ⟨rfl, hb4⟩
      rw [← HD.out]
      have f9 := cell_below hb4 (b := w.heap.size) (o := 0) (v := .int .i64 px) (by repeat (first | (with_reducible assumption) | (with_reducible refine cell_drew ?_) | (with_reducible refine cell_drewN ?_ _) | (with_reducible refine cell_below (by assumption) ?_) | ((with_reducible refine cell_new ?_ ?_); (· (simp; done)); (· rfl)) | (with_reducible refine cell_alloc ?_ _) | ((with_reducible refine cell_set ?_ ?_ _); (· first | (simp; done) | (simp; omega) | omega))))
      have zf9 : w.heap.size < w4.heap.size := World.block_lt_of_cell? _ _ f9
      have f10 := cell_below hb4 (b := w.heap.size) (o := 1) (v := .int .i64 py) (by repeat (first | (with_reducible assumption) | (with_reducible refine cell_drew ?_) | (with_reducible refine cell_drewN ?_ _) | (with_reducible refine cell_below (by assumption) ?_) | ((with_reducible refine cell_new ?_ ?_); (· (simp; done)); (· rfl)) | (with_reducible refine cell_alloc ?_ _) | ((with_reducible refine cell_set ?_ ?_ _); (· first | (simp; done) | (simp; omega) | omega))))
      have f11 := cell_below hb4 (b := w2.heap.size) (o := 0) (v := .int .i64 X) (by repeat (first | (with_reducible assumption) | (with_reducible refine cell_drew ?_) | (with_reducible refine cell_drewN ?_ _) | (with_reducible refine cell_below (by assumption) ?_) | ((with_reducible refine cell_new ?_ ?_); (· (simp; done)); (· rfl)) | (with_reducible refine cell_alloc ?_ _) | ((with_reducible refine cell_set ?_ ?_ _); (· first | (simp; done) | (simp; omega) | omega))))
      have zf11 : w2.heap.size < w4.heap.size := World.block_lt_of_cell? _ _ f11
      have f12 := cell_below hb4 (b := w2.heap.size) (o := 1) (v := .int .i64 Y) (by repeat (first | (with_reducible assumption) | (with_reducible refine cell_drew ?_) | (with_reducible refine cell_drewN ?_ _) | (with_reducible refine cell_below (by assumption) ?_) | ((with_reducible refine cell_new ?_ ?_); (· (simp; done)); (· rfl)) | (with_reducible refine cell_alloc ?_ _) | ((with_reducible refine cell_set ?_ ?_ _); (· first | (simp; done) | (simp; omega) | omega))))
      have f13 := cell_below hb4 (b := w3.heap.size) (o := 0) (v := .int .i64 X) (by repeat (first | (with_reducible assumption) | (with_reducible refine cell_drew ?_) | (with_reducible refine cell_drewN ?_ _) | (with_reducible refine cell_below (by assumption) ?_) | ((with_reducible refine cell_new ?_ ?_); (· (simp; done)); (· rfl)) | (with_reducible refine cell_alloc ?_ _) | ((with_reducible refine cell_set ?_ ?_ _); (· first | (simp; done) | (simp; omega) | omega))))
      have zf13 : w3.heap.size < w4.heap.size := World.block_lt_of_cell? _ _ f13
      have f14 := cell_below hb4 (b := w3.heap.size) (o := 1) (v := .int .i64 Y) (by repeat (first | (with_reducible assumption) | (with_reducible refine cell_drew ?_) | (with_reducible refine cell_drewN ?_ _) | (with_reducible refine cell_below (by assumption) ?_) | ((with_reducible refine cell_new ?_ ?_); (· (simp; done)); (· rfl)) | (with_reducible refine cell_alloc ?_ _) | ((with_reducible refine cell_set ?_ ?_ _); (· first | (simp; done) | (simp; omega) | omega))))
      clear f5 zf5 f6 f7 zf7 f8
      go_wp2_with fail
      go_ret
      exact ⟨ret_bool (by first | rfl | (simp; done) | (simp; omega)), by (repeat (with_reducible (first | assumption | exact Below.refl _ _ | refine Below.drew ?_ | refine below_drewN ?_ _ | refine below_set ?_ (by simp; try omega) _ | refine below_alloc ?_ (Nat.le_refl _) _ | refine below_sub (by assumption) ?_)))⟩
  · have T : (E != 0) = true := by rw [bne_iff_ne]; exact hE
    have HR := hide hR
    clear hR hE
    go_enter Try.func24, Try.ntmps24
    go_wp2_with fail
    refine (awake11_any _).mono ?_
    rintro e w1 ⟨rfl, hb1⟩
    have f1 := cell_below hb1 (b := w.heap.size) (o := 0) (v := .int .i64 px) (by repeat (first | (with_reducible assumption) | (with_reducible refine cell_drew ?_) | (with_reducible refine cell_drewN ?_ _) | (with_reducible refine cell_below (by assumption) ?_) | ((with_reducible refine cell_new ?_ ?_); (· (simp; done)); (· rfl)) | (with_reducible refine cell_alloc ?_ _) | ((with_reducible refine cell_set ?_ ?_ _); (· first | (simp; done) | (simp; omega) | omega))))
    have zf1 : w.heap.size < w1.heap.size := World.block_lt_of_cell? _ _ f1
    have f2 := cell_below hb1 (b := w.heap.size) (o := 1) (v := .int .i64 py) (by repeat (first | (with_reducible assumption) | (with_reducible refine cell_drew ?_) | (with_reducible refine cell_drewN ?_ _) | (with_reducible refine cell_below (by assumption) ?_) | ((with_reducible refine cell_new ?_ ?_); (· (simp; done)); (· rfl)) | (with_reducible refine cell_alloc ?_ _) | ((with_reducible refine cell_set ?_ ?_ _); (· first | (simp; done) | (simp; omega) | omega))))
    go_wp2_with fail
    refine (ray_any px py course dist hcourse hdist _ (X, Y, E) HR.out).mono ?_
    rintro e w2 ⟨rfl, hb2⟩
    have f3 := cell_below hb2 (b := w.heap.size) (o := 0) (v := .int .i64 px) (by repeat (first | (with_reducible assumption) | (with_reducible refine cell_drew ?_) | (with_reducible refine cell_drewN ?_ _) | (with_reducible refine cell_below (by assumption) ?_) | ((with_reducible refine cell_new ?_ ?_); (· (simp; done)); (· rfl)) | (with_reducible refine cell_alloc ?_ _) | ((with_reducible refine cell_set ?_ ?_ _); (· first | (simp; done) | (simp; omega) | omega))))
    have zf3 : w.heap.size < w2.heap.size := World.block_lt_of_cell? _ _ f3
    have f4 := cell_below hb2 (b := w.heap.size) (o := 1) (v := .int .i64 py) (by repeat (first | (with_reducible assumption) | (with_reducible refine cell_drew ?_) | (with_reducible refine cell_drewN ?_ _) | (with_reducible refine cell_below (by assumption) ?_) | ((with_reducible refine cell_new ?_ ?_); (· (simp; done)); (· rfl)) | (with_reducible refine cell_alloc ?_ _) | ((with_reducible refine cell_set ?_ ?_ _); (· first | (simp; done) | (simp; omega) | omega))))
    clear f1 zf1 f2
    go_wp2_with fail
    refine (rray_any px py course dist hcourse hdist _ (X, Y, E) HR.out).mono ?_
    rintro e w3 ⟨rfl, hb3⟩
    have f5 := cell_below hb3 (b := w.heap.size) (o := 0) (v := .int .i64 px) (by repeat (first | (with_reducible assumption) | (with_reducible refine cell_drew ?_) | (with_reducible refine cell_drewN ?_ _) | (with_reducible refine cell_below (by assumption) ?_) | ((with_reducible refine cell_new ?_ ?_); (· (simp; done)); (· rfl)) | (with_reducible refine cell_alloc ?_ _) | ((with_reducible refine cell_set ?_ ?_ _); (· first | (simp; done) | (simp; omega) | omega))))
    have zf5 : w.heap.size < w3.heap.size := World.block_lt_of_cell? _ _ f5
    have f6 := cell_below hb3 (b := w.heap.size) (o := 1) (v := .int .i64 py) (by repeat (first | (with_reducible assumption) | (with_reducible refine cell_drew ?_) | (with_reducible refine cell_drewN ?_ _) | (with_reducible refine cell_below (by assumption) ?_) | ((with_reducible refine cell_new ?_ ?_); (· (simp; done)); (· rfl)) | (with_reducible refine cell_alloc ?_ _) | ((with_reducible refine cell_set ?_ ?_ _); (· first | (simp; done) | (simp; omega) | omega))))
    have f7 := cell_below hb3 (b := w2.heap.size) (o := 0) (v := .int .i64 X) (by repeat (first | (with_reducible assumption) | (with_reducible refine cell_drew ?_) | (with_reducible refine cell_drewN ?_ _) | (with_reducible refine cell_below (by assumption) ?_) | ((with_reducible refine cell_new ?_ ?_); (· (simp; done)); (· rfl)) | (with_reducible refine cell_alloc ?_ _) | ((with_reducible refine cell_set ?_ ?_ _); (· first | (simp; done) | (simp; omega) | omega))))
    have zf7 : w2.heap.size < w3.heap.size := World.block_lt_of_cell? _ _ f7
    have f8 := cell_below hb3 (b := w2.heap.size) (o := 1) (v := .int .i64 Y) (by repeat (first | (with_reducible assumption) | (with_reducible refine cell_drew ?_) | (with_reducible refine cell_drewN ?_ _) | (with_reducible refine cell_below (by assumption) ?_) | ((with_reducible refine cell_new ?_ ?_); (· (simp; done)); (· rfl)) | (with_reducible refine cell_alloc ?_ _) | ((with_reducible refine cell_set ?_ ?_ _); (· first | (simp; done) | (simp; omega) | omega))))
    clear f3 zf3 f4
    go_wp2_with fail
    go_ret
    exact ⟨rfl, by (repeat (with_reducible (first | assumption | exact Below.refl _ _ | refine Below.drew ?_ | refine below_drewN ?_ _ | refine below_set ?_ (by simp; try omega) _ | refine below_alloc ?_ (Nat.le_refl _) _ | refine below_sub (by assumption) ?_)))⟩
end Go.Proofs.Ytijdehdghgmccaa

/-
  LineRays: the row's step: the given statement 'LineRaysSaid' out of the walk.
-/
namespace Go.Proofs.Ytijdehdghgmccaa.lineRays
open Go.ChangeShapes Go.WideShapes Go.ChangeAt Go.RowKit
set_option linter.unusedVariables false

theorem own : ownKnob Try.prog.godebug = none := by kernel_rfl
theorem laidOut : laidOutB Try.prog = true := pf_laid
theorem typed : (Try.f24.params.toList.all fun t => Try.prog.readableRec t && decide (t < Try.prog.types.size)) = true := by kernel_rfl
theorem typed' : ∀ t ∈ Try.f24.params.toList, Try.prog.readableRec t = true ∧ t < Try.prog.types.size := by
  intro t ht
  have h := List.all_eq_true.1 typed t ht
  simpa using h
theorem ct30 : Try.prog.cellTypes Try.prog.depth 30 = some (List.replicate 2 2) := by kernel_rfl
theorem cn30 : Try.prog.cellsOf 30 = (List.replicate 2 2).length := by kernel_rfl
set_option maxRecDepth 100000 in
theorem lifted (os : Os) (started : os.Started) (H : Type) (enc : TypeId × Value → H) :
    ReturnsInHanded {} Try.checked os 24 .any (Rows.lineRaysSpec.pre6 enc Try.prog Try.f24 Rows.lineRaysRow.domain false) (Rows.lineRaysSpec.post enc Try.prog Try.f24 false true false false) := by
  refine returnsInHanded_of_change (C := Try.checked) own started (by kernel_rfl) Try.func24
    (ChangeSpec.witness6 (enc := enc) (C := Try.checked) false ⟨#[], #[.agg #[.int .i64 0, .int .i64 0], .int .i64 0, .int .i64 0], []⟩ 8 (by kernel_rfl) (by kernel_rfl) (by kernel_rfl) (by kernel_rfl)) ?_
  intro W base args ds gs before hval0 hW hcnd _
  have hval : ∀ (j : Nat) t v, Try.f24.params[j]? = some t → args[j]? = some v → Value.okWide Try.prog W .any base t v := hval0
  have hW' := hW
  obtain ⟨p, q, hA0, hV, rfl, hfz, hnd⟩ := hW
  have hlen := trodAll_length _ _ _ _ hA0
  rw [Try.params24] at hval hlen
  obtain ⟨v0, v1, v2, rfl⟩ := arr3 hlen.1
  obtain ⟨d0, d1, d2, rfl⟩ := list3 hlen.2
  obtain ⟨lp, rfl, ep, hlp⟩ := ok_ints (Or.inl ⟨_, Try.underlying30⟩) ct30 cn30 (fun u hu => by rw [List.eq_of_mem_replicate hu]; exact Try.underlying2) (hval 0 30 v0 rfl rfl)
  obtain ⟨p0, p1, rfl⟩ := list2 (ep.trans (by simp))
  have hp0 : I64 p0 := hlp _ (by simp)
  have hp1 : I64 p1 := hlp _ (by simp)
  obtain ⟨course, rfl, hcourse⟩ := ok_i64 Try.underlying2 (hval 1 2 v1 rfl rfl)
  obtain ⟨dist, rfl, hdist⟩ := ok_i64 Try.underlying2 (hval 2 2 v2 rfl rfl)
  refine (lineRays_walk p0 p1 course dist hp0 hp1 hcourse hdist W).mono fun e W' ⟨he, hb⟩ => ?_
  subst he
  exact ⟨_, rfl, law_post (f := Try.f24) (s := Rows.lineRaysSpec) (tb := 4) laidOut typed' rfl (by kernel_rfl) Try.underlying4 hW' ⟨rfl, rfl, rfl⟩ hb⟩

theorem k0 : (Rows.lineRaysRow.wf (OpenSpec.ofChange Rows.lineRaysSpec)) = true := by kernel_rfl
theorem k3 : (Try.f24.params.all (Try.prog.readableRec ·)) = true := by kernel_rfl
theorem k4 : (namedTie Try.prog Rows.lineRaysRow.named Rows.lineRaysSpec.vars) = true := by kernel_rfl
theorem k5 : (Rows.lineRaysRow.stops == []) = true := by kernel_rfl
theorem k7 : (Rows.lineRaysRow.knobs == []) = true := by kernel_rfl
theorem k9 : (Rows.lineRaysRow.inPlace == Try.prog.inPlace 24) = true := by kernel_rfl
theorem k10 : (Rows.lineRaysRow.unfollowed == Try.prog.unfollowed 24) = true := by kernel_rfl
theorem k11 : (Rows.lineRaysRow.recurses == Try.prog.recurses 24) = true := by kernel_rfl
theorem k12 : (Rows.lineRaysRow.named == Try.prog.varsNamed 24) = true := by kernel_rfl
theorem k13 : (Rows.lineRaysRow.maps == (Try.f24.params.toList ++ Rows.lineRaysSpec.plain.varTypes Try.prog).any (Try.prog.mapsRec ·)) = true := by kernel_rfl
theorem k14 : (Rows.lineRaysRow.ifaces == (Try.f24.params.toList ++ Rows.lineRaysSpec.plain.varTypes Try.prog).any (Try.prog.ifacesRec ·)) = true := by kernel_rfl
theorem k15 : (Rows.lineRaysRow.mapsOut == Try.prog.mapsAmong Try.f24.resultTypes.toList) = true := by kernel_rfl
theorem k16 : (Rows.lineRaysRow.loops == (Try.f24.params.toList ++ Rows.lineRaysSpec.plain.varTypes Try.prog).any (Try.prog.loopsFrom ·)) = true := by kernel_rfl
theorem k17 : (Rows.lineRaysRow.wideKeys == (Try.f24.params.toList ++ Rows.lineRaysSpec.plain.varTypes Try.prog ++ Try.f24.resultTypes.toList).any (Try.prog.wideKeysFrom ·)) = true := by kernel_rfl
theorem k18 : (Rows.lineRaysSpec.vars.all (Try.prog.varReadable ·)) = true := by kernel_rfl
theorem k19 : (Try.f24.resultTypes.all (fun t => Try.prog.readableRec t && decide (t < Try.prog.types.size))) = true := by kernel_rfl
theorem k20 : (Rows.lineRaysRow.ifacesOut == Try.f24.resultTypes.toList.any (Try.prog.ifacesRec ·)) = true := by kernel_rfl
theorem k21 : (Rows.lineRaysRow.loopsOut == Try.f24.resultTypes.toList.any (Try.prog.loopsFrom ·)) = true := by kernel_rfl
theorem k22 : (Rows.lineRaysRow.plainKeys == Try.prog.plainKeys) = true := by kernel_rfl
theorem k23 : (Rows.lineRaysRow.shortTexts.isNone) = true := by kernel_rfl
theorem k26 : (Rows.lineRaysRow.lifted == Try.prog.liftsFinal) = true := by rw [pf_lifts]; rfl
theorem k27 : (Try.prog.make == some Rows.lineRaysRow.make) = true := by rw [pf_make]; rfl
theorem k28 : (Rows.lineRaysRow.kinds == (if Rows.lineRaysRow.domain.isEmpty then [] else Try.f24.params.toList.map fun t => match Try.prog.underlying t with | some (.int k) => some k | _ => none)) = true := by kernel_rfl
theorem k29 : (Rows.lineRaysRow.pinned == Rows.lineRaysRow.pinnedBy) = true := by kernel_rfl
theorem k30 : (Rows.lineRaysRow.veiled == (Try.f24.params.toList ++ Rows.lineRaysSpec.plain.varTypes Try.prog ++ Try.f24.resultTypes.toList).any (Try.prog.veiledRec ·)) = true := by kernel_rfl
theorem k31 : (Rows.lineRaysRow.veiledFits Try.prog Try.f24.params.toList (Try.f24.params.toList ++ Rows.lineRaysSpec.plain.varTypes Try.prog ++ Try.f24.resultTypes.toList)) = true := by kernel_rfl
set_option maxRecDepth 100000 in
theorem closed : joinedFacts Try.prog 24 Try.f24 Rows.lineRaysSpec Rows.lineRaysRow = true := (band (band (band (band (band (band (band (band (band (band (band (band (band (band (band (band (band (band (band (band (band (band (band (band (band (band (band (band (band (band (band k0 pf_laid) pf_maps) k3) k4) k5) pf_stops) k7) pf_knobs) k9) k10) k11) k12) k13) k14) k15) k16) k17) k18) k19) k20) k21) k22) k23) pf_heard) pf_enter) k26) k27) k28) k29) k30) k31)
theorem byName : Try.prog.funcNamed Rows.lineRaysRow.func = some 24 := by kernel_rfl
theorem inst : Try.f24.isInstance Try.prog Rows.lineRaysRow.origin Rows.lineRaysRow.targs := of_decide_eq_true (by kernel_rfl)
theorem over : Rows.lineRaysRow.holds Try.pinned (OpenSpec.ofChange Rows.lineRaysSpec) :=
  OpenClaim.holds_of_wide 24 Try.f24 rfl rfl rfl rfl rfl rfl rfl ⟨rfl, rfl, rfl, rfl, rfl⟩ rfl rfl rfl rfl rfl byName Try.func24 closed
    inst (by unfold Func.isWrapper; rw [if_neg (of_decide_eq_false (by kernel_rfl))]; exact ⟨rfl, rfl⟩)
    (fun os started H enc _ => lifted os started H enc)

/-- The given statement. -/
theorem proved : Rows.LineRaysSaid := over
end Go.Proofs.Ytijdehdghgmccaa.lineRays

