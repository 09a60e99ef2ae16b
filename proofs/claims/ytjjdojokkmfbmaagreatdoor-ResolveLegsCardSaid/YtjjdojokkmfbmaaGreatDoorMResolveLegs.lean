/-
  The walk of the law: Resolve and the reference.
-/
import Derived.Test.YtjjdojokkmfbmaaGreatDoorMAwake25
import Derived.Test.YtjjdojokkmfbmaaGreatDoorMEnIn
import Derived.Test.YtjjdojokkmfbmaaGreatDoorMFixed
import Derived.Test.YtjjdojokkmfbmaaGreatDoorMFrame
import Derived.Test.YtjjdojokkmfbmaaGreatDoorMLaid25
import Derived.Test.YtjjdojokkmfbmaaGreatDoorMMem
import Derived.Test.YtjjdojokkmfbmaaGreatDoorMRefF
import Derived.Test.YtjjdojokkmfbmaaGreatDoorMResD
import Derived.Test.YtjjdojokkmfbmaaGreatDoorMResF
import Derived.Test.YtjjdojokkmfbmaaGreatDoorMResP
import Derived.Test.YtjjdojokkmfbmaaGreatDoorMResP2
import Derived.Test.YtjjdojokkmfbmaaGreatDoorMWide
import Derived.Test.YtjjdojokkmfbmaaGreatDoorRows
import Derived.Test.YtjjdojokkmfbmaaGreatDoorCards
import Derived.Test.YtjjdojokkmfbmaaGreatDoorTie
import Derived.SevenTiedAt
import Derived.LaidMore
import Derived.LaidLaws
import Derived.LaidHandle
import Derived.JoinedOf
import Derived.WalkKit
import Derived.ProofKit
import Derived.OpenShut
import Derived.Below
import Derived.ChangeSame
import Derived.MakeChecks
import Derived.Laws.Rows
import Derived.Laws.Tables
import Derived.Laws.Cells
import Derived.Deep.Draws
import Derived.Deep.RegionHeld
import Derived.Deep.DeepCutAuto
import Derived.Lib.Bytealg
import Derived.Lib.Strings
import Derived.Laws.Strings3
import Derived.Deep.RegionHeld3
import Derived.Test.YtjjdojokkmfbmaaGreatDoorProg
import Derived.WalkSpells
import Derived.WalkLawsBesides
import Derived.Deep.QuietTactic
import Derived.BigQuiet
import Derived.Lib.ItoaNum
import Derived.Shelf.Small.Bits
import Derived.Shelf.Strconv.Itoa0
import Derived.Shelf.Bits.Mul64
import Derived.Shelf.Spec.BitsCarry
import Derived.Laws.BitsAllLaws
namespace Go.Proofs.YtjjdojokkmfbmaaGreatDoor
open Go.RowKit
set_option linter.unusedVariables false
set_option linter.unusedSimpArgs false
theorem usualAt_mem {w W : World} {L : List Box} (hM : Mem w W L) (h : usualAt w) : usualAt W := fun i n hi => hM.old (h i n hi)
set_option maxRecDepth 100000 in
set_option maxHeartbeats 8000000 in
theorem resolveLegs_walk {W : World} (s0 s1 s2 s3 s4 s5 s6 s7 : Int) (x y : En) (hs0 : I64 s0) (hs1 : I64 s1) (hs2 : I64 s2) (hs3 : I64 s3) (hs4 : I64 s4) (hs5 : I64 s5) (hs6 : I64 s6) (hs7 : I64 s7) (hx : EnX x) (hy : EnX y) (hL : laidMetH Tryz.prog laidL W) (w : World) (hw : w = W := by rfl) :
    Calls Tryz.prog 4 #[.agg #[.int .i64 s0, .int .i64 s1, .int .i64 s2, .int .i64 s3, .int .i64 s4, .int .i64 s5, .int .i64 s6, .int .i64 s7], .agg x.cells.toArray, .agg y.cells.toArray] w fun e w' => e = .returned (.bool true) ∧ Below w.heap.size w w' := by
  subst hw
  have hu := hide (uses_of hL)
  have hq := hide (usual_of hL)
  clear hL
  obtain ⟨⟨tk, tax, tay, tbx, tby, tcx, tcy, tr, tf, ts, tci, tco, tl, tn, tg⟩, E0, hT⟩ : ∃ T0 E0, resolveT s0 s1 s2 s3 x y s4 s5 s6 s7 = (T0, E0) := ⟨_, _, rfl⟩
  have RC : ∀ W, Hid (usesAt W) → Calls Tryz.prog 14 #[.agg #[.int .i64 s0, .int .i64 s1], .int .i64 s2, .int .i64 s3, .agg #[.bool x.gap, .int .u8 x.ty, .string x.fx, .string x.ct, .int .u8 x.tn, .bool x.ov, .int .i64 x.crs, .int .i64 x.dst, .int .i64 x.rad, .int .i64 x.tht, .int .i64 x.lo, .int .i64 x.hi, .int .i64 x.spd, .int .i64 x.rnp, .int .i64 x.ex, .int .i64 x.ey, .int .i64 x.mx, .int .i64 x.my, .int .u8 x.sec, .string x.via], .agg #[.bool y.gap, .int .u8 y.ty, .string y.fx, .string y.ct, .int .u8 y.tn, .bool y.ov, .int .i64 y.crs, .int .i64 y.dst, .int .i64 y.rad, .int .i64 y.tht, .int .i64 y.lo, .int .i64 y.hi, .int .i64 y.spd, .int .i64 y.rnp, .int .i64 y.ex, .int .i64 y.ey, .int .i64 y.mx, .int .i64 y.my, .int .u8 y.sec, .string y.via], .agg #[.int .i64 s4, .int .i64 s5, .int .i64 s6, .int .i64 s7]] W fun e w' => e = .returned (.tuple #[.agg #[.int .u8 tk, .int .i64 tax, .int .i64 tay, .int .i64 tbx, .int .i64 tby, .int .i64 tcx, .int .i64 tcy, .int .i64 tr, .int .i64 tf, .int .i64 ts, .int .i64 tci, .int .i64 tco, .int .i64 tl, .int .i64 tn, .bool tg], .int .i64 E0]) ∧ Below W.heap.size W w' := fun W hW => by
    have h := resolve_any s0 s1 s2 s3 x y s4 s5 s6 s7 hx.w hy.w hs3 hs2 W hW
    rw [hT] at h
    exact h
  have QC : ∀ W, Calls Tryz.prog 15 #[.agg #[.int .i64 s0, .int .i64 s1], .int .i64 s2, .int .i64 s3, .agg #[.bool x.gap, .int .u8 x.ty, .string x.fx, .string x.ct, .int .u8 x.tn, .bool x.ov, .int .i64 x.crs, .int .i64 x.dst, .int .i64 x.rad, .int .i64 x.tht, .int .i64 x.lo, .int .i64 x.hi, .int .i64 x.spd, .int .i64 x.rnp, .int .i64 x.ex, .int .i64 x.ey, .int .i64 x.mx, .int .i64 x.my, .int .u8 x.sec, .string x.via], .agg #[.bool y.gap, .int .u8 y.ty, .string y.fx, .string y.ct, .int .u8 y.tn, .bool y.ov, .int .i64 y.crs, .int .i64 y.dst, .int .i64 y.rad, .int .i64 y.tht, .int .i64 y.lo, .int .i64 y.hi, .int .i64 y.spd, .int .i64 y.rnp, .int .i64 y.ex, .int .i64 y.ey, .int .i64 y.mx, .int .i64 y.my, .int .u8 y.sec, .string y.via], .agg #[.int .i64 s4, .int .i64 s5, .int .i64 s6, .int .i64 s7]] W fun e w' => e = .returned (.tuple #[.agg #[.int .u8 tk, .int .i64 tax, .int .i64 tay, .int .i64 tbx, .int .i64 tby, .int .i64 tcx, .int .i64 tcy, .int .i64 tr, .int .i64 tf, .int .i64 ts, .int .i64 tci, .int .i64 tco, .int .i64 tl, .int .i64 tn, .bool tg], .int .i64 E0]) ∧ Below W.heap.size W w' := fun W => by
    have h := qresolve_any s0 s1 s2 s3 x y s4 s5 s6 s7 hx.w hy.w hs3 hs2 W
    rw [hT] at h
    exact h
  clear hT
  have hM := mem_nil w
  go_enter Tryz.func4, Tryz.ntmps4
  go_wp2_with (first
      | (go_at_call 11; (with_reducible refine (awake25_any _ (hide (usesAt_mem hM hu.out)) (hide (usualAt_mem hM hq.out))).mono ?_); rintro e W1 ⟨rfl, hb⟩; replace hM := mem_below hM hb; clear hb)
      | (go_at_call 14; (with_reducible refine (RC _ (hide (usesAt_mem hM hu.out))).mono ?_); rintro e W1 ⟨rfl, hb⟩; replace hM := mem_below hM hb; clear hb)
      | (go_at_call 15; (with_reducible refine (QC _).mono ?_); rintro e W1 ⟨rfl, hb⟩; replace hM := mem_below hM hb; clear hb)
      | ((with_reducible refine at_ldx ?_); refine' mg_load1 hM rfl rfl ?_ ?_ ?_ ?_ ?_; rotate_left 3; (· first | exact rfl | (go_simp; done)); (· repeat constructor); (· exact scT rfl); (· exact rfl))
      | ((with_reducible refine at_ldx ?_); refine' mg_load hM rfl rfl ?_ ?_ ?_ ?_ ?_ ?_; rotate_left 4; (· first | exact rfl | (go_simp; done)); (· repeat constructor); (· exact agT rfl); (· exact szT rfl); (· repeat constructor))
      | ((with_reducible refine at_stx ?_); refine' ms_store hM rfl rfl rfl ?_ ?_ ?_ ?_ ?_ ?_ ?_ ?_; rotate_left 6; (· constructor); (· repeat constructor); (· repeat constructor); (· repeat constructor); (· exact szT rfl); (· rfl); (· exact onecells rfl); (clear hM; intro W hM))
      | ((with_reducible refine at_bxx ?_); refine' mp_box hM rfl rfl ?_ ?_; rotate_left 1; (· constructor); (clear hM; intro g W hM))
      | ((with_reducible refine at_alx ?_); refine' mp_alloc hM rfl rfl ?_ rfl ?_; rotate_left 1; (· exact zoT rfl); (clear hM; intro g W hM)))
  all_goals
    go_ret
    exact ⟨rfl, hM.below⟩
end Go.Proofs.YtjjdojokkmfbmaaGreatDoor

/-
  ResolveLegs: the row's step: the given statement 'ResolveLegsSaid' out of the walk.
-/
namespace Go.Proofs.YtjjdojokkmfbmaaGreatDoor.resolveLegs
open Go.ChangeShapes Go.WideShapes Go.ChangeAt Go.RowKit
set_option linter.unusedVariables false

theorem own : ownKnob Tryz.prog.godebug = none := by kernel_rfl
theorem laidOut : laidOutB Tryz.prog = true := pf_laid
theorem typed : (Tryz.f4.params.toList.all fun t => Tryz.prog.readableRec t && decide (t < Tryz.prog.types.size)) = true := by kernel_rfl
theorem typed' : ∀ t ∈ Tryz.f4.params.toList, Tryz.prog.readableRec t = true ∧ t < Tryz.prog.types.size := by
  intro t ht
  have h := List.all_eq_true.1 typed t ht
  simpa using h
theorem ct31 : Tryz.prog.cellTypes Tryz.prog.depth 31 = some (List.replicate 8 2) := by kernel_rfl
theorem cn31 : Tryz.prog.cellsOf 31 = (List.replicate 8 2).length := by kernel_rfl
set_option maxRecDepth 100000 in
theorem lifted (os : Os) (started : os.Started) (H : Type) (enc : TypeId × Value → H) :
    ReturnsInHanded {} Tryz.checked os 4 .any (fun w args => (Rows.resolveLegsSpec.pre enc Tryz.prog Tryz.f4 Rows.resolveLegsRow.domain false w args ∧ laidMetH Tryz.prog laidL w) ∧ sizedMet enc Tryz.prog Tryz.f4 (OpenSpec.ofChange Rows.resolveLegsSpec) false w args) (Rows.resolveLegsSpec.post enc Tryz.prog Tryz.f4 false true false false) := by
  refine returnsInHanded_of_change_and (C := Tryz.checked) (X := fun w _ => laidMetH Tryz.prog laidL w) (fun _ _ _ hh h => h.of_heap hh) own started (by kernel_rfl) Tryz.func4
    (ChangeSpec.witness_shaped (enc := enc) (C := Tryz.checked) (os := os) (X := fun w _ => laidMetH Tryz.prog laidL w) false (World.doorLaid Tryz.prog 400 os) #[.agg #[.int .i64 0, .int .i64 0, .int .i64 0, .int .i64 0, .int .i64 0, .int .i64 0, .int .i64 0, .int .i64 0], .agg #[.bool false, .int .u8 0, .string ⟨#[]⟩, .string ⟨#[]⟩, .int .u8 0, .bool false, .int .i64 0, .int .i64 0, .int .i64 0, .int .i64 0, .int .i64 0, .int .i64 0, .int .i64 0, .int .i64 0, .int .i64 0, .int .i64 0, .int .i64 0, .int .i64 0, .int .u8 0, .string ⟨#[]⟩], .agg #[.bool false, .int .u8 0, .string ⟨#[]⟩, .string ⟨#[]⟩, .int .u8 0, .bool false, .int .i64 0, .int .i64 0, .int .i64 0, .int .i64 0, .int .i64 0, .int .i64 0, .int .i64 0, .int .i64 0, .int .i64 0, .int .i64 0, .int .i64 0, .int .i64 0, .int .u8 0, .string ⟨#[]⟩]] 8 rfl (World.shaped_of_RefB (by kernel_rfl) (by kernel_rfl)) (by kernel_rfl) (by kernel_rfl) (by kernel_rfl) (door_met os _)) ?_
  intro W base args ds gs before hval0 hW hcnd _ hL _
  have hval : ∀ (j : Nat) t v, Tryz.f4.params[j]? = some t → args[j]? = some v → Value.okWide Tryz.prog W .any base t v := hval0
  have hW' := hW
  obtain ⟨p, q, hA0, hV, rfl, hfz, hnd⟩ := hW
  have hlen := trodAll_length _ _ _ _ hA0
  rw [Tryz.params4] at hval hlen
  obtain ⟨v0, v1, v2, rfl⟩ := arr3 hlen.1
  obtain ⟨d0, d1, d2, rfl⟩ := list3 hlen.2
  obtain ⟨ls, rfl, es, hls⟩ := ok_ints (Or.inl ⟨_, Tryz.underlying31⟩) ct31 cn31 (fun u hu => by rw [List.eq_of_mem_replicate hu]; exact Tryz.underlying2) (hval 0 31 v0 rfl rfl)
  obtain ⟨s0, s1, s2, s3, s4, s5, s6, s7, rfl⟩ := list8 (es.trans (by simp))
  have hs0 : I64 s0 := hls _ (by simp)
  have hs1 : I64 s1 := hls _ (by simp)
  have hs2 : I64 s2 := hls _ (by simp)
  have hs3 : I64 s3 := hls _ (by simp)
  have hs4 : I64 s4 := hls _ (by simp)
  have hs5 : I64 s5 := hls _ (by simp)
  have hs6 : I64 s6 := hls _ (by simp)
  have hs7 : I64 s7 := hls _ (by simp)
  obtain ⟨x, rfl, hx⟩ := en_of (hval 1 39 v1 rfl rfl)
  obtain ⟨y, rfl, hy⟩ := en_of (hval 2 39 v2 rfl rfl)
  refine (resolveLegs_walk s0 s1 s2 s3 s4 s5 s6 s7 x y hs0 hs1 hs2 hs3 hs4 hs5 hs6 hs7 hx hy hL W).mono fun e W' ⟨he, hb⟩ => ?_
  subst he
  exact ⟨_, rfl, law_post (f := Tryz.f4) (s := Rows.resolveLegsSpec) (tb := 4) laidOut typed' rfl (by kernel_rfl) Tryz.underlying4 hW' ⟨rfl, rfl, rfl⟩ hb⟩

theorem k0 : (Rows.resolveLegsRow.wf (OpenSpec.ofChange Rows.resolveLegsSpec)) = true := by kernel_rfl
theorem k3 : (Tryz.f4.params.all (Tryz.prog.readableRec ·)) = true := by kernel_rfl
theorem k4 : (namedTie Tryz.prog Rows.resolveLegsRow.named Rows.resolveLegsSpec.vars) = true := by kernel_rfl
theorem k5 : (Rows.resolveLegsRow.stops == []) = true := by kernel_rfl
theorem k7 : (Rows.resolveLegsRow.knobs == []) = true := by kernel_rfl
theorem k9 : (Rows.resolveLegsRow.inPlace == Tryz.prog.inPlace 4) = true := by kernel_rfl
theorem k10 : (Rows.resolveLegsRow.unfollowed == Tryz.prog.unfollowed 4) = true := by kernel_rfl
theorem k11 : (Rows.resolveLegsRow.recurses == Tryz.prog.recurses 4) = true := by kernel_rfl
theorem k12 : (Rows.resolveLegsRow.named == Tryz.prog.varsNamed 4) = true := by kernel_rfl
theorem k13 : (Rows.resolveLegsRow.maps == (Tryz.f4.params.toList ++ Rows.resolveLegsSpec.plain.varTypes Tryz.prog).any (Tryz.prog.mapsRec ·)) = true := by kernel_rfl
theorem k14 : (Rows.resolveLegsRow.ifaces == (Tryz.f4.params.toList ++ Rows.resolveLegsSpec.plain.varTypes Tryz.prog).any (Tryz.prog.ifacesRec ·)) = true := by kernel_rfl
theorem k15 : (Rows.resolveLegsRow.mapsOut == Tryz.prog.mapsAmong Tryz.f4.resultTypes.toList) = true := by kernel_rfl
theorem k16 : (Rows.resolveLegsRow.loops == (Tryz.f4.params.toList ++ Rows.resolveLegsSpec.plain.varTypes Tryz.prog).any (Tryz.prog.loopsFrom ·)) = true := by kernel_rfl
theorem k17 : (Rows.resolveLegsRow.wideKeys == (Tryz.f4.params.toList ++ Rows.resolveLegsSpec.plain.varTypes Tryz.prog ++ Tryz.f4.resultTypes.toList).any (Tryz.prog.wideKeysFrom ·)) = true := by kernel_rfl
theorem k18 : (Rows.resolveLegsSpec.vars.all (Tryz.prog.varReadable ·)) = true := by kernel_rfl
theorem k19 : (Tryz.f4.resultTypes.all (fun t => Tryz.prog.readableRec t && decide (t < Tryz.prog.types.size))) = true := by kernel_rfl
theorem k20 : (Rows.resolveLegsRow.ifacesOut == Tryz.f4.resultTypes.toList.any (Tryz.prog.ifacesRec ·)) = true := by kernel_rfl
theorem k21 : (Rows.resolveLegsRow.loopsOut == Tryz.f4.resultTypes.toList.any (Tryz.prog.loopsFrom ·)) = true := by kernel_rfl
theorem k22 : (Rows.resolveLegsRow.plainKeys == Tryz.prog.plainKeys) = true := by kernel_rfl
theorem k23 : (Rows.resolveLegsRow.shortTexts.isNone) = true := by kernel_rfl
theorem k26 : (Rows.resolveLegsRow.lifted == Tryz.prog.liftsFinal) = true := by rw [pf_lifts]; rfl
theorem k27 : (Tryz.prog.make == some Rows.resolveLegsRow.make) = true := by rw [pf_make]; rfl
theorem k28 : (Rows.resolveLegsRow.kinds == (if Rows.resolveLegsRow.domain.isEmpty then [] else Tryz.f4.params.toList.map fun t => match Tryz.prog.underlying t with | some (.int k) => some k | _ => none)) = true := by kernel_rfl
theorem k29 : (Rows.resolveLegsRow.pinned == Rows.resolveLegsRow.pinnedBy) = true := by kernel_rfl
theorem k30 : (Rows.resolveLegsRow.veiled == (Tryz.f4.params.toList ++ Rows.resolveLegsSpec.plain.varTypes Tryz.prog ++ Tryz.f4.resultTypes.toList).any (Tryz.prog.veiledRec ·)) = true := by kernel_rfl
theorem k31 : (Rows.resolveLegsRow.veiledFits Tryz.prog Tryz.f4.params.toList (Tryz.f4.params.toList ++ Rows.resolveLegsSpec.plain.varTypes Tryz.prog ++ Tryz.f4.resultTypes.toList)) = true := by kernel_rfl
set_option maxRecDepth 100000 in
theorem closed : joinedFacts Tryz.prog 4 Tryz.f4 Rows.resolveLegsSpec Rows.resolveLegsRow = true := (band (band (band (band (band (band (band (band (band (band (band (band (band (band (band (band (band (band (band (band (band (band (band (band (band (band (band (band (band (band (band k0 pf_laid) pf_maps) k3) k4) k5) pf_stops) k7) pf_knobs) k9) k10) k11) k12) k13) k14) k15) k16) k17) k18) k19) k20) k21) k22) k23) pf_heard) pf_enter) k26) k27) k28) k29) k30) k31)
theorem byName : Tryz.prog.funcNamed Rows.resolveLegsRow.func = some 4 := by kernel_rfl
theorem inst : Tryz.f4.isInstance Tryz.prog Rows.resolveLegsRow.origin Rows.resolveLegsRow.targs := of_decide_eq_true (by kernel_rfl)
theorem over : Rows.resolveLegsRow.holds Tryz.pinned (OpenSpec.ofChange Rows.resolveLegsSpec) :=
  OpenClaim.holds_of_wide 4 Tryz.f4 rfl rfl rfl rfl rfl rfl rfl ⟨rfl, rfl, rfl, rfl, rfl⟩ rfl rfl rfl rfl rfl byName Tryz.func4 closed
    inst (by unfold Func.isWrapper; rw [if_neg (of_decide_eq_false (by kernel_rfl))]; exact ⟨rfl, rfl⟩)
    (fun os started H enc _ => lifted os started H enc)

/-- The given statement: the tied card. -/
theorem proved : Rows.ResolveLegsCardSaid :=
  Claim7.holds_tied_plain_at .later [] [.data, .data] true Rows.resolveLegsCard.stood.harness false
    over (fun _ h => by cases h) (by kernel_rfl) (fun _ h => by cases h) resolveLegs_row_tie rfl ⟨rfl, rfl⟩ (by kernel_rfl) rfl
    (fun f fn hf hfn => by
      obtain rfl : f = 4 := Option.some.inj ((show Tryz.prog.funcNamed "flightdeck/flightdecklaw25.ResolveLegs" = some 4 by kernel_rfl).symm.trans hf) |>.symm
      obtain rfl : fn = Tryz.f4 := (Option.some.inj (Tryz.func4.symm.trans hfn)).symm
      exact ⟨by kernel_rfl, fun j t ht => by
        have hm : t ∈ Tryz.f4.params.toList := by simpa using Array.mem_of_getElem? ht
        have hall : (Tryz.f4.params.toList.all fun u => !Tryz.prog.wantsStandIn u) = true := by kernel_rfl
        exact (show Tryz.prog.wantsStandIn t = false by simpa using List.all_eq_true.1 hall t hm)⟩)
    (by kernel_rfl)
end Go.Proofs.YtjjdojokkmfbmaaGreatDoor.resolveLegs
