/-
  The walk of the law: resolve.Check and the reference.
-/
import Derived.Test.YtjjdojokkmfbmaaGreatDoorMAwake25
import Derived.Test.YtjjdojokkmfbmaaGreatDoorMFixed
import Derived.Test.YtjjdojokkmfbmaaGreatDoorMFrame
import Derived.Test.YtjjdojokkmfbmaaGreatDoorMLaid25
import Derived.Test.YtjjdojokkmfbmaaGreatDoorMMem
import Derived.Test.YtjjdojokkmfbmaaGreatDoorMResD
import Derived.Test.YtjjdojokkmfbmaaGreatDoorMResP
import Derived.Test.YtjjdojokkmfbmaaGreatDoorMWide
import Derived.Test.YtjjdojokkmfbmaaGreatDoorRows
import Derived.Test.YtjjdojokkmfbmaaGreatDoorCards
import Derived.Test.YtjjdojokkmfbmaaGreatDoorTie
import Derived.SevenTiedAt
import Derived.LaidMore
import Derived.LaidLaws
import Derived.LaidHandle
import Derived.JoinedOf
import Derived.WalkKit
import Derived.ProofKit
import Derived.OpenShut
import Derived.Below
import Derived.ChangeSame
import Derived.MakeChecks
import Derived.Laws.Rows
import Derived.Laws.Tables
import Derived.Laws.Cells
import Derived.Deep.Draws
import Derived.Deep.RegionHeld
import Derived.Deep.DeepCutAuto
import Derived.Lib.Bytealg
import Derived.Lib.Strings
import Derived.Laws.Strings3
import Derived.Deep.RegionHeld3
import Derived.Test.YtjjdojokkmfbmaaGreatDoorProg
import Derived.WalkSpells
import Derived.WalkLawsBesides
import Derived.Deep.QuietTactic
import Derived.BigQuiet
import Derived.Lib.ItoaNum
import Derived.Shelf.Small.Bits
import Derived.Shelf.Strconv.Itoa0
import Derived.Shelf.Bits.Mul64
import Derived.Shelf.Spec.BitsCarry
import Derived.Laws.BitsAllLaws
namespace Go.Proofs.YtjjdojokkmfbmaaGreatDoor
open Go.RowKit
set_option linter.unusedVariables false
set_option linter.unusedSimpArgs false
theorem usualAt_mem {w W : World} {L : List Box} (hM : Mem w W L) (h : usualAt w) : usualAt W := fun i n hi => hM.old (h i n hi)
set_option maxRecDepth 100000 in
set_option maxHeartbeats 8000000 in
theorem ropts_any (o0 o1 o2 o3 : Int) (w : World) :
    Calls Tryz.prog 13 #[.agg #[.int .i64 o0, .int .i64 o1, .int .i64 o2, .int .i64 o3]] w fun e w' => e = .returned (.int .i64 (optE o0 o1 o2 o3)) ∧ Below w.heap.size w w' := by
  have hM := mem_nil w
  go_enter Tryz.func13, Tryz.ntmps13
  go_wp2_with (first
    | ((with_reducible refine at_ldx ?_); refine' mg_load1 hM rfl rfl ?_ ?_ ?_ ?_ ?_; rotate_left 3; (· first | exact rfl | (go_simp; done)); (· repeat constructor); (· exact scT rfl); (· exact rfl))
    | ((with_reducible refine at_ldx ?_); refine' mg_load hM rfl rfl ?_ ?_ ?_ ?_ ?_ ?_; rotate_left 4; (· first | exact rfl | (go_simp; done)); (· repeat constructor); (· exact agT rfl); (· exact szT rfl); (· repeat constructor))
    | ((with_reducible refine at_stx ?_); refine' ms_store hM rfl rfl rfl ?_ ?_ ?_ ?_ ?_ ?_ ?_ ?_; rotate_left 6; (· constructor); (· repeat constructor); (· repeat constructor); (· repeat constructor); (· exact szT rfl); (· rfl); (· exact onecells rfl); (clear hM; intro W hM))
    | ((with_reducible refine at_bxx ?_); refine' mp_box hM rfl rfl ?_ ?_; rotate_left 1; (· constructor); (clear hM; intro g W hM))
    | ((with_reducible refine at_alx ?_); refine' mp_alloc hM rfl rfl ?_ rfl ?_; rotate_left 1; (· exact zoT rfl); (clear hM; intro g W hM)))
  all_goals
    go_ret
    exact ⟨ret_int (by unfold optE; first | rw [if_pos (by omega)] | rw [if_neg (by omega)]), hM.below⟩
set_option maxRecDepth 100000 in
set_option maxHeartbeats 8000000 in
theorem resolveChecks_walk {W : World} (o0 o1 o2 o3 : Int) (h0 : I64 o0) (h1 : I64 o1) (h2 : I64 o2) (h3 : I64 o3) (hL : laidMetH Tryz.prog laidL W) (w : World) (hw : w = W := by rfl) :
    Calls Tryz.prog 3 #[.agg #[.int .i64 o0, .int .i64 o1, .int .i64 o2, .int .i64 o3]] w fun e w' => e = .returned (.bool true) ∧ Below w.heap.size w w' := by
  subst hw
  have hu := hide (uses_of hL)
  have hq := hide (usual_of hL)
  clear hL
  have hM := mem_nil w
  go_enter Tryz.func3, Tryz.ntmps3
  go_upto_region 1 with (first
      | ((with_reducible refine at_ldx ?_); refine' mg_load1 hM rfl rfl ?_ ?_ ?_ ?_ ?_; rotate_left 3; (· first | exact rfl | (go_simp; done)); (· repeat constructor); (· exact scT rfl); (· exact rfl))
      | ((with_reducible refine at_ldx ?_); refine' mg_load hM rfl rfl ?_ ?_ ?_ ?_ ?_ ?_; rotate_left 4; (· first | exact rfl | (go_simp; done)); (· repeat constructor); (· exact agT rfl); (· exact szT rfl); (· repeat constructor))
      | ((with_reducible refine at_stx ?_); refine' ms_store hM rfl rfl rfl ?_ ?_ ?_ ?_ ?_ ?_ ?_ ?_; rotate_left 6; (· constructor); (· repeat constructor); (· repeat constructor); (· repeat constructor); (· exact szT rfl); (· rfl); (· exact onecells rfl); (clear hM; intro W hM))
      | ((with_reducible refine at_bxx ?_); refine' mp_box hM rfl rfl ?_ ?_; rotate_left 1; (· constructor); (clear hM; intro g W hM))
      | ((with_reducible refine at_alx ?_); refine' mp_alloc hM rfl rfl ?_ rfl ?_; rotate_left 1; (· exact zoT rfl); (clear hM; intro g W hM)))
  refine region_all hM (by kernel_rfl) ?_; (clear hM; intro W hM hK)
  refine tg_call (i := 0) (nthQ rfl) (by kernel_rfl) rfl (fun K' hK' => ?_)
  go_wp2_with (first
    | (go_at_call 11; (with_reducible refine (awake25_any _ (hide (usesAt_mem hM hu.out)) (hide (usualAt_mem hM hq.out))).mono ?_); rintro e W1 ⟨rfl, hb⟩; replace hM := mem_below hM hb; clear hb)
    | (go_at_call 12; (with_reducible refine (opts_any _ _ _ _ _).mono ?_); rintro e W1 ⟨rfl, hb⟩; replace hM := mem_below hM hb; clear hb)
    | (go_at_call 13; (with_reducible refine (ropts_any _ _ _ _ _).mono ?_); rintro e W1 ⟨rfl, hb⟩; replace hM := mem_below hM hb; clear hb))
  refine hK'.out _ _ (held_of hM hK) ?_
  clear hK' K'
  try simp only [Act.put, List.setIfInBounds_toArray, List.set_cons_zero, List.set_cons_succ]
  refine' tg_pure hM hK (i := 1) (nthQ rfl) (by kernel_rfl) (by kernel_rfl) (by kernel_rfl) rfl ?_ (fun _ _ _ _ h => h) ?_; rotate_left 1; (· (intro W0; go_simp <;> with_reducible rfl))
  try simp only [Act.put, List.setIfInBounds_toArray, List.set_cons_zero, List.set_cons_succ]
  first
    | (refine' tg_load1 hM hK (i := 2) (nthQ rfl) (by kernel_rfl) (by kernel_rfl) (by kernel_rfl) rfl rfl rfl ?_ ?_ ?_ (fun _ _ _ _ h => h) ?_; rotate_left 3; (· repeat constructor); (· exact scT rfl); (· exact rfl))
    | (refine' tg_load hM hK (i := 2) (nthQ rfl) (by kernel_rfl) (by kernel_rfl) (by kernel_rfl) rfl rfl rfl ?_ ?_ ?_ ?_ (fun _ _ _ _ h => h) ?_; rotate_left 4; (· repeat constructor); (· exact agT rfl); (· exact szT rfl); (· repeat constructor))
    | (refine' tg_skip hM hK (i := 2) (nthQ rfl) (by kernel_rfl) (by kernel_rfl) (by kernel_rfl) rfl (fun _ _ _ _ h => h) ?_)
  try simp only [Act.put, List.setIfInBounds_toArray, List.set_cons_zero, List.set_cons_succ]
  first
    | (refine' tg_load1 hM hK (i := 4) (nthQ rfl) (by kernel_rfl) (by kernel_rfl) (by kernel_rfl) rfl rfl rfl ?_ ?_ ?_ (fun _ _ _ _ h => h) ?_; rotate_left 3; (· repeat constructor); (· exact scT rfl); (· exact rfl))
    | (refine' tg_load hM hK (i := 4) (nthQ rfl) (by kernel_rfl) (by kernel_rfl) (by kernel_rfl) rfl rfl rfl ?_ ?_ ?_ ?_ (fun _ _ _ _ h => h) ?_; rotate_left 4; (· repeat constructor); (· exact agT rfl); (· exact szT rfl); (· repeat constructor))
    | (refine' tg_skip hM hK (i := 4) (nthQ rfl) (by kernel_rfl) (by kernel_rfl) (by kernel_rfl) rfl (fun _ _ _ _ h => h) ?_)
  try simp only [Act.put, List.setIfInBounds_toArray, List.set_cons_zero, List.set_cons_succ]
  first
    | (refine tg_skipc (i := 3) hM hK (nthQ rfl) (by kernel_rfl) rfl ?_)
    | (refine tg_call (i := 3) (nthQ rfl) (by kernel_rfl) rfl (fun K' hK' => ?_)
       go_wp2_with (first
         | (go_at_call 11; (with_reducible refine (awake25_any _ (hide (usesAt_mem hM hu.out)) (hide (usualAt_mem hM hq.out))).mono ?_); rintro e W1 ⟨rfl, hb⟩; replace hM := mem_below hM hb; clear hb)
         | (go_at_call 12; (with_reducible refine (opts_any _ _ _ _ _).mono ?_); rintro e W1 ⟨rfl, hb⟩; replace hM := mem_below hM hb; clear hb)
         | (go_at_call 13; (with_reducible refine (ropts_any _ _ _ _ _).mono ?_); rintro e W1 ⟨rfl, hb⟩; replace hM := mem_below hM hb; clear hb))
       refine hK'.out _ _ (held_of hM hK) ?_
       clear hK' K')
  try simp only [Act.put, List.setIfInBounds_toArray, List.set_cons_zero, List.set_cons_succ]
  first
    | (refine tg_skipc (i := 5) hM hK (nthQ rfl) (by kernel_rfl) rfl ?_)
    | (refine tg_call (i := 5) (nthQ rfl) (by kernel_rfl) rfl (fun K' hK' => ?_)
       go_wp2_with (first
         | (go_at_call 11; (with_reducible refine (awake25_any _ (hide (usesAt_mem hM hu.out)) (hide (usualAt_mem hM hq.out))).mono ?_); rintro e W1 ⟨rfl, hb⟩; replace hM := mem_below hM hb; clear hb)
         | (go_at_call 12; (with_reducible refine (opts_any _ _ _ _ _).mono ?_); rintro e W1 ⟨rfl, hb⟩; replace hM := mem_below hM hb; clear hb)
         | (go_at_call 13; (with_reducible refine (ropts_any _ _ _ _ _).mono ?_); rintro e W1 ⟨rfl, hb⟩; replace hM := mem_below hM hb; clear hb))
       refine hK'.out _ _ (held_of hM hK) ?_
       clear hK' K')
  try simp only [Act.put, List.setIfInBounds_toArray, List.set_cons_zero, List.set_cons_succ]
  first
    | (refine' tg_pure hM hK (i := 6) (nthQ rfl) (by kernel_rfl) (by kernel_rfl) (by kernel_rfl) rfl ?_ (fun _ _ _ _ h => h) ?_; rotate_left 1; (· (intro W0; go_simp <;> with_reducible rfl)))
    | (refine' tg_skip hM hK (i := 6) (nthQ rfl) (by kernel_rfl) (by kernel_rfl) (by kernel_rfl) rfl (fun _ _ _ _ h => h) ?_)
  try simp only [Act.put, List.setIfInBounds_toArray, List.set_cons_zero, List.set_cons_succ]
  refine' tg_pure hM hK (i := 7) (nthQ rfl) (by kernel_rfl) (by kernel_rfl) (by kernel_rfl) rfl ?_ (fun _ _ _ _ h => h) ?_; rotate_left 1; (· (intro W0; go_simp <;> with_reducible rfl))
  try simp only [Act.put, List.setIfInBounds_toArray, List.set_cons_zero, List.set_cons_succ]
  refine' tg_pure hM hK (i := 8) (nthQ rfl) (by kernel_rfl) (by kernel_rfl) (by kernel_rfl) rfl ?_ (fun _ _ _ _ h => h) ?_; rotate_left 1; (· (intro W0; go_simp <;> with_reducible rfl))
  try simp only [Act.put, List.setIfInBounds_toArray, List.set_cons_zero, List.set_cons_succ]
  refine tk_done (by kernel_rfl) ?_
  go_wp2_with (first
      | ((with_reducible refine at_ldx ?_); refine' mg_load1 hM rfl rfl ?_ ?_ ?_ ?_ ?_; rotate_left 3; (· first | exact rfl | (go_simp; done)); (· repeat constructor); (· exact scT rfl); (· exact rfl))
      | ((with_reducible refine at_ldx ?_); refine' mg_load hM rfl rfl ?_ ?_ ?_ ?_ ?_ ?_; rotate_left 4; (· first | exact rfl | (go_simp; done)); (· repeat constructor); (· exact agT rfl); (· exact szT rfl); (· repeat constructor))
      | ((with_reducible refine at_stx ?_); refine' ms_store hM rfl rfl rfl ?_ ?_ ?_ ?_ ?_ ?_ ?_ ?_; rotate_left 6; (· constructor); (· repeat constructor); (· repeat constructor); (· repeat constructor); (· exact szT rfl); (· rfl); (· exact onecells rfl); (clear hM; intro W hM))
      | ((with_reducible refine at_bxx ?_); refine' mp_box hM rfl rfl ?_ ?_; rotate_left 1; (· constructor); (clear hM; intro g W hM))
      | ((with_reducible refine at_alx ?_); refine' mp_alloc hM rfl rfl ?_ rfl ?_; rotate_left 1; (· exact zoT rfl); (clear hM; intro g W hM)))
  all_goals
    go_ret
    exact ⟨rfl, hM.below⟩
end Go.Proofs.YtjjdojokkmfbmaaGreatDoor

/-
  ResolveChecks: the row's step: the given statement 'ResolveChecksSaid' out of the walk.
-/
namespace Go.Proofs.YtjjdojokkmfbmaaGreatDoor.resolveChecks
open Go.ChangeShapes Go.WideShapes Go.ChangeAt Go.RowKit
set_option linter.unusedVariables false

theorem own : ownKnob Tryz.prog.godebug = none := by kernel_rfl
theorem laidOut : laidOutB Tryz.prog = true := pf_laid
theorem typed : (Tryz.f3.params.toList.all fun t => Tryz.prog.readableRec t && decide (t < Tryz.prog.types.size)) = true := by kernel_rfl
theorem typed' : ∀ t ∈ Tryz.f3.params.toList, Tryz.prog.readableRec t = true ∧ t < Tryz.prog.types.size := by
  intro t ht
  have h := List.all_eq_true.1 typed t ht
  simpa using h
theorem ct23 : Tryz.prog.cellTypes Tryz.prog.depth 23 = some (List.replicate 4 2) := by kernel_rfl
theorem cn23 : Tryz.prog.cellsOf 23 = (List.replicate 4 2).length := by kernel_rfl
set_option maxRecDepth 100000 in
theorem lifted (os : Os) (started : os.Started) (H : Type) (enc : TypeId × Value → H) :
    ReturnsInHanded {} Tryz.checked os 3 .any (fun w args => (Rows.resolveChecksSpec.pre enc Tryz.prog Tryz.f3 Rows.resolveChecksRow.domain false w args ∧ laidMetH Tryz.prog laidL w) ∧ sizedMet enc Tryz.prog Tryz.f3 (OpenSpec.ofChange Rows.resolveChecksSpec) false w args) (Rows.resolveChecksSpec.post enc Tryz.prog Tryz.f3 false true false false) := by
  refine returnsInHanded_of_change_and (C := Tryz.checked) (X := fun w _ => laidMetH Tryz.prog laidL w) (fun _ _ _ hh h => h.of_heap hh) own started (by kernel_rfl) Tryz.func3
    (ChangeSpec.witness_shaped (enc := enc) (C := Tryz.checked) (os := os) (X := fun w _ => laidMetH Tryz.prog laidL w) false (World.doorLaid Tryz.prog 400 os) #[.agg #[.int .i64 0, .int .i64 0, .int .i64 0, .int .i64 0]] 8 rfl (World.shaped_of_RefB (by kernel_rfl) (by kernel_rfl)) (by kernel_rfl) (by kernel_rfl) (by kernel_rfl) (door_met os _)) ?_
  intro W base args ds gs before hval0 hW hcnd _ hL _
  have hval : ∀ (j : Nat) t v, Tryz.f3.params[j]? = some t → args[j]? = some v → Value.okWide Tryz.prog W .any base t v := hval0
  have hW' := hW
  obtain ⟨p, q, hA0, hV, rfl, hfz, hnd⟩ := hW
  have hlen := trodAll_length _ _ _ _ hA0
  rw [Tryz.params3] at hval hlen
  obtain ⟨v0, rfl⟩ := arr1 hlen.1
  obtain ⟨d0, rfl⟩ := list1 hlen.2
  obtain ⟨lo, rfl, eo, hlo⟩ := ok_ints (Or.inl ⟨_, Tryz.underlying23⟩) ct23 cn23 (fun u hu => by rw [List.eq_of_mem_replicate hu]; exact Tryz.underlying2) (hval 0 23 v0 rfl rfl)
  obtain ⟨o0, o1, o2, o3, rfl⟩ := list4 (eo.trans (by simp))
  have ho0 : I64 o0 := hlo _ (by simp)
  have ho1 : I64 o1 := hlo _ (by simp)
  have ho2 : I64 o2 := hlo _ (by simp)
  have ho3 : I64 o3 := hlo _ (by simp)
  refine (resolveChecks_walk o0 o1 o2 o3 ho0 ho1 ho2 ho3 hL W).mono fun e W' ⟨he, hb⟩ => ?_
  subst he
  exact ⟨_, rfl, law_post (f := Tryz.f3) (s := Rows.resolveChecksSpec) (tb := 4) laidOut typed' rfl (by kernel_rfl) Tryz.underlying4 hW' ⟨rfl, rfl, rfl⟩ hb⟩

theorem k0 : (Rows.resolveChecksRow.wf (OpenSpec.ofChange Rows.resolveChecksSpec)) = true := by kernel_rfl
theorem k3 : (Tryz.f3.params.all (Tryz.prog.readableRec ·)) = true := by kernel_rfl
theorem k4 : (namedTie Tryz.prog Rows.resolveChecksRow.named Rows.resolveChecksSpec.vars) = true := by kernel_rfl
theorem k5 : (Rows.resolveChecksRow.stops == []) = true := by kernel_rfl
theorem k7 : (Rows.resolveChecksRow.knobs == []) = true := by kernel_rfl
theorem k9 : (Rows.resolveChecksRow.inPlace == Tryz.prog.inPlace 3) = true := by kernel_rfl
theorem k10 : (Rows.resolveChecksRow.unfollowed == Tryz.prog.unfollowed 3) = true := by kernel_rfl
theorem k11 : (Rows.resolveChecksRow.recurses == Tryz.prog.recurses 3) = true := by kernel_rfl
theorem k12 : (Rows.resolveChecksRow.named == Tryz.prog.varsNamed 3) = true := by kernel_rfl
theorem k13 : (Rows.resolveChecksRow.maps == (Tryz.f3.params.toList ++ Rows.resolveChecksSpec.plain.varTypes Tryz.prog).any (Tryz.prog.mapsRec ·)) = true := by kernel_rfl
theorem k14 : (Rows.resolveChecksRow.ifaces == (Tryz.f3.params.toList ++ Rows.resolveChecksSpec.plain.varTypes Tryz.prog).any (Tryz.prog.ifacesRec ·)) = true := by kernel_rfl
theorem k15 : (Rows.resolveChecksRow.mapsOut == Tryz.prog.mapsAmong Tryz.f3.resultTypes.toList) = true := by kernel_rfl
theorem k16 : (Rows.resolveChecksRow.loops == (Tryz.f3.params.toList ++ Rows.resolveChecksSpec.plain.varTypes Tryz.prog).any (Tryz.prog.loopsFrom ·)) = true := by kernel_rfl
theorem k17 : (Rows.resolveChecksRow.wideKeys == (Tryz.f3.params.toList ++ Rows.resolveChecksSpec.plain.varTypes Tryz.prog ++ Tryz.f3.resultTypes.toList).any (Tryz.prog.wideKeysFrom ·)) = true := by kernel_rfl
theorem k18 : (Rows.resolveChecksSpec.vars.all (Tryz.prog.varReadable ·)) = true := by kernel_rfl
theorem k19 : (Tryz.f3.resultTypes.all (fun t => Tryz.prog.readableRec t && decide (t < Tryz.prog.types.size))) = true := by kernel_rfl
theorem k20 : (Rows.resolveChecksRow.ifacesOut == Tryz.f3.resultTypes.toList.any (Tryz.prog.ifacesRec ·)) = true := by kernel_rfl
theorem k21 : (Rows.resolveChecksRow.loopsOut == Tryz.f3.resultTypes.toList.any (Tryz.prog.loopsFrom ·)) = true := by kernel_rfl
theorem k22 : (Rows.resolveChecksRow.plainKeys == Tryz.prog.plainKeys) = true := by kernel_rfl
theorem k23 : (Rows.resolveChecksRow.shortTexts.isNone) = true := by kernel_rfl
theorem k26 : (Rows.resolveChecksRow.lifted == Tryz.prog.liftsFinal) = true := by rw [pf_lifts]; rfl
theorem k27 : (Tryz.prog.make == some Rows.resolveChecksRow.make) = true := by rw [pf_make]; rfl
theorem k28 : (Rows.resolveChecksRow.kinds == (if Rows.resolveChecksRow.domain.isEmpty then [] else Tryz.f3.params.toList.map fun t => match Tryz.prog.underlying t with | some (.int k) => some k | _ => none)) = true := by kernel_rfl
theorem k29 : (Rows.resolveChecksRow.pinned == Rows.resolveChecksRow.pinnedBy) = true := by kernel_rfl
theorem k30 : (Rows.resolveChecksRow.veiled == (Tryz.f3.params.toList ++ Rows.resolveChecksSpec.plain.varTypes Tryz.prog ++ Tryz.f3.resultTypes.toList).any (Tryz.prog.veiledRec ·)) = true := by kernel_rfl
theorem k31 : (Rows.resolveChecksRow.veiledFits Tryz.prog Tryz.f3.params.toList (Tryz.f3.params.toList ++ Rows.resolveChecksSpec.plain.varTypes Tryz.prog ++ Tryz.f3.resultTypes.toList)) = true := by kernel_rfl
set_option maxRecDepth 100000 in
theorem closed : joinedFacts Tryz.prog 3 Tryz.f3 Rows.resolveChecksSpec Rows.resolveChecksRow = true := (band (band (band (band (band (band (band (band (band (band (band (band (band (band (band (band (band (band (band (band (band (band (band (band (band (band (band (band (band (band (band k0 pf_laid) pf_maps) k3) k4) k5) pf_stops) k7) pf_knobs) k9) k10) k11) k12) k13) k14) k15) k16) k17) k18) k19) k20) k21) k22) k23) pf_heard) pf_enter) k26) k27) k28) k29) k30) k31)
theorem byName : Tryz.prog.funcNamed Rows.resolveChecksRow.func = some 3 := by kernel_rfl
theorem inst : Tryz.f3.isInstance Tryz.prog Rows.resolveChecksRow.origin Rows.resolveChecksRow.targs := of_decide_eq_true (by kernel_rfl)
theorem over : Rows.resolveChecksRow.holds Tryz.pinned (OpenSpec.ofChange Rows.resolveChecksSpec) :=
  OpenClaim.holds_of_wide 3 Tryz.f3 rfl rfl rfl rfl rfl rfl rfl ⟨rfl, rfl, rfl, rfl, rfl⟩ rfl rfl rfl rfl rfl byName Tryz.func3 closed
    inst (by unfold Func.isWrapper; rw [if_neg (of_decide_eq_false (by kernel_rfl))]; exact ⟨rfl, rfl⟩)
    (fun os started H enc _ => lifted os started H enc)

/-- The given statement: the tied card. -/
theorem proved : Rows.ResolveChecksCardSaid :=
  Claim7.holds_tied_plain_at .later [] [.data, .data] true Rows.resolveChecksCard.stood.harness false
    over (fun _ h => by cases h) (by kernel_rfl) (fun _ h => by cases h) resolveChecks_row_tie rfl ⟨rfl, rfl⟩ (by kernel_rfl) rfl
    (fun f fn hf hfn => by
      obtain rfl : f = 3 := Option.some.inj ((show Tryz.prog.funcNamed "flightdeck/flightdecklaw25.ResolveChecks" = some 3 by kernel_rfl).symm.trans hf) |>.symm
      obtain rfl : fn = Tryz.f3 := (Option.some.inj (Tryz.func3.symm.trans hfn)).symm
      exact ⟨by kernel_rfl, fun j t ht => by
        have hm : t ∈ Tryz.f3.params.toList := by simpa using Array.mem_of_getElem? ht
        have hall : (Tryz.f3.params.toList.all fun u => !Tryz.prog.wantsStandIn u) = true := by kernel_rfl
        exact (show Tryz.prog.wantsStandIn t = false by simpa using List.all_eq_true.1 hall t hm)⟩)
    (by kernel_rfl)
end Go.Proofs.YtjjdojokkmfbmaaGreatDoor.resolveChecks
