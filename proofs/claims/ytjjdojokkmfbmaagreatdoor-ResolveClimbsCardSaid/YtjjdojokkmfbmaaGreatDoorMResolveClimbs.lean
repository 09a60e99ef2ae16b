/-
  The walk of the law: climbs.
-/
import Derived.Test.YtjjdojokkmfbmaaGreatDoorMAwake25
import Derived.Test.YtjjdojokkmfbmaaGreatDoorMEnIn
import Derived.Test.YtjjdojokkmfbmaaGreatDoorMFixed
import Derived.Test.YtjjdojokkmfbmaaGreatDoorMFrame
import Derived.Test.YtjjdojokkmfbmaaGreatDoorMLaid25
import Derived.Test.YtjjdojokkmfbmaaGreatDoorMLawRes
import Derived.Test.YtjjdojokkmfbmaaGreatDoorMMem
import Derived.Test.YtjjdojokkmfbmaaGreatDoorMResD
import Derived.Test.YtjjdojokkmfbmaaGreatDoorMResF
import Derived.Test.YtjjdojokkmfbmaaGreatDoorMResP
import Derived.Test.YtjjdojokkmfbmaaGreatDoorMResP2
import Derived.Test.YtjjdojokkmfbmaaGreatDoorMStrP
import Derived.Test.YtjjdojokkmfbmaaGreatDoorMWide
import Derived.Test.YtjjdojokkmfbmaaGreatDoorRows
import Derived.Test.YtjjdojokkmfbmaaGreatDoorCards
import Derived.Test.YtjjdojokkmfbmaaGreatDoorTie
import Derived.SevenTiedAt
import Derived.LaidMore
import Derived.LaidLaws
import Derived.LaidHandle
import Derived.JoinedOf
import Derived.WalkKit
import Derived.ProofKit
import Derived.OpenShut
import Derived.Below
import Derived.ChangeSame
import Derived.MakeChecks
import Derived.Laws.Rows
import Derived.Laws.Tables
import Derived.Laws.Cells
import Derived.Deep.Draws
import Derived.Deep.RegionHeld
import Derived.Deep.DeepCutAuto
import Derived.Lib.Bytealg
import Derived.Lib.Strings
import Derived.Laws.Strings3
import Derived.Deep.RegionHeld3
import Derived.Test.YtjjdojokkmfbmaaGreatDoorProg
import Derived.WalkSpells
import Derived.WalkLawsBesides
import Derived.Deep.QuietTactic
import Derived.BigQuiet
import Derived.Lib.ItoaNum
import Derived.Shelf.Small.Bits
import Derived.Shelf.Strconv.Itoa0
import Derived.Shelf.Bits.Mul64
import Derived.Shelf.Spec.BitsCarry
import Derived.Laws.BitsAllLaws
namespace Go.Proofs.YtjjdojokkmfbmaaGreatDoor
open Go.RowKit
set_option linter.unusedVariables false
set_option linter.unusedSimpArgs false
theorem usualAt_mem {w W : World} {L : List Box} (hM : Mem w W L) (h : usualAt w) : usualAt W := fun i n hi => hM.old (h i n hi)
def gapE : En := ⟨true, 0, ⟨#[]⟩, ⟨#[]⟩, 0, false, 0, 0, 0, 0, 0, 0, 0, 0, 0, 0, 0, 0, 0, ⟨#[]⟩⟩
theorem gapW : EnW gapE := ⟨⟨by decide, by decide, by decide, by decide⟩, by unfold I64; decide, by unfold I64; decide, by unfold I64; decide⟩
set_option maxRecDepth 100000 in
set_option maxHeartbeats 8000000 in
theorem resolveClimbs_walk {W : World} (s0 s1 s2 s3 s4 s5 s6 s7 : Int) (x : En) (hs0 : I64 s0) (hs1 : I64 s1) (hs2 : I64 s2) (hs3 : I64 s3) (hs4 : I64 s4) (hs5 : I64 s5) (hs6 : I64 s6) (hs7 : I64 s7) (hx : EnX x) (hL : laidMetH Tryz.prog laidL W) (w : World) (hw : w = W := by rfl) :
    Calls Tryz.prog 6 #[.agg #[.int .i64 s0, .int .i64 s1, .int .i64 s2, .int .i64 s3, .int .i64 s4, .int .i64 s5, .int .i64 s6, .int .i64 s7], .agg x.cells.toArray] w fun e w' => e = .returned (.bool true) ∧ Below w.heap.size w w' := by
  subst hw
  have hu := hide (uses_of hL)
  have hq := hide (usual_of hL)
  clear hL
  obtain ⟨⟨tk, tax, tay, tbx, tby, tcx, tcy, tr, tf, ts, tci, tco, tl, tn, tg⟩, E0, hT⟩ : ∃ T0 E0, resolveT s0 s1 s2 s3 x gapE s4 s5 s6 s7 = (T0, E0) := ⟨_, _, rfl⟩
  have RC : ∀ W, Hid (usesAt W) → Calls Tryz.prog 14 #[.agg #[.int .i64 s0, .int .i64 s1], .int .i64 s2, .int .i64 s3, .agg #[.bool x.gap, .int .u8 x.ty, .string x.fx, .string x.ct, .int .u8 x.tn, .bool x.ov, .int .i64 x.crs, .int .i64 x.dst, .int .i64 x.rad, .int .i64 x.tht, .int .i64 x.lo, .int .i64 x.hi, .int .i64 x.spd, .int .i64 x.rnp, .int .i64 x.ex, .int .i64 x.ey, .int .i64 x.mx, .int .i64 x.my, .int .u8 x.sec, .string x.via], .agg #[.bool true, .int .u8 0, .string ⟨#[]⟩, .string ⟨#[]⟩, .int .u8 0, .bool false, .int .i64 0, .int .i64 0, .int .i64 0, .int .i64 0, .int .i64 0, .int .i64 0, .int .i64 0, .int .i64 0, .int .i64 0, .int .i64 0, .int .i64 0, .int .i64 0, .int .u8 0, .string ⟨#[]⟩], .agg #[.int .i64 s4, .int .i64 s5, .int .i64 s6, .int .i64 s7]] W fun e w' => e = .returned (.tuple #[.agg #[.int .u8 tk, .int .i64 tax, .int .i64 tay, .int .i64 tbx, .int .i64 tby, .int .i64 tcx, .int .i64 tcy, .int .i64 tr, .int .i64 tf, .int .i64 ts, .int .i64 tci, .int .i64 tco, .int .i64 tl, .int .i64 tn, .bool tg], .int .i64 E0]) ∧ Below W.heap.size W w' := fun W hW => by
    have h := resolve_any s0 s1 s2 s3 x gapE s4 s5 s6 s7 hx.w gapW hs3 hs2 W hW
    rw [hT] at h
    exact h
  by_cases hE : E0 = 0
  · subst hE
    by_cases hk : x.ty = 7 ∨ x.ty = 11
    · (
      obtain ⟨ax, ay, bx, b_y, n, hTk, ⟨n0, n8⟩, ⟨g0, g1⟩, ⟨lo0, lo1⟩, ⟨al0, al1⟩, hdn, hup⟩ := climbs_law hT hk
      unfold tkS at hTk
      injection hTk with e1 e2 e3 e4 e5 e6 e7 e8 e9 e10 e11 e12 e13 e14 e15
      subst e1 e2 e3 e4 e5 e6 e7 e8 e9 e10 e11 e12 e13 e14 e15
      clear hT
      have m1b : 0 ≤ tl * s7 ∧ tl * s7 ≤ 8000000 * 100000 := ⟨Int.mul_nonneg n0 (by omega), Int.mul_le_mul n8 g1 (by omega) (by omega)⟩
      have m2e : (tl - 1) * s7 = tl * s7 - s7 := by rw [Int.sub_mul, Int.one_mul]
      obtain ⟨m1, hm1⟩ : ∃ m1, tl * s7 = m1 := ⟨_, rfl⟩
      obtain ⟨m2, hm2⟩ : ∃ m2, (tl - 1) * s7 = m2 := ⟨_, rfl⟩
      rw [hm1] at m1b hup m2e
      rw [hm2] at m2e hup
      rcases hk with hk | hk
      · (
          have k7 : (x.ty == 7) = true := by rw [hk]; rfl
          have j7 : (x.ty != 7) = false := by rw [hk]; rfl
          have k11 : (x.ty == 11) = false := by rw [hk]; rfl
          have j11 : (x.ty != 11) = true := by rw [hk]; rfl
          have HK := hide hk
          clear hk
          by_cases hz : (x.lo - s3) * 6000 ≤ 0
          · obtain ⟨rfl, rfl, rfl⟩ := hdn hz
            clear hup hdn hm1 hm2
            have hM := mem_nil w
            go_enter Tryz.func6, Tryz.ntmps6
            go_wp2_with (first
                | (go_at_call 11; (with_reducible refine (awake25_any _ (hide (usesAt_mem hM hu.out)) (hide (usualAt_mem hM hq.out))).mono ?_); rintro e W1 ⟨rfl, hb⟩; replace hM := mem_below hM hb; clear hb)
                | (go_at_call 14; (with_reducible refine (RC _ (hide (usesAt_mem hM hu.out))).mono ?_); rintro e W1 ⟨rfl, hb⟩; replace hM := mem_below hM hb; clear hb)
                | ((with_reducible refine at_ldx ?_); refine' mg_load1 hM rfl rfl ?_ ?_ ?_ ?_ ?_; rotate_left 3; (· first | exact rfl | (go_simp; done)); (· repeat constructor); (· exact scT rfl); (· exact rfl))
                | ((with_reducible refine at_ldx ?_); refine' mg_load hM rfl rfl ?_ ?_ ?_ ?_ ?_ ?_; rotate_left 4; (· first | exact rfl | (go_simp; done)); (· repeat constructor); (· exact agT rfl); (· exact szT rfl); (· repeat constructor))
                | ((with_reducible refine at_stx ?_); refine' ms_store hM rfl rfl rfl ?_ ?_ ?_ ?_ ?_ ?_ ?_ ?_; rotate_left 6; (· constructor); (· repeat constructor); (· repeat constructor); (· repeat constructor); (· exact szT rfl); (· rfl); (· exact onecells rfl); (clear hM; intro W hM))
                | ((with_reducible refine at_bxx ?_); refine' mp_box hM rfl rfl ?_ ?_; rotate_left 1; (· constructor); (clear hM; intro g W hM))
                | ((with_reducible refine at_alx ?_); refine' mp_alloc hM rfl rfl ?_ rfl ?_; rotate_left 1; (· exact zoT rfl); (clear hM; intro g W hM)))
            all_goals
              go_ret
              exact ⟨ret_b (by first | rfl | exact decide_eq_true (by omega)), hM.below⟩
          · obtain ⟨u1, u2, u3⟩ := hup (by omega)
            clear hup hdn
            have hM := mem_nil w
            go_enter Tryz.func6, Tryz.ntmps6
            go_wp2_with (first
                | (go_at_call 11; (with_reducible refine (awake25_any _ (hide (usesAt_mem hM hu.out)) (hide (usualAt_mem hM hq.out))).mono ?_); rintro e W1 ⟨rfl, hb⟩; replace hM := mem_below hM hb; clear hb)
                | (go_at_call 14; (with_reducible refine (RC _ (hide (usesAt_mem hM hu.out))).mono ?_); rintro e W1 ⟨rfl, hb⟩; replace hM := mem_below hM hb; clear hb)
                | ((with_reducible refine at_ldx ?_); refine' mg_load1 hM rfl rfl ?_ ?_ ?_ ?_ ?_; rotate_left 3; (· first | exact rfl | (go_simp; done)); (· repeat constructor); (· exact scT rfl); (· exact rfl))
                | ((with_reducible refine at_ldx ?_); refine' mg_load hM rfl rfl ?_ ?_ ?_ ?_ ?_ ?_; rotate_left 4; (· first | exact rfl | (go_simp; done)); (· repeat constructor); (· exact agT rfl); (· exact szT rfl); (· repeat constructor))
                | ((with_reducible refine at_stx ?_); refine' ms_store hM rfl rfl rfl ?_ ?_ ?_ ?_ ?_ ?_ ?_ ?_; rotate_left 6; (· constructor); (· repeat constructor); (· repeat constructor); (· repeat constructor); (· exact szT rfl); (· rfl); (· exact onecells rfl); (clear hM; intro W hM))
                | ((with_reducible refine at_bxx ?_); refine' mp_box hM rfl rfl ?_ ?_; rotate_left 1; (· constructor); (clear hM; intro g W hM))
                | ((with_reducible refine at_alx ?_); refine' mp_alloc hM rfl rfl ?_ rfl ?_; rotate_left 1; (· exact zoT rfl); (clear hM; intro g W hM)))
            all_goals
              go_ret
              exact ⟨ret_b (by first | rfl | exact decide_eq_true (by omega)), hM.below⟩
        )
      · (
          have k7 : (x.ty == 7) = false := by rw [hk]; rfl
          have j7 : (x.ty != 7) = true := by rw [hk]; rfl
          have k11 : (x.ty == 11) = true := by rw [hk]; rfl
          have j11 : (x.ty != 11) = false := by rw [hk]; rfl
          have HK := hide hk
          clear hk
          by_cases hz : (x.lo - s3) * 6000 ≤ 0
          · obtain ⟨rfl, rfl, rfl⟩ := hdn hz
            clear hup hdn hm1 hm2
            have hM := mem_nil w
            go_enter Tryz.func6, Tryz.ntmps6
            go_wp2_with (first
                | (go_at_call 11; (with_reducible refine (awake25_any _ (hide (usesAt_mem hM hu.out)) (hide (usualAt_mem hM hq.out))).mono ?_); rintro e W1 ⟨rfl, hb⟩; replace hM := mem_below hM hb; clear hb)
                | (go_at_call 14; (with_reducible refine (RC _ (hide (usesAt_mem hM hu.out))).mono ?_); rintro e W1 ⟨rfl, hb⟩; replace hM := mem_below hM hb; clear hb)
                | ((with_reducible refine at_ldx ?_); refine' mg_load1 hM rfl rfl ?_ ?_ ?_ ?_ ?_; rotate_left 3; (· first | exact rfl | (go_simp; done)); (· repeat constructor); (· exact scT rfl); (· exact rfl))
                | ((with_reducible refine at_ldx ?_); refine' mg_load hM rfl rfl ?_ ?_ ?_ ?_ ?_ ?_; rotate_left 4; (· first | exact rfl | (go_simp; done)); (· repeat constructor); (· exact agT rfl); (· exact szT rfl); (· repeat constructor))
                | ((with_reducible refine at_stx ?_); refine' ms_store hM rfl rfl rfl ?_ ?_ ?_ ?_ ?_ ?_ ?_ ?_; rotate_left 6; (· constructor); (· repeat constructor); (· repeat constructor); (· repeat constructor); (· exact szT rfl); (· rfl); (· exact onecells rfl); (clear hM; intro W hM))
                | ((with_reducible refine at_bxx ?_); refine' mp_box hM rfl rfl ?_ ?_; rotate_left 1; (· constructor); (clear hM; intro g W hM))
                | ((with_reducible refine at_alx ?_); refine' mp_alloc hM rfl rfl ?_ rfl ?_; rotate_left 1; (· exact zoT rfl); (clear hM; intro g W hM)))
            all_goals
              go_ret
              exact ⟨ret_b (by first | rfl | exact decide_eq_true (by omega)), hM.below⟩
          · obtain ⟨u1, u2, u3⟩ := hup (by omega)
            clear hup hdn
            have hM := mem_nil w
            go_enter Tryz.func6, Tryz.ntmps6
            go_wp2_with (first
                | (go_at_call 11; (with_reducible refine (awake25_any _ (hide (usesAt_mem hM hu.out)) (hide (usualAt_mem hM hq.out))).mono ?_); rintro e W1 ⟨rfl, hb⟩; replace hM := mem_below hM hb; clear hb)
                | (go_at_call 14; (with_reducible refine (RC _ (hide (usesAt_mem hM hu.out))).mono ?_); rintro e W1 ⟨rfl, hb⟩; replace hM := mem_below hM hb; clear hb)
                | ((with_reducible refine at_ldx ?_); refine' mg_load1 hM rfl rfl ?_ ?_ ?_ ?_ ?_; rotate_left 3; (· first | exact rfl | (go_simp; done)); (· repeat constructor); (· exact scT rfl); (· exact rfl))
                | ((with_reducible refine at_ldx ?_); refine' mg_load hM rfl rfl ?_ ?_ ?_ ?_ ?_ ?_; rotate_left 4; (· first | exact rfl | (go_simp; done)); (· repeat constructor); (· exact agT rfl); (· exact szT rfl); (· repeat constructor))
                | ((with_reducible refine at_stx ?_); refine' ms_store hM rfl rfl rfl ?_ ?_ ?_ ?_ ?_ ?_ ?_ ?_; rotate_left 6; (· constructor); (· repeat constructor); (· repeat constructor); (· repeat constructor); (· exact szT rfl); (· rfl); (· exact onecells rfl); (clear hM; intro W hM))
                | ((with_reducible refine at_bxx ?_); refine' mp_box hM rfl rfl ?_ ?_; rotate_left 1; (· constructor); (clear hM; intro g W hM))
                | ((with_reducible refine at_alx ?_); refine' mp_alloc hM rfl rfl ?_ rfl ?_; rotate_left 1; (· exact zoT rfl); (clear hM; intro g W hM)))
            all_goals
              go_ret
              exact ⟨ret_b (by first | rfl | exact decide_eq_true (by omega)), hM.below⟩
        )
      )
    · have HT := hide hT
      clear hT
      have k7 : (x.ty == 7) = false := by simp; omega
      have j7 : (x.ty != 7) = true := by simp; omega
      have k11 : (x.ty == 11) = false := by simp; omega
      have j11 : (x.ty != 11) = true := by simp; omega
      clear hk
      have hM := mem_nil w
      go_enter Tryz.func6, Tryz.ntmps6
      go_wp2_with (first
          | (go_at_call 11; (with_reducible refine (awake25_any _ (hide (usesAt_mem hM hu.out)) (hide (usualAt_mem hM hq.out))).mono ?_); rintro e W1 ⟨rfl, hb⟩; replace hM := mem_below hM hb; clear hb)
          | (go_at_call 14; (with_reducible refine (RC _ (hide (usesAt_mem hM hu.out))).mono ?_); rintro e W1 ⟨rfl, hb⟩; replace hM := mem_below hM hb; clear hb)
          | ((with_reducible refine at_ldx ?_); refine' mg_load1 hM rfl rfl ?_ ?_ ?_ ?_ ?_; rotate_left 3; (· first | exact rfl | (go_simp; done)); (· repeat constructor); (· exact scT rfl); (· exact rfl))
          | ((with_reducible refine at_ldx ?_); refine' mg_load hM rfl rfl ?_ ?_ ?_ ?_ ?_ ?_; rotate_left 4; (· first | exact rfl | (go_simp; done)); (· repeat constructor); (· exact agT rfl); (· exact szT rfl); (· repeat constructor))
          | ((with_reducible refine at_stx ?_); refine' ms_store hM rfl rfl rfl ?_ ?_ ?_ ?_ ?_ ?_ ?_ ?_; rotate_left 6; (· constructor); (· repeat constructor); (· repeat constructor); (· repeat constructor); (· exact szT rfl); (· rfl); (· exact onecells rfl); (clear hM; intro W hM))
          | ((with_reducible refine at_bxx ?_); refine' mp_box hM rfl rfl ?_ ?_; rotate_left 1; (· constructor); (clear hM; intro g W hM))
          | ((with_reducible refine at_alx ?_); refine' mp_alloc hM rfl rfl ?_ rfl ?_; rotate_left 1; (· exact zoT rfl); (clear hM; intro g W hM)))
      all_goals
        go_ret
        exact ⟨rfl, hM.below⟩
  · have hne : (E0 != 0) = true := by simpa using hE
    have heq : (E0 == 0) = false := by simpa using hE
    clear hE hT
    have hM := mem_nil w
    go_enter Tryz.func6, Tryz.ntmps6
    go_wp2_with (first
        | (go_at_call 11; (with_reducible refine (awake25_any _ (hide (usesAt_mem hM hu.out)) (hide (usualAt_mem hM hq.out))).mono ?_); rintro e W1 ⟨rfl, hb⟩; replace hM := mem_below hM hb; clear hb)
        | (go_at_call 14; (with_reducible refine (RC _ (hide (usesAt_mem hM hu.out))).mono ?_); rintro e W1 ⟨rfl, hb⟩; replace hM := mem_below hM hb; clear hb)
        | ((with_reducible refine at_ldx ?_); refine' mg_load1 hM rfl rfl ?_ ?_ ?_ ?_ ?_; rotate_left 3; (· first | exact rfl | (go_simp; done)); (· repeat constructor); (· exact scT rfl); (· exact rfl))
        | ((with_reducible refine at_ldx ?_); refine' mg_load hM rfl rfl ?_ ?_ ?_ ?_ ?_ ?_; rotate_left 4; (· first | exact rfl | (go_simp; done)); (· repeat constructor); (· exact agT rfl); (· exact szT rfl); (· repeat constructor))
        | ((with_reducible refine at_stx ?_); refine' ms_store hM rfl rfl rfl ?_ ?_ ?_ ?_ ?_ ?_ ?_ ?_; rotate_left 6; (· constructor); (· repeat constructor); (· repeat constructor); (· repeat constructor); (· exact szT rfl); (· rfl); (· exact onecells rfl); (clear hM; intro W hM))
        | ((with_reducible refine at_bxx ?_); refine' mp_box hM rfl rfl ?_ ?_; rotate_left 1; (· constructor); (clear hM; intro g W hM))
        | ((with_reducible refine at_alx ?_); refine' mp_alloc hM rfl rfl ?_ rfl ?_; rotate_left 1; (· exact zoT rfl); (clear hM; intro g W hM)))
    all_goals
      go_ret
      exact ⟨rfl, hM.below⟩
end Go.Proofs.YtjjdojokkmfbmaaGreatDoor

/-
  ResolveClimbs: the row's step: the given statement 'ResolveClimbsSaid' out of the walk.
-/
namespace Go.Proofs.YtjjdojokkmfbmaaGreatDoor.resolveClimbs
open Go.ChangeShapes Go.WideShapes Go.ChangeAt Go.RowKit
set_option linter.unusedVariables false

theorem own : ownKnob Tryz.prog.godebug = none := by kernel_rfl
theorem laidOut : laidOutB Tryz.prog = true := pf_laid
theorem typed : (Tryz.f6.params.toList.all fun t => Tryz.prog.readableRec t && decide (t < Tryz.prog.types.size)) = true := by kernel_rfl
theorem typed' : ∀ t ∈ Tryz.f6.params.toList, Tryz.prog.readableRec t = true ∧ t < Tryz.prog.types.size := by
  intro t ht
  have h := List.all_eq_true.1 typed t ht
  simpa using h
theorem ct31 : Tryz.prog.cellTypes Tryz.prog.depth 31 = some (List.replicate 8 2) := by kernel_rfl
theorem cn31 : Tryz.prog.cellsOf 31 = (List.replicate 8 2).length := by kernel_rfl
set_option maxRecDepth 100000 in
theorem lifted (os : Os) (started : os.Started) (H : Type) (enc : TypeId × Value → H) :
    ReturnsInHanded {} Tryz.checked os 6 .any (fun w args => (Rows.resolveClimbsSpec.pre enc Tryz.prog Tryz.f6 Rows.resolveClimbsRow.domain false w args ∧ laidMetH Tryz.prog laidL w) ∧ sizedMet enc Tryz.prog Tryz.f6 (OpenSpec.ofChange Rows.resolveClimbsSpec) false w args) (Rows.resolveClimbsSpec.post enc Tryz.prog Tryz.f6 false true false false) := by
  refine returnsInHanded_of_change_and (C := Tryz.checked) (X := fun w _ => laidMetH Tryz.prog laidL w) (fun _ _ _ hh h => h.of_heap hh) own started (by kernel_rfl) Tryz.func6
    (ChangeSpec.witness_shaped (enc := enc) (C := Tryz.checked) (os := os) (X := fun w _ => laidMetH Tryz.prog laidL w) false (World.doorLaid Tryz.prog 400 os) #[.agg #[.int .i64 0, .int .i64 0, .int .i64 0, .int .i64 0, .int .i64 0, .int .i64 0, .int .i64 0, .int .i64 0], .agg #[.bool false, .int .u8 0, .string ⟨#[]⟩, .string ⟨#[]⟩, .int .u8 0, .bool false, .int .i64 0, .int .i64 0, .int .i64 0, .int .i64 0, .int .i64 0, .int .i64 0, .int .i64 0, .int .i64 0, .int .i64 0, .int .i64 0, .int .i64 0, .int .i64 0, .int .u8 0, .string ⟨#[]⟩]] 8 rfl (World.shaped_of_RefB (by kernel_rfl) (by kernel_rfl)) (by kernel_rfl) (by kernel_rfl) (by kernel_rfl) (door_met os _)) ?_
  intro W base args ds gs before hval0 hW hcnd _ hL _
  have hval : ∀ (j : Nat) t v, Tryz.f6.params[j]? = some t → args[j]? = some v → Value.okWide Tryz.prog W .any base t v := hval0
  have hW' := hW
  obtain ⟨p, q, hA0, hV, rfl, hfz, hnd⟩ := hW
  have hlen := trodAll_length _ _ _ _ hA0
  rw [Tryz.params6] at hval hlen
  obtain ⟨v0, v1, rfl⟩ := arr2 hlen.1
  obtain ⟨d0, d1, rfl⟩ := list2 hlen.2
  obtain ⟨ls, rfl, es, hls⟩ := ok_ints (Or.inl ⟨_, Tryz.underlying31⟩) ct31 cn31 (fun u hu => by rw [List.eq_of_mem_replicate hu]; exact Tryz.underlying2) (hval 0 31 v0 rfl rfl)
  obtain ⟨s0, s1, s2, s3, s4, s5, s6, s7, rfl⟩ := list8 (es.trans (by simp))
  have hs0 : I64 s0 := hls _ (by simp)
  have hs1 : I64 s1 := hls _ (by simp)
  have hs2 : I64 s2 := hls _ (by simp)
  have hs3 : I64 s3 := hls _ (by simp)
  have hs4 : I64 s4 := hls _ (by simp)
  have hs5 : I64 s5 := hls _ (by simp)
  have hs6 : I64 s6 := hls _ (by simp)
  have hs7 : I64 s7 := hls _ (by simp)
  obtain ⟨x, rfl, hx⟩ := en_of (hval 1 39 v1 rfl rfl)
  refine (resolveClimbs_walk s0 s1 s2 s3 s4 s5 s6 s7 x hs0 hs1 hs2 hs3 hs4 hs5 hs6 hs7 hx hL W).mono fun e W' ⟨he, hb⟩ => ?_
  subst he
  exact ⟨_, rfl, law_post (f := Tryz.f6) (s := Rows.resolveClimbsSpec) (tb := 4) laidOut typed' rfl (by kernel_rfl) Tryz.underlying4 hW' ⟨rfl, rfl, rfl⟩ hb⟩

theorem k0 : (Rows.resolveClimbsRow.wf (OpenSpec.ofChange Rows.resolveClimbsSpec)) = true := by kernel_rfl
theorem k3 : (Tryz.f6.params.all (Tryz.prog.readableRec ·)) = true := by kernel_rfl
theorem k4 : (namedTie Tryz.prog Rows.resolveClimbsRow.named Rows.resolveClimbsSpec.vars) = true := by kernel_rfl
theorem k5 : (Rows.resolveClimbsRow.stops == []) = true := by kernel_rfl
theorem k7 : (Rows.resolveClimbsRow.knobs == []) = true := by kernel_rfl
theorem k9 : (Rows.resolveClimbsRow.inPlace == Tryz.prog.inPlace 6) = true := by kernel_rfl
theorem k10 : (Rows.resolveClimbsRow.unfollowed == Tryz.prog.unfollowed 6) = true := by kernel_rfl
theorem k11 : (Rows.resolveClimbsRow.recurses == Tryz.prog.recurses 6) = true := by kernel_rfl
theorem k12 : (Rows.resolveClimbsRow.named == Tryz.prog.varsNamed 6) = true := by kernel_rfl
theorem k13 : (Rows.resolveClimbsRow.maps == (Tryz.f6.params.toList ++ Rows.resolveClimbsSpec.plain.varTypes Tryz.prog).any (Tryz.prog.mapsRec ·)) = true := by kernel_rfl
theorem k14 : (Rows.resolveClimbsRow.ifaces == (Tryz.f6.params.toList ++ Rows.resolveClimbsSpec.plain.varTypes Tryz.prog).any (Tryz.prog.ifacesRec ·)) = true := by kernel_rfl
theorem k15 : (Rows.resolveClimbsRow.mapsOut == Tryz.prog.mapsAmong Tryz.f6.resultTypes.toList) = true := by kernel_rfl
theorem k16 : (Rows.resolveClimbsRow.loops == (Tryz.f6.params.toList ++ Rows.resolveClimbsSpec.plain.varTypes Tryz.prog).any (Tryz.prog.loopsFrom ·)) = true := by kernel_rfl
theorem k17 : (Rows.resolveClimbsRow.wideKeys == (Tryz.f6.params.toList ++ Rows.resolveClimbsSpec.plain.varTypes Tryz.prog ++ Tryz.f6.resultTypes.toList).any (Tryz.prog.wideKeysFrom ·)) = true := by kernel_rfl
theorem k18 : (Rows.resolveClimbsSpec.vars.all (Tryz.prog.varReadable ·)) = true := by kernel_rfl
theorem k19 : (Tryz.f6.resultTypes.all (fun t => Tryz.prog.readableRec t && decide (t < Tryz.prog.types.size))) = true := by kernel_rfl
theorem k20 : (Rows.resolveClimbsRow.ifacesOut == Tryz.f6.resultTypes.toList.any (Tryz.prog.ifacesRec ·)) = true := by kernel_rfl
theorem k21 : (Rows.resolveClimbsRow.loopsOut == Tryz.f6.resultTypes.toList.any (Tryz.prog.loopsFrom ·)) = true := by kernel_rfl
theorem k22 : (Rows.resolveClimbsRow.plainKeys == Tryz.prog.plainKeys) = true := by kernel_rfl
theorem k23 : (Rows.resolveClimbsRow.shortTexts.isNone) = true := by kernel_rfl
theorem k26 : (Rows.resolveClimbsRow.lifted == Tryz.prog.liftsFinal) = true := by rw [pf_lifts]; rfl
theorem k27 : (Tryz.prog.make == some Rows.resolveClimbsRow.make) = true := by rw [pf_make]; rfl
theorem k28 : (Rows.resolveClimbsRow.kinds == (if Rows.resolveClimbsRow.domain.isEmpty then [] else Tryz.f6.params.toList.map fun t => match Tryz.prog.underlying t with | some (.int k) => some k | _ => none)) = true := by kernel_rfl
theorem k29 : (Rows.resolveClimbsRow.pinned == Rows.resolveClimbsRow.pinnedBy) = true := by kernel_rfl
theorem k30 : (Rows.resolveClimbsRow.veiled == (Tryz.f6.params.toList ++ Rows.resolveClimbsSpec.plain.varTypes Tryz.prog ++ Tryz.f6.resultTypes.toList).any (Tryz.prog.veiledRec ·)) = true := by kernel_rfl
theorem k31 : (Rows.resolveClimbsRow.veiledFits Tryz.prog Tryz.f6.params.toList (Tryz.f6.params.toList ++ Rows.resolveClimbsSpec.plain.varTypes Tryz.prog ++ Tryz.f6.resultTypes.toList)) = true := by kernel_rfl
set_option maxRecDepth 100000 in
theorem closed : joinedFacts Tryz.prog 6 Tryz.f6 Rows.resolveClimbsSpec Rows.resolveClimbsRow = true := (band (band (band (band (band (band (band (band (band (band (band (band (band (band (band (band (band (band (band (band (band (band (band (band (band (band (band (band (band (band (band k0 pf_laid) pf_maps) k3) k4) k5) pf_stops) k7) pf_knobs) k9) k10) k11) k12) k13) k14) k15) k16) k17) k18) k19) k20) k21) k22) k23) pf_heard) pf_enter) k26) k27) k28) k29) k30) k31)
theorem byName : Tryz.prog.funcNamed Rows.resolveClimbsRow.func = some 6 := by kernel_rfl
theorem inst : Tryz.f6.isInstance Tryz.prog Rows.resolveClimbsRow.origin Rows.resolveClimbsRow.targs := of_decide_eq_true (by kernel_rfl)
theorem over : Rows.resolveClimbsRow.holds Tryz.pinned (OpenSpec.ofChange Rows.resolveClimbsSpec) :=
  OpenClaim.holds_of_wide 6 Tryz.f6 rfl rfl rfl rfl rfl rfl rfl ⟨rfl, rfl, rfl, rfl, rfl⟩ rfl rfl rfl rfl rfl byName Tryz.func6 closed
    inst (by unfold Func.isWrapper; rw [if_neg (of_decide_eq_false (by kernel_rfl))]; exact ⟨rfl, rfl⟩)
    (fun os started H enc _ => lifted os started H enc)

/-- The given statement: the tied card. -/
theorem proved : Rows.ResolveClimbsCardSaid :=
  Claim7.holds_tied_plain_at .later [] [.data, .data] true Rows.resolveClimbsCard.stood.harness false
    over (fun _ h => by cases h) (by kernel_rfl) (fun _ h => by cases h) resolveClimbs_row_tie rfl ⟨rfl, rfl⟩ (by kernel_rfl) rfl
    (fun f fn hf hfn => by
      obtain rfl : f = 6 := Option.some.inj ((show Tryz.prog.funcNamed "flightdeck/flightdecklaw25.ResolveClimbs" = some 6 by kernel_rfl).symm.trans hf) |>.symm
      obtain rfl : fn = Tryz.f6 := (Option.some.inj (Tryz.func6.symm.trans hfn)).symm
      exact ⟨by kernel_rfl, fun j t ht => by
        have hm : t ∈ Tryz.f6.params.toList := by simpa using Array.mem_of_getElem? ht
        have hall : (Tryz.f6.params.toList.all fun u => !Tryz.prog.wantsStandIn u) = true := by kernel_rfl
        exact (show Tryz.prog.wantsStandIn t = false by simpa using List.all_eq_true.1 hall t hm)⟩)
    (by kernel_rfl)
end Go.Proofs.YtjjdojokkmfbmaaGreatDoor.resolveClimbs
