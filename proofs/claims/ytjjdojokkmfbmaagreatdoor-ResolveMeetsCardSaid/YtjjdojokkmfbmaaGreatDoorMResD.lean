/-
  resolve: options, Resolve; for all arguments.
-/
import Derived.Test.YtjjdojokkmfbmaaGreatDoorMFixed
import Derived.Test.YtjjdojokkmfbmaaGreatDoorMFrame
import Derived.Test.YtjjdojokkmfbmaaGreatDoorMLaid25
import Derived.Test.YtjjdojokkmfbmaaGreatDoorMLegK
import Derived.Test.YtjjdojokkmfbmaaGreatDoorMMem
import Derived.Test.YtjjdojokkmfbmaaGreatDoorMResP
import Derived.Test.YtjjdojokkmfbmaaGreatDoorMStrP
import Derived.Test.YtjjdojokkmfbmaaGreatDoorMWide
import Derived.Test.YtjjdojokkmfbmaaGreatDoorRows
import Derived.LaidMore
import Derived.LaidLaws
import Derived.LaidHandle
import Derived.MakeChecks
import Derived.OpenShut
import Derived.ProofKit
import Derived.WalkKit
import Derived.Below
import Derived.ChangeSame
import Derived.Laws.Rows
import Derived.Laws.Tables
import Derived.Laws.Cells
import Derived.Deep.Draws
import Derived.Deep.RegionHeld
import Derived.Deep.DeepCutAuto
import Derived.Lib.Bytealg
import Derived.Lib.Strings
import Derived.Laws.Strings3
import Derived.Deep.RegionHeld3
import Derived.Test.YtjjdojokkmfbmaaGreatDoorProg
import Derived.WalkSpells
import Derived.WalkLawsBesides
import Derived.Deep.QuietTactic
import Derived.BigQuiet
import Derived.Lib.ItoaNum
import Derived.Shelf.Small.Bits
import Derived.Shelf.Strconv.Itoa0
import Derived.Shelf.Bits.Mul64
import Derived.Shelf.Spec.BitsCarry
import Derived.Laws.BitsAllLaws
namespace Go.Proofs.YtjjdojokkmfbmaaGreatDoor
open Go.RowKit
set_option linter.unusedVariables false
set_option linter.unusedSimpArgs false
set_option maxRecDepth 100000 in
set_option maxHeartbeats 8000000 in
theorem opts_any (spd bank oalt gr : Int) (w : World) :
    Calls Tryz.prog 12 #[.agg #[.int .i64 spd, .int .i64 bank, .int .i64 oalt, .int .i64 gr]] w fun e w' => e = .returned (.int .i64 (optE spd bank oalt gr)) ∧ Below w.heap.size w w' := by
  have hM := mem_nil w
  go_enter Tryz.func12, Tryz.ntmps12
  go_wp2_with (first
    | ((with_reducible refine at_ldx ?_); refine' mg_load1 hM rfl rfl ?_ ?_ ?_ ?_ ?_; rotate_left 3; (· first | exact rfl | (go_simp; done)); (· repeat constructor); (· exact scT rfl); (· exact rfl))
    | ((with_reducible refine at_ldx ?_); refine' mg_load hM rfl rfl ?_ ?_ ?_ ?_ ?_ ?_; rotate_left 4; (· first | exact rfl | (go_simp; done)); (· repeat constructor); (· exact agT rfl); (· exact szT rfl); (· repeat constructor))
    | ((with_reducible refine at_stx ?_); refine' ms_store hM rfl rfl rfl ?_ ?_ ?_ ?_ ?_ ?_ ?_ ?_; rotate_left 6; (· constructor); (· repeat constructor); (· repeat constructor); (· repeat constructor); (· exact szT rfl); (· rfl); (· exact onecells rfl); (clear hM; intro W hM))
    | ((with_reducible refine at_bxx ?_); refine' mp_box hM rfl rfl ?_ ?_; rotate_left 1; (· constructor); (clear hM; intro g W hM))
    | ((with_reducible refine at_alx ?_); refine' mp_alloc hM rfl rfl ?_ rfl ?_; rotate_left 1; (· exact zoT rfl); (clear hM; intro g W hM)))
  all_goals
    go_ret
    exact ⟨ret_int (by unfold optE; first | rw [if_pos (by omega)] | rw [if_neg (by omega)]), hM.below⟩
set_option maxRecDepth 100000 in
set_option maxHeartbeats 8000000 in
theorem rcourse_ok (c : Int) (w : World) : Calls Tryz.prog 25 #[.int .i64 c] w fun e w' => e = .returned (.bool (decide (0 ≤ c ∧ c < 129600000))) ∧ w = w' := by
  by_cases h1 : 0 ≤ c
  · by_cases h2 : c < 129600000
    · have e2 : decide (c < 129600000) = true := decide_eq_true h2
      have e3 := hide (decide_eq_true (show 0 ≤ c ∧ c < 129600000 by omega))
      go_enter Tryz.func25, Tryz.ntmps25
      go_wp2_with fail
      all_goals
        go_ret
        first | exact ⟨ret_b e3.out.symm, rfl⟩ | exact ⟨rfl, rfl⟩
    · have e2 : decide (c < 129600000) = false := decide_eq_false h2
      have e3 := hide (decide_eq_false (show ¬ (0 ≤ c ∧ c < 129600000) by omega))
      go_enter Tryz.func25, Tryz.ntmps25
      go_wp2_with fail
      all_goals
        go_ret
        first | exact ⟨ret_b e3.out.symm, rfl⟩ | exact ⟨rfl, rfl⟩
  · have e2 : decide (0 ≤ c) = false := decide_eq_false h1
    have e3 := hide (decide_eq_false (show ¬ (0 ≤ c ∧ c < 129600000) by omega))
    go_enter Tryz.func25, Tryz.ntmps25
    go_wp2_with fail
    all_goals
      go_ret
      first | exact ⟨ret_b e3.out.symm, rfl⟩ | exact ⟨rfl, rfl⟩
/-- what the fields of an entry can be -/
structure EnW (x : En) : Prop where
  leg : LegW x
  crs : I64 x.crs
  ex : I64 x.ex
  ey : I64 x.ey
theorem EnW.tyb {x : En} (h : EnW x) : 0 ≤ x.ty := h.leg.ty.1
theorem pair_eta {p : Tk × Int} : p = (p.1, p.2) := rfl
theorem usesAt_mem {w W : World} {L : List Box} (hM : Mem w W L) (h : usesAt w) : usesAt W := fun i n hi => hM.old (h i n hi)
end Go.Proofs.YtjjdojokkmfbmaaGreatDoor
