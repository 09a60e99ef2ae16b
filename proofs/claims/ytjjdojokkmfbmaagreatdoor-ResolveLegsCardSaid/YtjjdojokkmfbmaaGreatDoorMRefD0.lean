/-
  Check of the options in the reference.
-/
import Derived.Test.YtjjdojokkmfbmaaGreatDoorMFixed
import Derived.Test.YtjjdojokkmfbmaaGreatDoorMMem
import Derived.Test.YtjjdojokkmfbmaaGreatDoorMResP
import Derived.Test.YtjjdojokkmfbmaaGreatDoorMWide
import Derived.Test.YtjjdojokkmfbmaaGreatDoorRows
import Derived.LaidMore
import Derived.LaidLaws
import Derived.LaidHandle
import Derived.MakeChecks
import Derived.OpenShut
import Derived.ProofKit
import Derived.WalkKit
import Derived.Below
import Derived.ChangeSame
import Derived.Laws.Rows
import Derived.Laws.Tables
import Derived.Laws.Cells
import Derived.Deep.Draws
import Derived.Deep.RegionHeld
import Derived.Deep.DeepCutAuto
import Derived.Lib.Bytealg
import Derived.Lib.Strings
import Derived.Laws.Strings3
import Derived.Deep.RegionHeld3
import Derived.Test.YtjjdojokkmfbmaaGreatDoorProg
import Derived.WalkSpells
import Derived.WalkLawsBesides
import Derived.Deep.QuietTactic
import Derived.BigQuiet
import Derived.Lib.ItoaNum
import Derived.Shelf.Small.Bits
import Derived.Shelf.Strconv.Itoa0
import Derived.Shelf.Bits.Mul64
import Derived.Shelf.Spec.BitsCarry
import Derived.Laws.BitsAllLaws
namespace Go.Proofs.YtjjdojokkmfbmaaGreatDoor
open Go.RowKit
set_option linter.unusedVariables false
set_option linter.unusedSimpArgs false
set_option maxRecDepth 100000 in
set_option maxHeartbeats 8000000 in
theorem ropts_any (spd bank oalt gr : Int) (w : World) :
    Calls Tryz.prog 13 #[.agg #[.int .i64 spd, .int .i64 bank, .int .i64 oalt, .int .i64 gr]] w fun e w' => e = .returned (.int .i64 (optE spd bank oalt gr)) ∧ Below w.heap.size w w' := by
  have hM := mem_nil w
  go_enter Tryz.func13, Tryz.ntmps13
  go_wp2_with (first
    | ((with_reducible refine at_ldx ?_); refine' mg_load1 hM rfl rfl ?_ ?_ ?_ ?_ ?_; rotate_left 3; (· first | exact rfl | (go_simp; done)); (· repeat constructor); (· exact scT rfl); (· exact rfl))
    | ((with_reducible refine at_ldx ?_); refine' mg_load hM rfl rfl ?_ ?_ ?_ ?_ ?_ ?_; rotate_left 4; (· first | exact rfl | (go_simp; done)); (· repeat constructor); (· exact agT rfl); (· exact szT rfl); (· repeat constructor))
    | ((with_reducible refine at_stx ?_); refine' ms_store hM rfl rfl rfl ?_ ?_ ?_ ?_ ?_ ?_ ?_ ?_; rotate_left 6; (· constructor); (· repeat constructor); (· repeat constructor); (· repeat constructor); (· exact szT rfl); (· rfl); (· exact onecells rfl); (clear hM; intro W hM))
    | ((with_reducible refine at_bxx ?_); refine' mp_box hM rfl rfl ?_ ?_; rotate_left 1; (· constructor); (clear hM; intro g W hM))
    | ((with_reducible refine at_alx ?_); refine' mp_alloc hM rfl rfl ?_ rfl ?_; rotate_left 1; (· exact zoT rfl); (clear hM; intro g W hM)))
  all_goals
    go_ret
    exact ⟨ret_int (by unfold optE; first | rw [if_pos (by omega)] | rw [if_neg (by omega)]), hM.below⟩
end Go.Proofs.YtjjdojokkmfbmaaGreatDoor
