/-
  The walks of Meet, of the program and of the reference.
-/
import Derived.Test.YtdfkkknkiioghaaGreatMLineB
import Derived.Deep.DeepCutAuto
namespace Go.Proofs.YtdfkkknkiioghaaGreat
open Go.RowKit
set_option linter.unusedVariables false
set_option linter.unusedSimpArgs false
end Go.Proofs.YtdfkkknkiioghaaGreat

/-
  The walk of the reference's Meet.
-/
namespace Go.Proofs.YtdfkkknkiioghaaGreat
open Go.RowKit
set_option linter.unusedVariables false
set_option linter.unusedSimpArgs false
theorem rpvalid_d (x y : Int) (v : Bool) (h : vldB x y = v) (w : World) : Calls Tryz.prog 16 #[.agg #[.int .i64 x, .int .i64 y]] w fun e w' => e = .returned (.bool v) ∧ Below w.heap.size w w' := by
  rw [← h]; exact rpvalid_b x y w
end Go.Proofs.YtdfkkknkiioghaaGreat

