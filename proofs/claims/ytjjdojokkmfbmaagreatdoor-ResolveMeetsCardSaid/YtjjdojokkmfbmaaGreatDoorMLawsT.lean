/-
  The examples of chapter 12, reckoned; arcs that are split; bank angles. No program.
-/
import Derived.Test.YtjjdojokkmfbmaaGreatDoorMLaws
import Derived.Test.YtjjdojokkmfbmaaGreatDoorMPlain
namespace Go.Proofs.YtjjdojokkmfbmaaGreatDoor
set_option linter.unusedVariables false

theorem atan_ahead (m : Int) (h : 0 < m) : atan2F 0 m = 0 := by
  have := atan_x m h
  have e : ((m.natAbs : Nat) : Int) = m := by omega
  unfold atan2F atanQ
  rw [if_pos (by omega), if_pos (by omega), if_neg (by omega), e]
  rw [show (((0 : Int).natAbs : Nat) : Int) = 0 from rfl, this]
theorem isq_of (n r : Nat) (h1 : r * r ≤ n) (h2 : n < (r + 1) * (r + 1)) : ((isq n : Nat) : Int) = r := by rw [isq_eq h1 h2]
theorem dist_of {ax ay bx b_y : Int} (h : (vldB ax ay && vldB bx b_y) = true) (r : Nat) (h1 : r * r ≤ (dist2 ax ay bx b_y).toNat) (h2 : (dist2 ax ay bx b_y).toNat < (r + 1) * (r + 1)) : distF ax ay bx b_y = r := by
  unfold distF
  rw [h, if_pos rfl, isq_of _ r h1 h2]
/-! ### arcs that are split -/
/-! ### bank angles -/
end Go.Proofs.YtjjdojokkmfbmaaGreatDoor

/-
  What the laws of chapter 12 ask of the plain functions. No program.
-/
namespace Go.Proofs.YtjjdojokkmfbmaaGreatDoor
set_option linter.unusedVariables false

/-! ### points of arcs -/
/-! ### fly-by turns -/
/-! ### tangents -/
/-! ### arcs around a center -/
/-! ### fly-by turns, stage by stage -/
end Go.Proofs.YtjjdojokkmfbmaaGreatDoor
