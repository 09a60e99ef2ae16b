/-
  A point of an arc is found on it, at its length (chapter 12). No program.
-/
import Derived.Test.YtjjdojokkmfbmaaGreatDoorMSeries
namespace Go.Proofs.YtjjdojokkmfbmaaGreatDoor
set_option linter.unusedVariables false
end Go.Proofs.YtjjdojokkmfbmaaGreatDoor
/-
  The ends of arcs around a center, and of fly-by turns (chapter 12). No program.
-/
namespace Go.Proofs.YtjjdojokkmfbmaaGreatDoor
set_option linter.unusedVariables false
theorem rnd1_spec (n d : Int) (hd : 0 < d) : (rnd 1 n d - 1) * d < n ∧ n ≤ rnd 1 n d * d := by
  unfold rnd
  simp only [show (1 : Nat) ≠ 0 from by decide, if_false, if_true]
  have := floor_bd (-n) d hd
  generalize (-n).fdiv d = k at *
  have e1 : (-k - 1) * d = -(k * d) - d := by grind
  have e2 : -k * d = -(k * d) := by grind
  omega
end Go.Proofs.YtjjdojokkmfbmaaGreatDoor
/-
  A tangent touches its circle: the center lies abeam of the tangent point, at the distance of the radius (chapter 12). No program.
-/
namespace Go.Proofs.YtjjdojokkmfbmaaGreatDoor
set_option linter.unusedVariables false
end Go.Proofs.YtjjdojokkmfbmaaGreatDoor
/-
  The rest of chapter 12 as plain functions: fly-by turns, tangents, arcs around a center; the laws of them. No program.
-/
namespace Go.Proofs.YtjjdojokkmfbmaaGreatDoor
set_option linter.unusedVariables false
def arSweep (right : Bool) (x y : Int) : Int := if right then (if sweepF true x y = 0 then 129600000 else sweepF true x y) else -(if sweepF false x y = 0 then 129600000 else sweepF false x y)
def zeros5 : List Int := [0, 0, 0, 0, 0]
def aroundF (ax ay cx cy bx b_y : Int) (right : Bool) : List Int × Int :=
  if !(vldB ax ay && vldB cx cy && vldB bx b_y) then (zeros5, 1) else
  if distF cx cy ax ay = 0 ∨ distF cx cy bx b_y = 0 ∨ distF cx cy ax ay - distF cx cy bx b_y > 8 ∨ distF cx cy bx b_y - distF cx cy ax ay > 8 then (zeros5, 10) else
  ([cx, cy, distF cx cy ax ay, atan2F (ax - cx) (ay - cy), arSweep right (atan2F (ax - cx) (ay - cy)) (atan2F (bx - cx) (b_y - cy))], 0)
theorem arcLen_eq {cx cy r f s : Int} (h : arcB cx cy r f s = true) : arcLen cx cy r f s = rnd 2 (r * s.natAbs) 20626481 := by unfold arcLen; rw [if_pos h]
theorem arcB_iff (cx cy r f s : Int) : arcB cx cy r f s = true ↔ (vldB cx cy = true ∧ 1 ≤ r ∧ r ≤ 8000000 ∧ 0 ≤ f ∧ f < 129600000 ∧ -129600000 ≤ s ∧ s ≤ 129600000) := by
  unfold arcB
  rw [Bool.and_eq_true, decide_eq_true_iff]
theorem arcLen_bd (cx cy r f s : Int) : 0 ≤ arcLen cx cy r f s ∧ arcLen cx cy r f s ≤ 60000000 := by
  unfold arcLen
  split
  · rename_i h
    obtain ⟨_, h1, h2, _, _, h3, h4⟩ := (arcB_iff _ _ _ _ _).1 h
    rw [rndLen]
    have : 0 ≤ r * (s.natAbs : Int) := Int.mul_nonneg (by omega) (by omega)
    have : r * (s.natAbs : Int) ≤ 8000000 * 129600000 := Int.mul_le_mul h2 (by omega) (by omega) (by omega)
    omega
  · omega
end Go.Proofs.YtjjdojokkmfbmaaGreatDoor
/-
  Fly-by turns: the arc begins near its start and ends near its end. No program.
-/
namespace Go.Proofs.YtjjdojokkmfbmaaGreatDoor
set_option linter.unusedVariables false
end Go.Proofs.YtjjdojokkmfbmaaGreatDoor
/-
  Chapter 12: arcs and the points of them, tangents, arcs around a center. No program.
-/
namespace Go.Proofs.YtjjdojokkmfbmaaGreatDoor
set_option linter.unusedVariables false
end Go.Proofs.YtjjdojokkmfbmaaGreatDoor
/-
  The laws of chapter 11 on the plain functions. No program.
-/
namespace Go.Proofs.YtjjdojokkmfbmaaGreatDoor
set_option linter.unusedVariables false
end Go.Proofs.YtjjdojokkmfbmaaGreatDoor
/-
  The chapters' examples, reckoned. No program.
-/
namespace Go.Proofs.YtjjdojokkmfbmaaGreatDoor
set_option linter.unusedVariables false
theorem atan_x (m : Int) (h : 0 < m) : atanC m 0 = 0 := by
  unfold atanC
  rw [greatN_eq (atP m 0) n45 0 (Nat.zero_le _) (.inl rfl) ?_]
  · rfl
  · intro d h1 h2
    rw [n45_eq] at h2
    unfold atP
    refine decide_eq_false ?_
    rw [Int.mul_zero]
    have := Sin_mono (a := 1) (b := d) (by omega) (by omega) (by omega)
    have e : 0 < Sin 1 := by decide +kernel
    have := Int.mul_pos (show 0 < Sin d by omega) h
    omega
end Go.Proofs.YtjjdojokkmfbmaaGreatDoor
/-
  The examples of chapter 12, reckoned; arcs that are split; bank angles. No program.
-/
namespace Go.Proofs.YtjjdojokkmfbmaaGreatDoor
set_option linter.unusedVariables false
theorem atan_ahead (m : Int) (h : 0 < m) : atan2F 0 m = 0 := by
  have := atan_x m h
  have e : ((m.natAbs : Nat) : Int) = m := by omega
  unfold atan2F atanQ
  rw [if_pos (by omega), if_pos (by omega), if_neg (by omega), e]
  rw [show (((0 : Int).natAbs : Nat) : Int) = 0 from rfl, this]
theorem isq_of (n r : Nat) (h1 : r * r ≤ n) (h2 : n < (r + 1) * (r + 1)) : ((isq n : Nat) : Int) = r := by rw [isq_eq h1 h2]
theorem dist_of {ax ay bx b_y : Int} (h : (vldB ax ay && vldB bx b_y) = true) (r : Nat) (h1 : r * r ≤ (dist2 ax ay bx b_y).toNat) (h2 : (dist2 ax ay bx b_y).toNat < (r + 1) * (r + 1)) : distF ax ay bx b_y = r := by
  unfold distF
  rw [h, if_pos rfl, isq_of _ r h1 h2]
end Go.Proofs.YtjjdojokkmfbmaaGreatDoor
/-
  What the laws of chapter 12 ask of the plain functions. No program.
-/
namespace Go.Proofs.YtjjdojokkmfbmaaGreatDoor
set_option linter.unusedVariables false
end Go.Proofs.YtjjdojokkmfbmaaGreatDoor
