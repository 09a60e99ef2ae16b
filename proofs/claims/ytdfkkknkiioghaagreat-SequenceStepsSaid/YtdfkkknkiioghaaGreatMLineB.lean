/-
  The walks of at, of the program and of the reference.
-/
import Derived.Test.YtdfkkknkiioghaaGreatMLineA
import Derived.Test.YtdfkkknkiioghaaGreatMGeo
namespace Go.Proofs.YtdfkkknkiioghaaGreat
open Go.RowKit
set_option linter.unusedVariables false
set_option linter.unusedSimpArgs false
theorem clamp_bd (x lo hi : Int) (h : lo ≤ hi) : lo ≤ clamp x lo hi ∧ clamp x lo hi ≤ hi := by unfold clamp; omega
theorem sat_bd (x : Int) : I64 (sat x) := by unfold sat; exact clamp_bd x _ _ (by omega)
theorem muldiv_in (m : Nat) (a b c : Int) : I64 (muldiv m a b c).1 := by
  unfold muldiv
  unfold I64
  split
  · omega
  · split
    · rename_i h
      unfold in64 at h
      simpa using h
    · omega
theorem alongF_err {ax ay vx vy n d X Y E F : Int} (h1 : muldiv 2 vx n d = (X, E)) (h2 : muldiv 2 vy n d = (Y, F)) (h : ¬ (E = 0 ∧ F = 0)) : alongF ax ay vx vy n d = (0, 0, 2) := by
  unfold alongF
  rw [h1, h2, if_neg h]
theorem alongF_out {ax ay vx vy n d X Y : Int} (h1 : muldiv 2 vx n d = (X, 0)) (h2 : muldiv 2 vy n d = (Y, 0)) (h : vldB (sat (ax + X)) (sat (ay + Y)) = false) : alongF ax ay vx vy n d = (0, 0, 2) := by
  unfold alongF
  rw [h1, h2, if_pos ⟨rfl, rfl⟩, if_neg (by simp [h])]
theorem alongF_ok {ax ay vx vy n d X Y : Int} (h1 : muldiv 2 vx n d = (X, 0)) (h2 : muldiv 2 vy n d = (Y, 0)) (h : vldB (sat (ax + X)) (sat (ay + Y)) = true) : alongF ax ay vx vy n d = (sat (ax + X), sat (ay + Y), 0) := by
  unfold alongF
  rw [h1, h2, if_pos ⟨rfl, rfl⟩, if_pos h]
end Go.Proofs.YtdfkkknkiioghaaGreat

/-
  The walks of Foot and Meet, of the program and of the reference.
-/
namespace Go.Proofs.YtdfkkknkiioghaaGreat
open Go.RowKit
set_option linter.unusedVariables false
set_option linter.unusedSimpArgs false
theorem dot_in {a b c d : Int} (h1 : -4000000 ≤ a) (h2 : a ≤ 4000000) (h3 : -4000000 ≤ b) (h4 : b ≤ 4000000) (h5 : -4000000 ≤ c) (h6 : c ≤ 4000000) (h7 : -4000000 ≤ d) (h8 : d ≤ 4000000) : I64 (a * c + b * d) ∧ I64 (a * d - b * c) := by
  have p1 := prod_bd h1 h2 h5 h6
  have p2 := prod_bd h3 h4 h7 h8
  have p3 := prod_bd h1 h2 h7 h8
  have p4 := prod_bd h3 h4 h5 h6
  unfold I64
  omega
end Go.Proofs.YtdfkkknkiioghaaGreat

