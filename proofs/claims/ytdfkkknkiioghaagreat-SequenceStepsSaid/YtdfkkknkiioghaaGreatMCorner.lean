/-
  The example of chapter 28: its path has no error; which elements its points are beyond.
-/
import Derived.Test.YtdfkkknkiioghaaGreatMStep
import Derived.Test.YtdfkkknkiioghaaGreatMToGo
import Derived.Test.YtdfkkknkiioghaaGreatMLawsT
import Derived.Test.YtdfkkknkiioghaaGreatMLaws
namespace Go.Proofs.YtdfkkknkiioghaaGreat
set_option linter.unusedVariables false
def cornerL : List El :=
  [⟨false, 0, -30000, 0, -3000, 0, 0, 0, 0, 0, 27000, 1, false⟩, ⟨true, 0, -3000, 879, -879, 3000, -3000, 3000, 97200000, 16200000, 2356, 1, false⟩,
   ⟨true, 879, -879, 3000, 0, 3000, -3000, 3000, 113400000, 16200000, 2356, 2, false⟩, ⟨false, 3000, 0, 30000, 0, 0, 0, 0, 0, 0, 27000, 2, false⟩]
theorem ce0 : elemF false 0 (-30000) 0 (-3000) 0 0 0 0 0 27000 = 0 := by
  unfold elemF
  rw [show (vldB 0 (-30000) && vldB 0 (-3000)) = true from by decide +kernel, show distF 0 (-30000) 0 (-3000) = 27000 from dist_of (by decide +kernel) 27000 (by decide +kernel) (by decide +kernel)]
  rw [if_neg (by decide), if_neg (by decide), if_neg (by decide), if_neg (by decide)]
theorem ce3 : elemF false 3000 0 30000 0 0 0 0 0 0 27000 = 0 := by
  unfold elemF
  rw [show (vldB 3000 0 && vldB 30000 0) = true from by decide +kernel, show distF 3000 0 30000 0 = 27000 from dist_of (by decide +kernel) 27000 (by decide +kernel) (by decide +kernel)]
  rw [if_neg (by decide), if_neg (by decide), if_neg (by decide), if_neg (by decide)]
theorem ce1 : elemF true 0 (-3000) 879 (-879) 3000 (-3000) 3000 97200000 16200000 2356 = 0 := by
  unfold elemF
  rw [show (vldB 0 (-3000) && vldB 879 (-879)) = true from by decide +kernel, show arcB 3000 (-3000) 3000 97200000 16200000 = true from by decide +kernel, show arcLen 3000 (-3000) 3000 97200000 16200000 = 2356 from by decide +kernel,
    show awayB 3000 (-3000) 3000 97200000 16200000 0 0 (-3000) = false from by decide +kernel, show awayB 3000 (-3000) 3000 97200000 16200000 2356 879 (-879) = false from by decide +kernel]
  rw [if_neg (by decide), if_pos rfl, if_neg (by decide), if_neg (by decide), if_neg (by decide)]
theorem ce2 : elemF true 879 (-879) 3000 0 3000 (-3000) 3000 113400000 16200000 2356 = 0 := by
  unfold elemF
  rw [show (vldB 879 (-879) && vldB 3000 0) = true from by decide +kernel, show arcB 3000 (-3000) 3000 113400000 16200000 = true from by decide +kernel, show arcLen 3000 (-3000) 3000 113400000 16200000 = 2356 from by decide +kernel,
    show awayB 3000 (-3000) 3000 113400000 16200000 0 879 (-879) = false from by decide +kernel, show awayB 3000 (-3000) 3000 113400000 16200000 2356 3000 0 = false from by decide +kernel]
  rw [if_neg (by decide), if_pos rfl, if_neg (by decide), if_neg (by decide), if_neg (by decide)]
theorem corner_chk : chkF cornerL 58712 = 0 := by
  unfold chkF cornerL
  rw [if_neg (by decide)]
  rw [chkG_cons, if_neg (fun h => h ce0), if_neg (by decide), if_neg (by decide)]
  rw [chkG_cons, if_neg (fun h => h ce1), if_neg (by decide), if_neg (by decide)]
  rw [chkG_cons, if_neg (fun h => h ce2), if_neg (by decide), if_neg (by decide)]
  rw [chkG_cons, if_neg (fun h => h ce3), if_neg (by decide), if_neg (by decide)]
  rw [chkG_nil, if_pos (by decide)]
theorem co00 : overF false 0 (-30000) 0 (-3000) 0 0 0 0 0 0 (-3000) = true := by decide +kernel
theorem co31 : overF false 3000 0 30000 0 0 0 0 0 0 30000 0 = true := by decide +kernel
theorem cc1 : courseF 3000 (-3000) 0 (-3000) = (97200000, 0) := by
  unfold courseF
  rw [show (vldB 3000 (-3000) && vldB 0 (-3000)) = true from by decide +kernel, if_neg (by decide), if_neg (by decide), show (0 : Int) - 3000 = -3000 from rfl, show (-3000 : Int) - -3000 = 0 from rfl]
  unfold atan2F
  rw [if_neg (by decide), if_neg (by decide), atanQ_y (by decide)]
  decide +kernel
theorem cc2 : ∃ c : Int, courseF 3000 (-3000) 30000 0 = (c, 0) ∧ 0 ≤ c ∧ c ≤ 32400000 := by
  refine ⟨atanQ 27000 3000, ?_, atanQ_bd _ _⟩
  unfold courseF
  rw [show (vldB 3000 (-3000) && vldB 30000 0) = true from by decide +kernel, if_neg (by decide), if_neg (by decide), show (30000 : Int) - 3000 = 27000 from rfl, show (0 : Int) - -3000 = 3000 from rfl]
  unfold atan2F
  rw [if_pos (by decide), if_pos (by decide)]
theorem co10 : overF true 0 (-3000) 879 (-879) 3000 (-3000) 3000 97200000 16200000 0 (-3000) = false := by
  unfold overF
  rw [cc1, show (vldB 0 (-3000) && vldB 0 (-3000) && vldB 879 (-879)) = true from by decide +kernel, show arcB 3000 (-3000) 3000 97200000 16200000 = true from by decide +kernel]
  decide +kernel
theorem co11 : overF true 0 (-3000) 879 (-879) 3000 (-3000) 3000 97200000 16200000 30000 0 = true := by
  obtain ⟨c, h, h1, h2⟩ := cc2
  unfold overF
  rw [h, show (vldB 30000 0 && vldB 0 (-3000) && vldB 879 (-879)) = true from by decide +kernel, show arcB 3000 (-3000) 3000 97200000 16200000 = true from by decide +kernel]
  rw [if_neg (by decide), if_pos rfl, if_neg (by decide)]
  refine decide_eq_true ?_
  rw [show decide ((0 : Int) ≤ 16200000) = true from rfl]
  unfold sweepF norm
  simp only [if_true]
  omega
theorem co21 : overF true 879 (-879) 3000 0 3000 (-3000) 3000 113400000 16200000 30000 0 = true := by
  obtain ⟨c, h, h1, h2⟩ := cc2
  unfold overF
  rw [h, show (vldB 30000 0 && vldB 879 (-879) && vldB 3000 0) = true from by decide +kernel, show arcB 3000 (-3000) 3000 113400000 16200000 = true from by decide +kernel]
  rw [if_neg (by decide), if_pos rfl, if_neg (by decide)]
  refine decide_eq_true ?_
  rw [show decide ((0 : Int) ≤ 16200000) = true from rfl]
  unfold sweepF norm
  simp only [if_true]
  omega
theorem corner_one : stepG cornerL 0 (-3000) 4 0 1 [] = (1, 1, false, []) := by
  rw [stepG_on (x := ⟨false, 0, -30000, 0, -3000, 0, 0, 0, 0, 0, 27000, 1, false⟩) (y := ⟨true, 0, -3000, 879, -879, 3000, -3000, 3000, 97200000, 16200000, 2356, 1, false⟩) rfl co00 rfl rfl, if_pos rfl]
  exact stepG_stay (x := ⟨true, 0, -3000, 879, -879, 3000, -3000, 3000, 97200000, 16200000, 2356, 1, false⟩) rfl co10
theorem corner_two : stepG cornerL 30000 0 3 1 1 [] = (3, 2, true, [1, 2]) := by
  rw [stepG_on (x := ⟨true, 0, -3000, 879, -879, 3000, -3000, 3000, 97200000, 16200000, 2356, 1, false⟩) (y := ⟨true, 879, -879, 3000, 0, 3000, -3000, 3000, 113400000, 16200000, 2356, 2, false⟩) rfl co11 rfl rfl, if_neg (by decide)]
  rw [stepG_on (x := ⟨true, 879, -879, 3000, 0, 3000, -3000, 3000, 113400000, 16200000, 2356, 2, false⟩) (y := ⟨false, 3000, 0, 30000, 0, 0, 0, 0, 0, 0, 27000, 2, false⟩) rfl co21 rfl rfl, if_pos rfl]
  exact stepG_end (x := ⟨false, 3000, 0, 30000, 0, 0, 0, 0, 0, 0, 27000, 2, false⟩) rfl co31 rfl
theorem corner_loc : ((0 : Int), (7000 : Int), (0 : Int)) = locF false 3000 0 30000 0 0 0 0 0 0 10000 0 := by
  unfold locF offF
  rw [if_neg (by decide), show (vldB 3000 0 && vldB 30000 0 && vldB 10000 0) = true from by decide +kernel, if_neg (by decide), if_neg (by decide)]
  unfold lenF
  rw [if_neg (by decide), if_neg (by decide), isq_of _ 0 (by decide +kernel) (by decide +kernel), isq_of _ 7000 (by decide +kernel) (by decide +kernel)]
  rfl
theorem corner_rest : restG cornerL 1 3 (27000 - clamp 7000 0 27000) = 20000 := by
  rw [restG, if_pos (show lastB cornerL 3 = true from rfl)]
  decide
theorem start_corner : ((0 : Int), (1 : Int), (0 : Int)) = startF cornerL 58712 0 := by
  unfold startF
  rw [corner_chk]
  rfl
end Go.Proofs.YtdfkkknkiioghaaGreat

