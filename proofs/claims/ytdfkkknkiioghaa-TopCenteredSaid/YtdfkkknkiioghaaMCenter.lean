/-
  The deviation at a point of a path. No program.
-/
import Derived.Test.YtdfkkknkiioghaaMSeqP
namespace Go.Proofs.Ytdfkkknkiioghaa
set_option linter.unusedVariables false
set_option linter.unusedSimpArgs false
/-! ### what the deviation is at a point of the path -/
theorem pat_ok {l : List El} {len t X Y C : Int} (h : patF l len t = (X, Y, C, 0)) : chkF l len = 0 ∧ 0 ≤ t ∧ t ≤ len ∧ ∃ T, pickG l t = some T ∧ ptF T.1 T.2 = (X, Y, C, 0) := by
  unfold patF at h
  by_cases hc : chkF l len = 0
  · rw [if_neg (by simp [hc])] at h
    by_cases ho : t < 0 ∨ len < t
    · rw [if_pos ho] at h
      exact absurd (congrArg (fun q => q.2.2.2) h) (by simp)
    · rw [if_neg ho] at h
      cases hp : pickG l t with
      | none =>
        rw [hp] at h
        exact absurd (congrArg (fun q => q.2.2.2) h) (by simp)
      | some T =>
        rw [hp] at h
        exact ⟨hc, by omega, by omega, T, rfl, h⟩
  · rw [if_pos hc] at h
    exact absurd (congrArg (fun q => q.2.2.2) h) hc
theorem pt_line {ax ay bx b_y cx cy r f s L n q X Y C : Int} {g : Bool} (h : ptF ⟨false, ax, ay, bx, b_y, cx, cy, r, f, s, L, n, g⟩ q = (X, Y, C, 0)) :
    X = ax + (muldiv 2 (bx - ax) q L).1 ∧ Y = ay + (muldiv 2 (b_y - ay) q L).1 ∧ courseF ax ay bx b_y = (C, 0) := by
  unfold ptF at h
  rw [if_neg (by simp)] at h
  have h1 := congrArg (fun t => t.1) h
  have h2 := congrArg (fun t => t.2.1) h
  have h3 := congrArg (fun t => t.2.2.1) h
  have h4 := congrArg (fun t => t.2.2.2) h
  dsimp only at h1 h2 h3 h4
  exact ⟨h1.symm, h2.symm, by rw [← h3, ← h4]⟩
theorem pt_arc {ax ay bx b_y cx cy r f s L n q X Y C : Int} {g : Bool} (h : ptF ⟨true, ax, ay, bx, b_y, cx, cy, r, f, s, L, n, g⟩ q = (X, Y, C, 0)) : arcAt cx cy r f s q = (X, Y, C, 0) := by
  unfold ptF at h
  rw [if_pos rfl] at h
  exact h
theorem diff_self (C : Int) : diffF C C = 0 := by unfold diffF norm; simp
theorem center_line {ax ay bx b_y cx cy r f s L n q X Y C v : Int} {g : Bool} {R : Int × Int} (he : elemF false ax ay bx b_y cx cy r f s L = 0) (h0 : 0 ≤ q) (h1 : q ≤ L) (hp : ptF ⟨false, ax, ay, bx, b_y, cx, cy, r, f, s, L, n, g⟩ q = (X, Y, C, 0))
    {T : Int × Int × Int × Int} (hT : T = errF false ax ay bx b_y cx cy r f s L X Y C v R) : ¬ T.2.2.2 = 0 ∨ T = (0, 0, 0, 0) := by
  obtain ⟨v1, v2, v3, v4, v5⟩ := elem_straight he
  obtain ⟨e1, e2, e3⟩ := pt_line hp
  have hL := elem_L he
  by_cases ho : C < 0 ∨ C ≥ 129600000 ∨ v < 1 ∨ v > 1000
  · rw [err_out ho] at hT
    left; rw [hT]; decide
  by_cases hv : vldB X Y = true
  · obtain ⟨al, hal⟩ := on_line v1 v2 v3 h0 h1 v5 hL.2 e1 e2 hv
    rw [err_line (o := 0) (al := al) ho (by unfold locF; rw [if_neg (by decide), hal]) e3.symm, if_pos rfl, diff_self] at hT
    exact .inr hT
  · left
    have hl : ((0 : Int), (0 : Int), (1 : Int)) = locF false ax ay bx b_y cx cy r f s X Y := by
      unfold locF offF
      rw [if_neg (by decide), if_pos (by simp [hv])]
    rw [err_loc ho hl (by decide)] at hT
    rw [hT]; decide
theorem center_arc {ax ay bx b_y cx cy r f s L n q X Y C v : Int} {g : Bool} {R : Int × Int} (hR : 1 ≤ bankV R ∧ bankV R ≤ 3000) (hp : ptF ⟨true, ax, ay, bx, b_y, cx, cy, r, f, s, L, n, g⟩ q = (X, Y, C, 0))
    {T : Int × Int × Int × Int} (hT : T = errF true ax ay bx b_y cx cy r f s L X Y C v R) : ¬ T.2.2.2 = 0 ∨ (T.2.2.2 = 0 ∧ (-1 ≤ T.1 ∧ T.1 ≤ 1) ∧ (-129600000 ≤ T.2.1 ∧ T.2.1 ≤ 129600000) ∧ arcB cx cy r f s = true ∧ (s < 0 → -3000 ≤ T.2.2.1 ∧ T.2.2.1 < 0) ∧ (0 ≤ s → 0 ≤ T.2.2.1 ∧ T.2.2.1 ≤ 3000)) := by
  have ha := pt_arc hp
  by_cases ho : C < 0 ∨ C ≥ 129600000 ∨ v < 1 ∨ v > 1000
  · rw [err_out ho] at hT
    left; rw [hT]; decide
  obtain ⟨⟨o, al, e⟩, hl⟩ : ∃ Q, Q = locF true ax ay bx b_y cx cy r f s X Y := ⟨_, rfl⟩
  by_cases h0 : e = 0
  · subst h0
    obtain ⟨⟨X2, Y2, C2, E2⟩, h2⟩ : ∃ Q, Q = arcAt cx cy r f s (alongV al L (arcLen cx cy r f s)) := ⟨_, rfl⟩
    rw [err_arc ho hl h2] at hT
    by_cases hE : E2 = 0
    · rw [if_pos hE] at hT
      right
      have hl2 : arcOff cx cy r f s X Y = (o, al, 0) := by
        unfold locF at hl
        rw [if_pos rfl] at hl
        exact hl.symm
      have ho2 := on_arc ha hl2
      have hd := diffF_bd C2 C
      subst hT
      unfold bankN
      refine ⟨rfl, ⟨ho2.1, ho2.2.1⟩, ⟨by dsimp only; omega, by dsimp only; omega⟩, ho2.2.2, fun h => ?_, fun h => ?_⟩
      · dsimp only
        rw [if_pos h]
        omega
      · dsimp only
        rw [if_neg (by omega)]
        omega
    · rw [if_neg hE] at hT
      left; rw [hT]; exact hE
  · rw [err_loc ho hl h0] at hT
    left; rw [hT]; exact h0
theorem elem_zero {ax ay bx b_y cx cy r f s L : Int} (h : elemF false ax ay bx b_y cx cy r f s L = 0) : r = 0 ∧ cx = 0 ∧ cy = 0 ∧ f = 0 ∧ s = 0 := by
  unfold elemF at h
  by_cases h1 : (!(vldB ax ay && vldB bx b_y)) = true
  · rw [if_pos h1] at h; cases h
  · rw [if_neg h1, if_neg (by decide)] at h
    by_cases h2 : ¬ (cx = 0 ∧ cy = 0 ∧ r = 0 ∧ f = 0 ∧ s = 0)
    · rw [if_pos h2] at h; cases h
    · omega
theorem elem_arcB {ax ay bx b_y cx cy r f s L : Int} (h : elemF true ax ay bx b_y cx cy r f s L = 0) : arcB cx cy r f s = true := by
  unfold elemF at h
  by_cases h1 : (!(vldB ax ay && vldB bx b_y)) = true
  · rw [if_pos h1] at h; cases h
  · rw [if_neg h1, if_pos rfl] at h
    by_cases h2 : (!arcB cx cy r f s) = true
    · rw [if_pos h2] at h; cases h
    · simpa using h2
theorem turnF_bd (a b : Int) : 0 ≤ turnF a b ∧ turnF a b < 129600000 := by
  rw [turnF_eq]
  omega
theorem arcAt_cbd {cx cy r f s al X Y C E : Int} (h : arcAt cx cy r f s al = (X, Y, C, E)) : 0 ≤ C ∧ C < 129600000 := by
  have h3 := congrArg (fun t => t.2.2.1) h
  dsimp only at h3
  unfold arcAt at h3
  split at h3
  · dsimp only at h3; omega
  · split at h3
    · dsimp only at h3; omega
    · split at h3
      · have := turnF_bd (arcDir f s (arcLen cx cy r f s) al) (sideOf s 32400000)
        dsimp only at h3
        omega
      · dsimp only at h3; omega
end Go.Proofs.Ytdfkkknkiioghaa

