/-
  The check of an element of a path by itself, by boxes.
-/
import Derived.Test.YteanfgobpjdmnaaGreatDoorMTurnM
import Derived.Test.YteanfgobpjdmnaaGreatDoorMPlan3
set_option maxRecDepth 100000
set_option maxHeartbeats 16000000
namespace Go.Proofs.YteanfgobpjdmnaaGreatDoor
open Go.RowKit
set_option linter.unusedVariables false
set_option linter.unusedSimpArgs false
theorem sJ (cx cy r f s al : Int) : (-2000000 ≤ (qI cx cy r f s al).1 ∧ (qI cx cy r f s al).1 ≤ 2000000) ∧ (-2000000 ≤ (qI cx cy r f s al).2.1 ∧ (qI cx cy r f s al).2.1 ≤ 2000000) := by
 unfold qI
 split
 · simp
 split
 · simp
 split
 · rename_i h
   obtain ⟨_, _, _, k, e1, e2⟩ := bz h
   have b := jo k
   simp only [e1, e2]
   omega
 · simp
theorem sK (px py qx qy : Int) (h0 : -4000000 ≤ px) (g0 : px ≤ 4000000) (h1 : -4000000 ≤ py) (g1 : py ≤ 4000000) (h2 : -4000000 ≤ qx) (g2 : qx ≤ 4000000) (h3 : -4000000 ≤ qy) (g3 : qy ≤ 4000000) (w : World) :
 Calls Tryz.prog 109 #[.agg #[.int .i64 px, .int .i64 py], .agg #[.int .i64 qx, .int .i64 qy]] w fun e w' => e = .returned (.bool (ng px py qx qy)) ∧ Below w.heap.size w w' := by
 have AX := fun W => kr (px - qx) (by unfold qH; omega) (by omega) W
 have AY := fun W => kr (py - qy) (by unfold qH; omega) (by omega) W
 have wx := IntWalk.i64_in (px - qx) (by omega)
 have wy := IntWalk.i64_in (py - qy) (by omega)
 have hM := qB w
 by_cases k1 : 16 < ((px - qx).natAbs : Int)
 · have hf : ng px py qx qy = true := decide_eq_true (.inl k1)
   rw [hf]
   go_enter Tryz.func109, Tryz.ntmps109
   go_wp2_with (first | (go_at_call 44; (first | (with_reducible refine (AX _).mono ?_) | (with_reducible refine (AY _).mono ?_)); rintro e W1 ⟨rfl, rfl⟩) | ((with_reducible refine lX ?_); refine mL ?_) | ((with_reducible refine sX ?_); refine mS ?_; clear hM; intro W hM) | ((with_reducible refine bX ?_); refine mB ?_; clear hM; intro g W hM) | ((with_reducible refine zX ?_); refine mB ?_; clear hM; intro g W hM))
   all_goals
    go_ret
    exact ⟨by first | rfl | (simp [k1]; done) | (simp [k1, k2]; done), hM.below⟩
 · by_cases k2 : 16 < ((py - qy).natAbs : Int)
   · have hf : ng px py qx qy = true := decide_eq_true (.inr k2)
     rw [hf]
     go_enter Tryz.func109, Tryz.ntmps109
     go_wp2_with (first | (go_at_call 44; (first | (with_reducible refine (AX _).mono ?_) | (with_reducible refine (AY _).mono ?_)); rintro e W1 ⟨rfl, rfl⟩) | ((with_reducible refine lX ?_); refine mL ?_) | ((with_reducible refine sX ?_); refine mS ?_; clear hM; intro W hM) | ((with_reducible refine bX ?_); refine mB ?_; clear hM; intro g W hM) | ((with_reducible refine zX ?_); refine mB ?_; clear hM; intro g W hM))
     all_goals
      go_ret
      exact ⟨by first | rfl | (simp [k1]; done) | (simp [k1, k2]; done), hM.below⟩
   · have hf : ng px py qx qy = false := decide_eq_false (by rintro (h | h); exact k1 h; exact k2 h)
     rw [hf]
     go_enter Tryz.func109, Tryz.ntmps109
     go_wp2_with (first | (go_at_call 44; (first | (with_reducible refine (AX _).mono ?_) | (with_reducible refine (AY _).mono ?_)); rintro e W1 ⟨rfl, rfl⟩) | ((with_reducible refine lX ?_); refine mL ?_) | ((with_reducible refine sX ?_); refine mS ?_; clear hM; intro W hM) | ((with_reducible refine bX ?_); refine mB ?_; clear hM; intro g W hM) | ((with_reducible refine zX ?_); refine mB ?_; clear hM; intro g W hM))
     all_goals
      go_ret
      exact ⟨by first | rfl | (simp [k1]; done) | (simp [k1, k2]; done), hM.below⟩
theorem Gs (cx cy r f s al px py : Int) (hp : qf px py = true) (w : World) :
 Calls Tryz.prog 79 #[.agg #[.int .i64 cx, .int .i64 cy, .int .i64 r, .int .i64 f, .int .i64 s], .int .i64 al, .agg #[.int .i64 px, .int .i64 py]] w fun e w' => e = .returned (.bool (uW cx cy r f s al px py)) ∧ Below w.heap.size w w' := by
 have b := sJ cx cy r f s al
 have v := jo hp
 have AT := fun W => bS cx cy r f s al W _ rfl
 unfold uW
 obtain ⟨⟨x, y, k, E⟩, hR⟩ : ∃ R, qI cx cy r f s al = R := ⟨_, rfl⟩
 rw [hR] at AT b
 rw [hR]
 dsimp only at b
 have FA := fun W => sK px py x y (by omega) (by omega) (by omega) (by omega) (by omega) (by omega) (by omega) (by omega) W
 clear b v hR
 have hM := qB w
 by_cases h0 : E = 0
 · subst h0
   rw [decide_eq_true (show ((x, y, k, (0 : Int)) : Int × Int × Int × Int).2.2.2 = 0 from rfl), Bool.true_and]
   dsimp only
   go_enter Tryz.func79, Tryz.ntmps79
   go_wp2_with (first | (go_at_call 78; (first | (with_reducible refine cb hM (AT _) ?_)); clear hM; intro W1 hM) | (go_at_call 109; (first | (with_reducible refine cb hM (FA _) ?_)); clear hM; intro W1 hM) | ((with_reducible refine lX ?_); refine mL ?_) | ((with_reducible refine sX ?_); refine mS ?_; clear hM; intro W hM) | ((with_reducible refine bX ?_); refine mB ?_; clear hM; intro g W hM) | ((with_reducible refine zX ?_); refine mB ?_; clear hM; intro g W hM))
   all_goals
    go_ret
    exact ⟨rfl, hM.below⟩
 · have h1 : (E == 0) = false := by simpa using h0
   rw [decide_eq_false (show ¬ ((x, y, k, E) : Int × Int × Int × Int).2.2.2 = 0 from h0), Bool.false_and]
   clear h0
   go_enter Tryz.func79, Tryz.ntmps79
   go_wp2_with (first | (go_at_call 78; (first | (with_reducible refine cb hM (AT _) ?_)); clear hM; intro W1 hM) | ((with_reducible refine lX ?_); refine mL ?_) | ((with_reducible refine sX ?_); refine mS ?_; clear hM; intro W hM) | ((with_reducible refine bX ?_); refine mB ?_; clear hM; intro g W hM) | ((with_reducible refine zX ?_); refine mB ?_; clear hM; intro g W hM))
   all_goals
    go_ret
    exact ⟨rfl, hM.below⟩
theorem sL (c g : Bool) (ax ay bx b_y cx cy r f s L n : Int) (w : World) :
 Calls Tryz.prog 40 #[.agg #[.bool c, .int .i64 ax, .int .i64 ay, .int .i64 bx, .int .i64 b_y, .int .i64 cx, .int .i64 cy, .int .i64 r, .int .i64 f, .int .i64 s, .int .i64 L, .int .i64 n, .bool g]] w fun e w' => e = .returned (.int .i64 (uX c ax ay bx b_y cx cy r f s L)) ∧ Below w.heap.size w w' := by
 have PA := fun W => qo ax ay W
 have PB := fun W => qo bx b_y W
 have DI := fun W => jJ ax ay bx b_y W
 have TV := fun W => xw cx cy r f s W
 have TL := fun W => bR cx cy r f s W
 have hM := qB w
 unfold uX
 rcases ha : qf ax ay with _ | _
 · rw [ha] at PA
   rw [Bool.false_and, if_pos (by simp)]
   clear ha
   go_enter Tryz.func40, Tryz.ntmps40
   go_wp2_with (first | (go_at_call 16; (first | (with_reducible refine cb hM (PA _) ?_) | (with_reducible refine cb hM (PB _) ?_)); clear hM; intro W1 hM) | ((with_reducible refine lX ?_); refine mL ?_) | ((with_reducible refine sX ?_); refine mS ?_; clear hM; intro W hM) | ((with_reducible refine bX ?_); refine mB ?_; clear hM; intro g W hM) | ((with_reducible refine zX ?_); refine mB ?_; clear hM; intro g W hM))
   all_goals
    go_ret
    exact ⟨rfl, hM.below⟩
 rcases hb : qf bx b_y with _ | _
 · rw [ha] at PA
   rw [hb] at PB
   rw [Bool.true_and, if_pos (by simp)]
   clear ha hb
   go_enter Tryz.func40, Tryz.ntmps40
   go_wp2_with (first | (go_at_call 16; (first | (with_reducible refine cb hM (PA _) ?_) | (with_reducible refine cb hM (PB _) ?_)); clear hM; intro W1 hM) | ((with_reducible refine lX ?_); refine mL ?_) | ((with_reducible refine sX ?_); refine mS ?_; clear hM; intro W hM) | ((with_reducible refine bX ?_); refine mB ?_; clear hM; intro g W hM) | ((with_reducible refine zX ?_); refine mB ?_; clear hM; intro g W hM))
   all_goals
    go_ret
    exact ⟨rfl, hM.below⟩
 have A0 := fun W => Gs cx cy r f s 0 ax ay ha W
 have A1 := fun W => Gs cx cy r f s (qA cx cy r f s) bx b_y hb W
 rw [ha] at PA
 rw [hb] at PB
 rw [Bool.true_and, if_neg (by simp)]
 obtain ⟨D, hD⟩ : ∃ D, qJ ax ay bx b_y = D := ⟨_, rfl⟩
 rw [hD] at DI
 rw [hD]
 clear ha hb hD
 rcases c with _ | _
 · rw [if_neg (by simp)]
   clear TV TL A0 A1
   by_cases hz : cx = 0 ∧ cy = 0 ∧ r = 0 ∧ f = 0 ∧ s = 0
   · obtain ⟨rfl, rfl, rfl, rfl, rfl⟩ := hz
     rw [if_neg (by simp)]
     by_cases h1 : L < 1
     · rw [if_pos (.inl h1)]
       go_enter Tryz.func40, Tryz.ntmps40
       go_wp2_with (first | (go_at_call 16; (first | (with_reducible refine cb hM (PA _) ?_) | (with_reducible refine cb hM (PB _) ?_)); clear hM; intro W1 hM) | (go_at_call 32; (first | (with_reducible refine cb hM (DI _) ?_)); clear hM; intro W1 hM) | (go_at_call 42; (first | (with_reducible refine cb hM (TV _) ?_)); clear hM; intro W1 hM) | (go_at_call 33; (first | (with_reducible refine cb hM (TL _) ?_)); clear hM; intro W1 hM) | ((with_reducible refine lX ?_); refine mL ?_) | ((with_reducible refine sX ?_); refine mS ?_; clear hM; intro W hM) | ((with_reducible refine bX ?_); refine mB ?_; clear hM; intro g W hM) | ((with_reducible refine zX ?_); refine mB ?_; clear hM; intro g W hM))
       all_goals
        go_ret
        exact ⟨rfl, hM.below⟩
     · by_cases h2 : L = D
       · rw [if_neg (by rintro (h | h); exact h1 h; exact h h2)]
         have h3 : (L != D) = false := by simpa using h2
         clear h2
         go_enter Tryz.func40, Tryz.ntmps40
         go_wp2_with (first | (go_at_call 16; (first | (with_reducible refine cb hM (PA _) ?_) | (with_reducible refine cb hM (PB _) ?_)); clear hM; intro W1 hM) | (go_at_call 32; (first | (with_reducible refine cb hM (DI _) ?_)); clear hM; intro W1 hM) | (go_at_call 42; (first | (with_reducible refine cb hM (TV _) ?_)); clear hM; intro W1 hM) | (go_at_call 33; (first | (with_reducible refine cb hM (TL _) ?_)); clear hM; intro W1 hM) | ((with_reducible refine lX ?_); refine mL ?_) | ((with_reducible refine sX ?_); refine mS ?_; clear hM; intro W hM) | ((with_reducible refine bX ?_); refine mB ?_; clear hM; intro g W hM) | ((with_reducible refine zX ?_); refine mB ?_; clear hM; intro g W hM))
         all_goals
          go_ret
          exact ⟨rfl, hM.below⟩
       · rw [if_pos (.inr h2)]
         have h3 : (L != D) = true := by simpa using h2
         clear h2
         go_enter Tryz.func40, Tryz.ntmps40
         go_wp2_with (first | (go_at_call 16; (first | (with_reducible refine cb hM (PA _) ?_) | (with_reducible refine cb hM (PB _) ?_)); clear hM; intro W1 hM) | (go_at_call 32; (first | (with_reducible refine cb hM (DI _) ?_)); clear hM; intro W1 hM) | (go_at_call 42; (first | (with_reducible refine cb hM (TV _) ?_)); clear hM; intro W1 hM) | (go_at_call 33; (first | (with_reducible refine cb hM (TL _) ?_)); clear hM; intro W1 hM) | ((with_reducible refine lX ?_); refine mL ?_) | ((with_reducible refine sX ?_); refine mS ?_; clear hM; intro W hM) | ((with_reducible refine bX ?_); refine mB ?_; clear hM; intro g W hM) | ((with_reducible refine zX ?_); refine mB ?_; clear hM; intro g W hM))
         all_goals
          go_ret
          exact ⟨rfl, hM.below⟩
   · rw [if_pos hz]
     have hcs : (cx == 0) = false ∨ ((cx == 0) = true ∧ (cy == 0) = false) ∨ ((cx == 0) = true ∧ (cy == 0) = true ∧ (r == 0) = false) ∨ ((cx == 0) = true ∧ (cy == 0) = true ∧ (r == 0) = true ∧ (f == 0) = false) ∨ ((cx == 0) = true ∧ (cy == 0) = true ∧ (r == 0) = true ∧ (f == 0) = true ∧ (s == 0) = false) := by
      by_cases z1 : cx = 0
      · by_cases z2 : cy = 0
        · by_cases z3 : r = 0
          · by_cases z4 : f = 0
            · have z5 : ¬ s = 0 := fun z5 => hz ⟨z1, z2, z3, z4, z5⟩
              exact .inr (.inr (.inr (.inr ⟨by simpa using z1, by simpa using z2, by simpa using z3, by simpa using z4, by simpa using z5⟩)))
            · exact .inr (.inr (.inr (.inl ⟨by simpa using z1, by simpa using z2, by simpa using z3, by simpa using z4⟩)))
          · exact .inr (.inr (.inl ⟨by simpa using z1, by simpa using z2, by simpa using z3⟩))
        · exact .inr (.inl ⟨by simpa using z1, by simpa using z2⟩)
      · exact .inl (by simpa using z1)
     clear hz
     rcases hcs with z1 | ⟨z1, z2⟩ | ⟨z1, z2, z3⟩ | ⟨z1, z2, z3, z4⟩ | ⟨z1, z2, z3, z4, z5⟩
     all_goals (
      go_enter Tryz.func40, Tryz.ntmps40
      go_wp2_with (first | (go_at_call 16; (first | (with_reducible refine cb hM (PA _) ?_) | (with_reducible refine cb hM (PB _) ?_)); clear hM; intro W1 hM) | (go_at_call 32; (first | (with_reducible refine cb hM (DI _) ?_)); clear hM; intro W1 hM) | (go_at_call 42; (first | (with_reducible refine cb hM (TV _) ?_)); clear hM; intro W1 hM) | (go_at_call 33; (first | (with_reducible refine cb hM (TL _) ?_)); clear hM; intro W1 hM) | ((with_reducible refine lX ?_); refine mL ?_) | ((with_reducible refine sX ?_); refine mS ?_; clear hM; intro W hM) | ((with_reducible refine bX ?_); refine mB ?_; clear hM; intro g W hM) | ((with_reducible refine zX ?_); refine mB ?_; clear hM; intro g W hM))
      all_goals
       go_ret
       exact ⟨rfl, hM.below⟩
      )
 · rw [if_pos (by simp)]
   rcases hB : yX cx cy r f s with _ | _
   · rw [hB] at TV
     rw [if_pos (by simp)]
     clear hB
     go_enter Tryz.func40, Tryz.ntmps40
     go_wp2_with (first | (go_at_call 16; (first | (with_reducible refine cb hM (PA _) ?_) | (with_reducible refine cb hM (PB _) ?_)); clear hM; intro W1 hM) | (go_at_call 32; (first | (with_reducible refine cb hM (DI _) ?_)); clear hM; intro W1 hM) | (go_at_call 42; (first | (with_reducible refine cb hM (TV _) ?_)); clear hM; intro W1 hM) | (go_at_call 33; (first | (with_reducible refine cb hM (TL _) ?_)); clear hM; intro W1 hM) | ((with_reducible refine lX ?_); refine mL ?_) | ((with_reducible refine sX ?_); refine mS ?_; clear hM; intro W hM) | ((with_reducible refine bX ?_); refine mB ?_; clear hM; intro g W hM) | ((with_reducible refine zX ?_); refine mB ?_; clear hM; intro g W hM))
     all_goals
      go_ret
      exact ⟨rfl, hM.below⟩
   rw [hB] at TV
   rw [if_neg (by simp)]
   obtain ⟨n1, hn⟩ : ∃ n1, qA cx cy r f s = n1 := ⟨_, rfl⟩
   rw [hn] at TL A1
   rw [hn]
   clear hB hn
   by_cases h1 : L < 1
   · rw [if_pos (.inl h1)]
     go_enter Tryz.func40, Tryz.ntmps40
     go_wp2_with (first | (go_at_call 16; (first | (with_reducible refine cb hM (PA _) ?_) | (with_reducible refine cb hM (PB _) ?_)); clear hM; intro W1 hM) | (go_at_call 32; (first | (with_reducible refine cb hM (DI _) ?_)); clear hM; intro W1 hM) | (go_at_call 42; (first | (with_reducible refine cb hM (TV _) ?_)); clear hM; intro W1 hM) | (go_at_call 33; (first | (with_reducible refine cb hM (TL _) ?_)); clear hM; intro W1 hM) | ((with_reducible refine lX ?_); refine mL ?_) | ((with_reducible refine sX ?_); refine mS ?_; clear hM; intro W hM) | ((with_reducible refine bX ?_); refine mB ?_; clear hM; intro g W hM) | ((with_reducible refine zX ?_); refine mB ?_; clear hM; intro g W hM))
     all_goals
      go_ret
      exact ⟨rfl, hM.below⟩
   by_cases h2 : L = n1
   rotate_left 1
   · rw [if_pos (.inr h2)]
     have h3 : (L != n1) = true := by simpa using h2
     clear h2
     go_enter Tryz.func40, Tryz.ntmps40
     go_wp2_with (first | (go_at_call 16; (first | (with_reducible refine cb hM (PA _) ?_) | (with_reducible refine cb hM (PB _) ?_)); clear hM; intro W1 hM) | (go_at_call 32; (first | (with_reducible refine cb hM (DI _) ?_)); clear hM; intro W1 hM) | (go_at_call 42; (first | (with_reducible refine cb hM (TV _) ?_)); clear hM; intro W1 hM) | (go_at_call 33; (first | (with_reducible refine cb hM (TL _) ?_)); clear hM; intro W1 hM) | ((with_reducible refine lX ?_); refine mL ?_) | ((with_reducible refine sX ?_); refine mS ?_; clear hM; intro W hM) | ((with_reducible refine bX ?_); refine mB ?_; clear hM; intro g W hM) | ((with_reducible refine zX ?_); refine mB ?_; clear hM; intro g W hM))
     all_goals
      go_ret
      exact ⟨rfl, hM.below⟩
   rw [if_neg (by rintro (h | h); exact h1 h; exact h h2)]
   have h3 : (L != n1) = false := by simpa using h2
   clear h2
   obtain ⟨b0, hb0⟩ : ∃ b, uW cx cy r f s 0 ax ay = b := ⟨_, rfl⟩
   obtain ⟨b1, hb1⟩ : ∃ b, uW cx cy r f s n1 bx b_y = b := ⟨_, rfl⟩
   rw [hb0] at A0
   rw [hb1] at A1
   rw [hb0, hb1]
   clear hb0 hb1
   rcases b0 with _ | _
   · rcases b1 with _ | _
     · rw [if_neg (by simp)]
       go_enter Tryz.func40, Tryz.ntmps40
       go_wp2_with (first | (go_at_call 16; (first | (with_reducible refine cb hM (PA _) ?_) | (with_reducible refine cb hM (PB _) ?_)); clear hM; intro W1 hM) | (go_at_call 32; (first | (with_reducible refine cb hM (DI _) ?_)); clear hM; intro W1 hM) | (go_at_call 42; (first | (with_reducible refine cb hM (TV _) ?_)); clear hM; intro W1 hM) | (go_at_call 33; (first | (with_reducible refine cb hM (TL _) ?_)); clear hM; intro W1 hM) | (go_at_call 79; (first | (with_reducible refine cb hM (A0 _) ?_) | (with_reducible refine cb hM (A1 _) ?_)); clear hM; intro W1 hM) | ((with_reducible refine lX ?_); refine mL ?_) | ((with_reducible refine sX ?_); refine mS ?_; clear hM; intro W hM) | ((with_reducible refine bX ?_); refine mB ?_; clear hM; intro g W hM) | ((with_reducible refine zX ?_); refine mB ?_; clear hM; intro g W hM))
       all_goals
        go_ret
        exact ⟨rfl, hM.below⟩
     · rw [if_pos (by simp)]
       go_enter Tryz.func40, Tryz.ntmps40
       go_wp2_with (first | (go_at_call 16; (first | (with_reducible refine cb hM (PA _) ?_) | (with_reducible refine cb hM (PB _) ?_)); clear hM; intro W1 hM) | (go_at_call 32; (first | (with_reducible refine cb hM (DI _) ?_)); clear hM; intro W1 hM) | (go_at_call 42; (first | (with_reducible refine cb hM (TV _) ?_)); clear hM; intro W1 hM) | (go_at_call 33; (first | (with_reducible refine cb hM (TL _) ?_)); clear hM; intro W1 hM) | (go_at_call 79; (first | (with_reducible refine cb hM (A0 _) ?_) | (with_reducible refine cb hM (A1 _) ?_)); clear hM; intro W1 hM) | ((with_reducible refine lX ?_); refine mL ?_) | ((with_reducible refine sX ?_); refine mS ?_; clear hM; intro W hM) | ((with_reducible refine bX ?_); refine mB ?_; clear hM; intro g W hM) | ((with_reducible refine zX ?_); refine mB ?_; clear hM; intro g W hM))
       all_goals
        go_ret
        exact ⟨rfl, hM.below⟩
   · rw [if_pos (by simp)]
     go_enter Tryz.func40, Tryz.ntmps40
     go_wp2_with (first | (go_at_call 16; (first | (with_reducible refine cb hM (PA _) ?_) | (with_reducible refine cb hM (PB _) ?_)); clear hM; intro W1 hM) | (go_at_call 32; (first | (with_reducible refine cb hM (DI _) ?_)); clear hM; intro W1 hM) | (go_at_call 42; (first | (with_reducible refine cb hM (TV _) ?_)); clear hM; intro W1 hM) | (go_at_call 33; (first | (with_reducible refine cb hM (TL _) ?_)); clear hM; intro W1 hM) | (go_at_call 79; (first | (with_reducible refine cb hM (A0 _) ?_) | (with_reducible refine cb hM (A1 _) ?_)); clear hM; intro W1 hM) | ((with_reducible refine lX ?_); refine mL ?_) | ((with_reducible refine sX ?_); refine mS ?_; clear hM; intro W hM) | ((with_reducible refine bX ?_); refine mB ?_; clear hM; intro g W hM) | ((with_reducible refine zX ?_); refine mB ?_; clear hM; intro g W hM))
     all_goals
      go_ret
      exact ⟨rfl, hM.below⟩
theorem VK {w : World} {b o : Nat} {x : El} (h : KC w b o x) : ∀ (j : Nat) (v : Value), x.cells[j]? = some v → w.cell? ⟨b, o + j, none⟩ = some v := by
 intro j v hj
 have hj2 : j < 13 := (List.getElem?_eq_some_iff.1 hj).1
 obtain ⟨h0, h1, h2, h3, h4, h5, h6, h7, h8, h9, h10, h11, h12⟩ := h
 obtain rfl | rfl | rfl | rfl | rfl | rfl | rfl | rfl | rfl | rfl | rfl | rfl | rfl : j = 0 ∨ j = 1 ∨ j = 2 ∨ j = 3 ∨ j = 4 ∨ j = 5 ∨ j = 6 ∨ j = 7 ∨ j = 8 ∨ j = 9 ∨ j = 10 ∨ j = 11 ∨ j = 12 := by omega
 all_goals
  injection hj with hj
  subst hj
  assumption
set_option maxRecDepth 100000 in
set_option maxHeartbeats 8000000 in
theorem aU (S : Option Addr) (l : List El) (cap : Nat) (len : Int) (w : World) (h2 : l.length ≤ 9223372036854775807) (hp : Hid (yI w S l)) :
 Calls Tryz.prog 15 #[.agg #[.slice S l.length cap, .int .i64 len]] w fun e w' => e = .returned (.int .i64 (vX l len)) ∧ Below w.heap.size w w' := by
 by_cases h5 : 500 < l.length
 · have HR : Hid (vX l len = 3) := hide (by unfold vX; rw [if_pos h5])
   rw [HR.out]
   have k1 : (500 : Int) < l.length := by omega
   have hM := qB w
   go_enter Tryz.func15, Tryz.ntmps15
   go_wp2_with (first | ((with_reducible refine lX ?_); refine mL ?_) | ((with_reducible refine sX ?_); refine mS ?_; clear hM; intro W hM) | ((with_reducible refine bX ?_); refine mB ?_; clear hM; intro g W hM) | ((with_reducible refine zX ?_); refine mB ?_; clear hM; intro g W hM))
   all_goals
    go_ret
    exact ⟨rfl, hM.below⟩
 have H0 : Hid (Qh len true 0 0 0 0 l = vX l len) := hide (by unfold vX; rw [if_neg h5])
 obtain ⟨R, hR⟩ : ∃ R, vX l len = R := ⟨_, rfl⟩
 rw [hR] at H0 ⊢
 clear hR
 have k1 : ¬ (500 : Int) < l.length := by omega
 have hM := qB w
 go_enter Tryz.func15, Tryz.ntmps15
 go_upto_region 1 with (first | ((with_reducible refine lX ?_); refine mL ?_) | ((with_reducible refine sX ?_); refine mS ?_; clear hM; intro W hM) | ((with_reducible refine bX ?_); refine mB ?_; clear hM; intro g W hM) | ((with_reducible refine zX ?_); refine mB ?_; clear hM; intro g W hM))
 obtain ⟨gp, rfl⟩ : ∃ gp, gp = g := ⟨_, rfl⟩
 try simp only [pS, pN, sA, sB, sC]
 go_wp2_with (first | ((with_reducible refine lX ?_); refine mL ?_) | ((with_reducible refine sX ?_); refine mS ?_; clear hM; intro W hM) | ((with_reducible refine zX ?_); refine mB ?_; clear hM; intro g W hM))
 go_loopw [3, 4, 15] (fun s3 s4 s15 wx => ∃ (j : Nat) (en px py sum : Int), j ≤ l.length ∧ s3 = .int .i64 sum ∧ s4 = .int .i64 en ∧ s15 = .int .i64 j ∧ Hid (Qh len (decide (j = 0)) en px py sum (l.drop j) = R) ∧ Hid (∀ (i : Nat) (u : El), j = i + 1 → l[i]? = some u → px = u.bx ∧ py = u.b_y) ∧ (0 ≤ sum ∧ sum ≤ 60000000 * j) ∧ qQ w wx [(gp, [.slice S l.length cap, .int .i64 len], 42)]) (fun _ _ i _ => l.length - (intOf i).toNat)
 case atStart => exact ⟨0, 0, 0, 0, 0, Nat.zero_le _, rfl, rfl, rfl, H0, hide (fun i u hi => by omega), ⟨by omega, by omega⟩, hM⟩
 case round =>
  clear hM H0
  obtain ⟨j, en, px, py, sum, hj, rfl, rfl, rfl, G, Y, hs, hM⟩ := hrel
  by_cases hlt : j < l.length
  · obtain ⟨x, hx⟩ : ∃ x, l[j]? = some x := ⟨_, List.getElem?_eq_getElem hlt⟩
    obtain ⟨b, o, rfl, hel⟩ := hp.out j x hx
    have HXA := hide (VK hel)
    have HX := hide hx
    have G2 : Hid ((if ¬ x.err = 0 then x.err else if x.n < en ∨ (decide (j = 0) = true ∧ x.g = true) then 9 else if decide (j = 0) = false ∧ x.g = false ∧ ¬ (x.ax = px ∧ x.ay = py) then 10 else Qh len false x.n x.bx x.b_y (sum + x.L) (l.drop (j + 1))) = R) := hide (by
     have h := G.out
     obtain ⟨h1, h2⟩ := List.getElem?_eq_some_iff.1 hx
     rw [List.drop_eq_getElem_cons h1, h2, kC] at h
     exact h)
    have EC := fun g W => sL x.c g x.ax x.ay x.bx x.b_y x.cx x.cy x.r x.f x.s x.L x.n W
    obtain ⟨E, hE⟩ : ∃ E, uX x.c x.ax x.ay x.bx x.b_y x.cx x.cy x.r x.f x.s x.L = E := ⟨_, rfl⟩
    rw [hE] at EC
    have HE : Hid (x.err = E) := hide hE
    clear hel hx G
    go_upto_region 7 with (first | ((with_reducible refine lX ?_); refine uT hM rfl (by first | exact rfl | (go_simp; done)) rfl (BC rfl) HXA.out (Qu rfl) ?_) | ((with_reducible refine lX ?_); refine mL ?_) | ((with_reducible refine sX ?_); refine mS ?_; clear hM; intro W hM) | ((with_reducible refine zX ?_); refine mB ?_; clear hM; intro g W hM))
    obtain ⟨gx, rfl⟩ : ∃ gx, gx = g := ⟨_, rfl⟩
    try simp only [pS, pN, sA, sB, sC]
    by_cases e0 : E = 0
    rotate_left 1
    · have HR := hide (show E = R by rw [← G2.out, HE.out, if_pos e0])
      have e1 : (E != 0) = true := by simpa using e0
      clear G2 Y e0
      go_wp2_with (first | (go_at_call 40; (with_reducible refine cb hM (EC _ _) ?_); clear hM; intro W1 hM) | ((with_reducible refine lX ?_); refine mL ?_) | ((with_reducible refine sX ?_); refine mS ?_; clear hM; intro W hM) | ((with_reducible refine zX ?_); refine mB ?_; clear hM; intro g W hM))
      all_goals
       go_ret
       exact ⟨by first | rfl | (rw [← HR.out]; rfl) | (rw [HR.out]; rfl) | (rw [HR.out]), hM.below⟩
    · subst e0
      have hb := iE hE
      clear hE
      have G3 : Hid ((if x.n < en ∨ (decide (j = 0) = true ∧ x.g = true) then 9 else if decide (j = 0) = false ∧ x.g = false ∧ ¬ (x.ax = px ∧ x.ay = py) then 10 else Qh len false x.n x.bx x.b_y (sum + x.L) (l.drop (j + 1))) = R) := hide (by
       have h := G2.out
       rw [HE.out, if_neg (by simp)] at h
       exact h)
      clear G2
      by_cases a1 : x.n < en
      · have HR := hide (show (9 : Int) = R by rw [← G3.out, if_pos (.inl a1)])
        clear G3 Y
        go_wp2_with (first | (go_at_call 40; (with_reducible refine cb hM (EC _ _) ?_); clear hM; intro W1 hM) | ((with_reducible refine lX ?_); refine mL ?_) | ((with_reducible refine sX ?_); refine mS ?_; clear hM; intro W hM) | ((with_reducible refine zX ?_); refine mB ?_; clear hM; intro g W hM))
        all_goals
         go_ret
         exact ⟨by first | rfl | (rw [← HR.out]; rfl) | (rw [← HR.out]), hM.below⟩
      have HA1 := hide a1
      obtain ⟨xg, hxg⟩ : ∃ b, x.g = b := ⟨_, rfl⟩
      rw [hxg] at hM G3
      have HXG := hide hxg
      clear hxg
      by_cases h0 : j = 0
      · have e1 : ((j : Int) == 0) = true := by simp [h0]
        have HJ0 := hide h0
        rcases xg with _ | _
        rotate_left 1
        · have HR := hide (show (9 : Int) = R by rw [← G3.out, if_pos (.inr ⟨decide_eq_true h0, rfl⟩)])
          clear G3 Y h0
          go_wp2_with (first | (go_at_call 40; (with_reducible refine cb hM (EC _ _) ?_); clear hM; intro W1 hM) | ((with_reducible refine lX ?_); refine mL ?_) | ((with_reducible refine sX ?_); refine mS ?_; clear hM; intro W hM) | ((with_reducible refine zX ?_); refine mB ?_; clear hM; intro g W hM))
          all_goals
           go_ret
           exact ⟨by first | rfl | (rw [← HR.out]; rfl) | (rw [← HR.out]), hM.below⟩
        · have HN : Hid (Qh len (decide (j + 1 = 0)) x.n x.bx x.b_y (sum + x.L) (l.drop (j + 1)) = R) := hide (by
           have h := G3.out
           rw [if_neg (by rintro (h | h); (have := HA1.out; omega); cases h.2), if_neg (by rintro ⟨h, _⟩; rw [decide_eq_true h0] at h; cases h)] at h
           exact h)
          clear G3 Y h0
          have w1 := IntWalk.i64_in (sum + x.L) (by omega)
          go_upto_region 12 with (first | (go_at_call 40; (with_reducible refine cb hM (EC _ _) ?_); clear hM; intro W1 hM) | ((with_reducible refine lX ?_); refine mL ?_) | ((with_reducible refine sX ?_); refine mS ?_; clear hM; intro W hM) | ((with_reducible refine zX ?_); refine mB ?_; clear hM; intro g W hM))
          try simp only [pS, pN, sA, sB, sC]
          go_cut [55] (fun s wx => s = .bool false ∧ qQ w wx [(gx, [.bool x.c, .int .i64 x.ax, .int .i64 x.ay, .int .i64 x.bx, .int .i64 x.b_y, .int .i64 x.cx, .int .i64 x.cy, .int .i64 x.r, .int .i64 x.f, .int .i64 x.s, .int .i64 x.L, .int .i64 x.n, .bool false], 49), (gp, [.slice (some ⟨b, o, none⟩) l.length cap, .int .i64 len], 42)])
          case first =>
           obtain rfl : j = 0 := HJ0.out
           try simp only [Int.natCast_zero, Int.ofNat_zero, Int.cast_ofNat_Int]
           go_quiet (fail)
           all_goals
            go_wp2_with fail
            all_goals
             go_meet
             exact ⟨by first | rfl | (simp; done), by first | exact hM | exact zG hM | exact zK hM _ | exact zG (zG hM)⟩
          case rest =>
          clear hM
          obtain ⟨rfl, hM⟩ := hcut
          go_wp2_with (first | ((with_reducible refine lX ?_); refine mL ?_) | ((with_reducible refine sX ?_); refine mS ?_; clear hM; intro W hM) | ((with_reducible refine zX ?_); refine mB ?_; clear hM; intro g W hM))
          all_goals
           (go_roundw
            case rel => exact ⟨j + 1, x.n, x.bx, x.b_y, sum + x.L, by omega, rfl, rfl, by go_num, HN, hide (fun i u hi hu => by
             obtain rfl : i = j := by omega
             rw [HX.out] at hu
             injection hu with hu
             subst hu
             exact ⟨rfl, rfl⟩), ⟨by omega, by omega⟩, qz hM⟩
            case measure => simp [intOf]; omega)
      · obtain ⟨i, rfl⟩ : ∃ i, j = i + 1 := ⟨j - 1, by omega⟩
        obtain ⟨u, hu⟩ : ∃ u, l[i]? = some u := ⟨_, List.getElem?_eq_getElem (by omega)⟩
        have hy := Y.out i u rfl hu
        obtain ⟨b2, o2, he2, hel2⟩ := hp.out i u hu
        injection he2 with he2
        injection he2 with ea eb
        subst ea eb
        have HUA := hide (VK hel2)
        clear hu hel2 Y h0
        have e1 : ((i : Int) + 1 == 0) = false := by simp; omega
        have iw : IntKind.i64.wrap ((i : Int) + 1 - 1) = i := by rw [show (i : Int) + 1 - 1 = i by omega]; exact IntWalk.i64_in _ (by omega)
        have k3 : decide ((0 : Int) < (i : Int) + 1) = true := decide_eq_true (by omega)
        have k2 : (i : Int) < (l.length : Int) := by omega
        have w1 := IntWalk.i64_in (sum + x.L) (by omega)
        go_upto_region 12 with (first | (go_at_call 40; (with_reducible refine cb hM (EC _ _) ?_); clear hM; intro W1 hM) | ((with_reducible refine lX ?_); refine mL ?_) | ((with_reducible refine sX ?_); refine mS ?_; clear hM; intro W hM) | ((with_reducible refine zX ?_); refine mB ?_; clear hM; intro g W hM))
        try simp only [pS, pN, sA, sB, sC]
        rcases xg with _ | _
        · by_cases hm : x.ax = u.bx ∧ x.ay = u.b_y
          · have HN : Hid (Qh len (decide (i + 1 + 1 = 0)) x.n x.bx x.b_y (sum + x.L) (l.drop (i + 1 + 1)) = R) := hide (by
             have h := G3.out
             rw [if_neg (by rintro (h | h); (have := HA1.out; omega); cases h.2), if_neg (by rintro ⟨_, _, h⟩; exact h (by rw [hy.1, hy.2]; exact hm))] at h
             exact h)
            have HM := hide hm
            clear G3 hy hm
            go_cut [55] (fun s wx => s = .bool false ∧ qQ w wx [(gx, [.bool x.c, .int .i64 x.ax, .int .i64 x.ay, .int .i64 x.bx, .int .i64 x.b_y, .int .i64 x.cx, .int .i64 x.cy, .int .i64 x.r, .int .i64 x.f, .int .i64 x.s, .int .i64 x.L, .int .i64 x.n, .bool false], 49), (gp, [.slice (some ⟨b, o, none⟩) l.length cap, .int .i64 len], 42)])
            case first =>
             have c12 : W1.cell? ⟨gx, 12, none⟩ = some (.bool false) := hM.cell Lk.head 12
             have c1 : W1.cell? ⟨gx, 1, none⟩ = some (.int .i64 u.bx) := by rw [← HM.out.1]; exact hM.cell Lk.head 1
             have c2 : W1.cell? ⟨gx, 2, none⟩ = some (.int .i64 u.b_y) := by rw [← HM.out.2]; exact hM.cell Lk.head 2
             have q0 : W1.cell? ⟨gp, 0, none⟩ = some (.slice (some ⟨b, o, none⟩) l.length cap) := hM.cell (Lk.tail Lk.head) 0
             have r3 : W1.cell? ⟨b, o + i * 13 + 3, none⟩ = some (.int .i64 u.bx) := hM.old (HUA.out 3 _ rfl)
             have r4 : W1.cell? ⟨b, o + i * 13 + 4, none⟩ = some (.int .i64 u.b_y) := hM.old (HUA.out 4 _ rfl)
             go_quiet (fail)
             all_goals
              go_wp2_with fail
              all_goals
               go_meet
               exact ⟨by first | rfl | (simp; done), by first | exact hM | exact zG hM | exact zK hM _ | exact zG (zG hM)⟩
            case rest =>
            clear hM
            obtain ⟨rfl, hM⟩ := hcut
            go_wp2_with (first | ((with_reducible refine lX ?_); refine mL ?_) | ((with_reducible refine sX ?_); refine mS ?_; clear hM; intro W hM) | ((with_reducible refine zX ?_); refine mB ?_; clear hM; intro g W hM))
            all_goals
             (go_roundw
              case rel => exact ⟨i + 1 + 1, x.n, x.bx, x.b_y, sum + x.L, by omega, rfl, rfl, by go_num, HN, hide (fun i_1 u hi hu => by
               obtain rfl : i_1 = i + 1 := by omega
               rw [HX.out] at hu
               injection hu with hu
               subst hu
               exact ⟨rfl, rfl⟩), ⟨by omega, by omega⟩, qz hM⟩
              case measure => simp [intOf]; omega)
          · have HR := hide (show (10 : Int) = R by
             rw [← G3.out, if_neg (by rintro (h | h); (have := HA1.out; omega); cases h.2), if_pos ⟨by simp, rfl, by rw [hy.1, hy.2]; exact hm⟩])
            have hcs : (x.ax == u.bx) = false ∨ (x.ax = u.bx ∧ (x.ay == u.b_y) = false) := by
             by_cases z1 : x.ax = u.bx
             · exact .inr ⟨z1, beq_eq_false_iff_ne.2 fun z2 => hm ⟨z1, z2⟩⟩
             · exact .inl (beq_eq_false_iff_ne.2 z1)
            clear G3 hy hm
            go_cut [55] (fun s wx => s = .bool true ∧ qQ w wx [(gx, [.bool x.c, .int .i64 x.ax, .int .i64 x.ay, .int .i64 x.bx, .int .i64 x.b_y, .int .i64 x.cx, .int .i64 x.cy, .int .i64 x.r, .int .i64 x.f, .int .i64 x.s, .int .i64 x.L, .int .i64 x.n, .bool false], 49), (gp, [.slice (some ⟨b, o, none⟩) l.length cap, .int .i64 len], 42)])
            case first =>
             have c12 : W1.cell? ⟨gx, 12, none⟩ = some (.bool false) := hM.cell Lk.head 12
             have c1 : W1.cell? ⟨gx, 1, none⟩ = some (.int .i64 x.ax) := hM.cell Lk.head 1
             have c2 : W1.cell? ⟨gx, 2, none⟩ = some (.int .i64 x.ay) := hM.cell Lk.head 2
             have q0 : W1.cell? ⟨gp, 0, none⟩ = some (.slice (some ⟨b, o, none⟩) l.length cap) := hM.cell (Lk.tail Lk.head) 0
             have r3 : W1.cell? ⟨b, o + i * 13 + 3, none⟩ = some (.int .i64 u.bx) := hM.old (HUA.out 3 _ rfl)
             have r4 : W1.cell? ⟨b, o + i * 13 + 4, none⟩ = some (.int .i64 u.b_y) := hM.old (HUA.out 4 _ rfl)
             rcases hcs with z1 | ⟨z1, z2⟩
             rotate_left 1
             · rw [z1] at c1
               go_quiet (fail)
               all_goals
                go_wp2_with fail
                all_goals
                 go_meet
                 exact ⟨by first | rfl | (simp; done), by first | exact hM | exact zG hM | exact zK hM _ | exact zG (zG hM)⟩
             · go_quiet (fail)
               all_goals
                go_wp2_with fail
                all_goals
                 go_meet
                 exact ⟨by first | rfl | (simp; done), by first | exact hM | exact zG hM | exact zK hM _ | exact zG (zG hM)⟩
            case rest =>
            clear hM
            obtain ⟨rfl, hM⟩ := hcut
            go_wp2_with (first | ((with_reducible refine lX ?_); refine mL ?_) | ((with_reducible refine sX ?_); refine mS ?_; clear hM; intro W hM) | ((with_reducible refine zX ?_); refine mB ?_; clear hM; intro g W hM))
            all_goals
             go_ret
             exact ⟨by first | rfl | (rw [← HR.out]; rfl) | (rw [← HR.out]), hM.below⟩
        · have HN : Hid (Qh len (decide (i + 1 + 1 = 0)) x.n x.bx x.b_y (sum + x.L) (l.drop (i + 1 + 1)) = R) := hide (by
           have h := G3.out
           rw [if_neg (by rintro (h | h); (have := HA1.out; omega); cases (show decide (i + 1 = 0) = true from h.1)), if_neg (by rintro ⟨_, h, _⟩; cases h)] at h
           exact h)
          clear G3 hy
          go_cut [55] (fun s wx => s = .bool false ∧ qQ w wx [(gx, [.bool x.c, .int .i64 x.ax, .int .i64 x.ay, .int .i64 x.bx, .int .i64 x.b_y, .int .i64 x.cx, .int .i64 x.cy, .int .i64 x.r, .int .i64 x.f, .int .i64 x.s, .int .i64 x.L, .int .i64 x.n, .bool true], 49), (gp, [.slice (some ⟨b, o, none⟩) l.length cap, .int .i64 len], 42)])
          case first =>
           have c12 : W1.cell? ⟨gx, 12, none⟩ = some (.bool true) := hM.cell Lk.head 12
           go_quiet (fail)
           all_goals
            go_wp2_with fail
            all_goals
             go_meet
             exact ⟨by first | rfl | (simp; done), by first | exact hM | exact zG hM | exact zK hM _ | exact zG (zG hM)⟩
          case rest =>
          clear hM
          obtain ⟨rfl, hM⟩ := hcut
          go_wp2_with (first | ((with_reducible refine lX ?_); refine mL ?_) | ((with_reducible refine sX ?_); refine mS ?_; clear hM; intro W hM) | ((with_reducible refine zX ?_); refine mB ?_; clear hM; intro g W hM))
          all_goals
           (go_roundw
            case rel => exact ⟨i + 1 + 1, x.n, x.bx, x.b_y, sum + x.L, by omega, rfl, rfl, by go_num, HN, hide (fun i_1 u hi hu => by
             obtain rfl : i_1 = i + 1 := by omega
             rw [HX.out] at hu
             injection hu with hu
             subst hu
             exact ⟨rfl, rfl⟩), ⟨by omega, by omega⟩, qz hM⟩
            case measure => simp [intOf]; omega)
  · have hje : j = l.length := by omega
    have G2 := hide (show (if len = sum then (0 : Int) else 4) = R by rw [← G.out, hje, List.drop_length, Kd])
    clear G Y hje
    by_cases hq : len = sum
    · have HR := hide (show (0 : Int) = R by rw [← G2.out, if_pos hq])
      have q1 : (len != sum) = false := by simpa using hq
      clear hq G2
      go_wp2_with (first | ((with_reducible refine lX ?_); refine mL ?_) | ((with_reducible refine sX ?_); refine mS ?_; clear hM; intro W hM) | ((with_reducible refine zX ?_); refine mB ?_; clear hM; intro g W hM))
      all_goals
       go_ret
       exact ⟨by first | rfl | (rw [← HR.out]; rfl) | (rw [← HR.out]), hM.below⟩
    · have HR := hide (show (4 : Int) = R by rw [← G2.out, if_neg hq])
      have q1 : (len != sum) = true := by simpa using hq
      clear hq G2
      go_wp2_with (first | ((with_reducible refine lX ?_); refine mL ?_) | ((with_reducible refine sX ?_); refine mS ?_; clear hM; intro W hM) | ((with_reducible refine zX ?_); refine mB ?_; clear hM; intro g W hM))
      all_goals
       go_ret
       exact ⟨by first | rfl | (rw [← HR.out]; rfl) | (rw [← HR.out]), hM.below⟩
end Go.Proofs.YteanfgobpjdmnaaGreatDoor
