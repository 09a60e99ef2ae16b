/-
  Resolve for all arguments.
-/
import Derived.Test.YteanfgobpjdmnaaGreatDoorMResE1
import Derived.Test.YteanfgobpjdmnaaGreatDoorMResE3
namespace Go.Proofs.YteanfgobpjdmnaaGreatDoor
open Go.RowKit
set_option linter.unusedVariables false
set_option linter.unusedSimpArgs false
set_option maxRecDepth 100000 in
set_option maxHeartbeats 8000000 in
theorem Tu (fx fy c alt : Int) (x y : En) (spd bank oalt gr : Int) (hx : tL x) (hy : tL y) (ha : qH alt) (hc : qH c) (w : World) (hu : Hid (jq w)) :
 Calls Tryz.prog 26 #[.agg #[.int .i64 fx, .int .i64 fy], .int .i64 c, .int .i64 alt, .agg x.cells.toArray, .agg y.cells.toArray, .agg #[.int .i64 spd, .int .i64 bank, .int .i64 oalt, .int .i64 gr]] w fun e w' => e = .returned (.tuple #[.agg (qg fx fy c alt x y spd bank oalt gr).1.cells.toArray, .int .i64 (qg fx fy c alt x y spd bank oalt gr).2]) ∧ Below w.heap.size w w' := by
 have CH := fun W => ju spd bank oalt gr W
 have LC := fun W hW => zL x hx.leg W hW
 by_cases hO : vA spd bank oalt gr = 0
 · rw [hO] at CH
   have ho := vu hO
   obtain ⟨_, _, _, hg1, hg2⟩ := ho
   rcases hG : x.gap with _ | _
   · by_cases hL : jn x = 0
     · rw [hL] at LC
       have hkk := vq hL
       rcases v1 : qf fx fy with _ | _
       · (
         have HT : Hid (qg fx fy c alt x y spd bank oalt gr = (Tk.zero, 1)) := hide (by unfold qg; rw [if_neg (by rw [hO]; simp), if_neg (by rw [hG]; simp), if_neg (by rw [hL]; simp)]; rw [if_pos (by rw [v1]; simp)])
         have P1 := fun W => qo fx fy W
         rw [v1] at P1
         clear hO hL hkk v1
         have hM := qB w
         go_enter Tryz.func26, Tryz.ntmps26
         go_wp2_with (first | (go_at_call 23; refine cb hM (CH _) ?_; clear hM; intro W1 hM) | (go_at_call 54; (refine (LC _ (hide (qD hM hu.out))).mono ?_); rintro e W1 ⟨rfl, hb⟩; replace hM := qp hM hb; clear hb) | (go_at_call 16; (with_reducible refine cb hM (P1 _) ?_); clear hM; intro W1 hM) | ((with_reducible refine lX ?_); refine mL ?_) | ((with_reducible refine sX ?_); refine mS ?_; clear hM; intro W hM) | ((with_reducible refine bX ?_); refine mB ?_; clear hM; intro g W hM) | ((with_reducible refine zX ?_); refine mB ?_; clear hM; intro g W hM))
         all_goals first
          | (exact absurd (show x.gap = true by assumption) (Bool.eq_false_iff.1 hG))
          | (exact absurd hG (show ¬ x.gap = true by assumption)) | (exact absurd hG (Bool.eq_false_iff.1 (show x.gap = false by assumption)))
          | (refine' qR hM rfl rfl Tryz.isAgg69 Tryz.sizeOf69 rfl rfl ?_ ?_ ⟨?_, hM.below⟩; rotate_left 2; (· repeat constructor); (· rfl); (· refine' zN ?_ ?_; rotate_left 1; (· exact HT.out); (· rfl)))
         )
       rcases v2 : qf x.ex x.ey with _ | _
       · (
         have HT : Hid (qg fx fy c alt x y spd bank oalt gr = (Tk.zero, 1)) := hide (by unfold qg; rw [if_neg (by rw [hO]; simp), if_neg (by rw [hG]; simp), if_neg (by rw [hL]; simp)]; rw [if_pos (by rw [v1, v2]; simp)])
         have P1 := fun W => qo fx fy W
         rw [v1] at P1
         have P2 := fun W => qo x.ex x.ey W
         rw [v2] at P2
         clear hO hL hkk v1 v2
         have hM := qB w
         go_enter Tryz.func26, Tryz.ntmps26
         go_wp2_with (first | (go_at_call 23; refine cb hM (CH _) ?_; clear hM; intro W1 hM) | (go_at_call 54; (refine (LC _ (hide (qD hM hu.out))).mono ?_); rintro e W1 ⟨rfl, hb⟩; replace hM := qp hM hb; clear hb) | (go_at_call 16; (with_reducible refine cb hM (P1 _) ?_); clear hM; intro W1 hM) | (go_at_call 16; (with_reducible refine cb hM (P2 _) ?_); clear hM; intro W1 hM) | ((with_reducible refine lX ?_); refine mL ?_) | ((with_reducible refine sX ?_); refine mS ?_; clear hM; intro W hM) | ((with_reducible refine bX ?_); refine mB ?_; clear hM; intro g W hM) | ((with_reducible refine zX ?_); refine mB ?_; clear hM; intro g W hM))
         all_goals first
          | (exact absurd (show x.gap = true by assumption) (Bool.eq_false_iff.1 hG))
          | (exact absurd hG (show ¬ x.gap = true by assumption)) | (exact absurd hG (Bool.eq_false_iff.1 (show x.gap = false by assumption)))
          | (refine' qR hM rfl rfl Tryz.isAgg69 Tryz.sizeOf69 rfl rfl ?_ ?_ ⟨?_, hM.below⟩; rotate_left 2; (· repeat constructor); (· rfl); (· refine' zN ?_ ?_; rotate_left 1; (· exact HT.out); (· rfl)))
         )
       rcases v3 : qf x.mx x.my with _ | _
       · (
         have HT : Hid (qg fx fy c alt x y spd bank oalt gr = (Tk.zero, 1)) := hide (by unfold qg; rw [if_neg (by rw [hO]; simp), if_neg (by rw [hG]; simp), if_neg (by rw [hL]; simp)]; rw [if_pos (by rw [v1, v2, v3]; simp)])
         have P1 := fun W => qo fx fy W
         rw [v1] at P1
         have P2 := fun W => qo x.ex x.ey W
         rw [v2] at P2
         have P3 := fun W => qo x.mx x.my W
         rw [v3] at P3
         clear hO hL hkk v1 v2 v3
         have hM := qB w
         go_enter Tryz.func26, Tryz.ntmps26
         go_wp2_with (first | (go_at_call 23; refine cb hM (CH _) ?_; clear hM; intro W1 hM) | (go_at_call 54; (refine (LC _ (hide (qD hM hu.out))).mono ?_); rintro e W1 ⟨rfl, hb⟩; replace hM := qp hM hb; clear hb) | (go_at_call 16; (with_reducible refine cb hM (P1 _) ?_); clear hM; intro W1 hM) | (go_at_call 16; (with_reducible refine cb hM (P2 _) ?_); clear hM; intro W1 hM) | (go_at_call 16; (with_reducible refine cb hM (P3 _) ?_); clear hM; intro W1 hM) | ((with_reducible refine lX ?_); refine mL ?_) | ((with_reducible refine sX ?_); refine mS ?_; clear hM; intro W hM) | ((with_reducible refine bX ?_); refine mB ?_; clear hM; intro g W hM) | ((with_reducible refine zX ?_); refine mB ?_; clear hM; intro g W hM))
         all_goals first
          | (exact absurd (show x.gap = true by assumption) (Bool.eq_false_iff.1 hG))
          | (exact absurd hG (show ¬ x.gap = true by assumption)) | (exact absurd hG (Bool.eq_false_iff.1 (show x.gap = false by assumption)))
          | (refine' qR hM rfl rfl Tryz.isAgg69 Tryz.sizeOf69 rfl rfl ?_ ?_ ⟨?_, hM.below⟩; rotate_left 2; (· repeat constructor); (· rfl); (· refine' zN ?_ ?_; rotate_left 1; (· exact HT.out); (· rfl)))
         )
       by_cases hcr : 0 ≤ c ∧ c < 129600000
       · by_cases ha1 : alt < -200000
         · (
           have HT : Hid (qg fx fy c alt x y spd bank oalt gr = (Tk.zero, 2)) := hide (by unfold qg; rw [if_neg (by rw [hO]; simp), if_neg (by rw [hG]; simp), if_neg (by rw [hL]; simp)]; rw [if_neg (by rw [v1, v2, v3]; simp), if_pos (by omega)])
           have P1 := fun W => qo fx fy W
           rw [v1] at P1
           have P2 := fun W => qo x.ex x.ey W
           rw [v2] at P2
           have P3 := fun W => qo x.mx x.my W
           rw [v3] at P3
           have RC := fun W => zF c W
           rw [decide_eq_true hcr] at RC
           clear hcr
           clear hO hL hkk v1 v2 v3
           have hM := qB w
           go_enter Tryz.func26, Tryz.ntmps26
           go_wp2_with (first | (go_at_call 23; refine cb hM (CH _) ?_; clear hM; intro W1 hM) | (go_at_call 54; (refine (LC _ (hide (qD hM hu.out))).mono ?_); rintro e W1 ⟨rfl, hb⟩; replace hM := qp hM hb; clear hb) | (go_at_call 16; (with_reducible refine cb hM (P1 _) ?_); clear hM; intro W1 hM) | (go_at_call 16; (with_reducible refine cb hM (P2 _) ?_); clear hM; intro W1 hM) | (go_at_call 16; (with_reducible refine cb hM (P3 _) ?_); clear hM; intro W1 hM) | (go_at_call 24; (with_reducible refine (RC _).mono ?_); rintro e W1 ⟨rfl, rfl⟩) | ((with_reducible refine lX ?_); refine mL ?_) | ((with_reducible refine sX ?_); refine mS ?_; clear hM; intro W hM) | ((with_reducible refine bX ?_); refine mB ?_; clear hM; intro g W hM) | ((with_reducible refine zX ?_); refine mB ?_; clear hM; intro g W hM))
           all_goals first
            | (exact absurd (show x.gap = true by assumption) (Bool.eq_false_iff.1 hG))
            | (exact absurd hG (show ¬ x.gap = true by assumption)) | (exact absurd hG (Bool.eq_false_iff.1 (show x.gap = false by assumption)))
            | (refine' qR hM rfl rfl Tryz.isAgg69 Tryz.sizeOf69 rfl rfl ?_ ?_ ⟨?_, hM.below⟩; rotate_left 2; (· repeat constructor); (· rfl); (· refine' zN ?_ ?_; rotate_left 1; (· exact HT.out); (· rfl)))
           )
         · by_cases ha2 : alt > 6000000
           · (
             have HT : Hid (qg fx fy c alt x y spd bank oalt gr = (Tk.zero, 2)) := hide (by unfold qg; rw [if_neg (by rw [hO]; simp), if_neg (by rw [hG]; simp), if_neg (by rw [hL]; simp)]; rw [if_neg (by rw [v1, v2, v3]; simp), if_pos (by omega)])
             have P1 := fun W => qo fx fy W
             rw [v1] at P1
             have P2 := fun W => qo x.ex x.ey W
             rw [v2] at P2
             have P3 := fun W => qo x.mx x.my W
             rw [v3] at P3
             have RC := fun W => zF c W
             rw [decide_eq_true hcr] at RC
             clear hcr
             clear hO hL hkk v1 v2 v3
             have hM := qB w
             go_enter Tryz.func26, Tryz.ntmps26
             go_wp2_with (first | (go_at_call 23; refine cb hM (CH _) ?_; clear hM; intro W1 hM) | (go_at_call 54; (refine (LC _ (hide (qD hM hu.out))).mono ?_); rintro e W1 ⟨rfl, hb⟩; replace hM := qp hM hb; clear hb) | (go_at_call 16; (with_reducible refine cb hM (P1 _) ?_); clear hM; intro W1 hM) | (go_at_call 16; (with_reducible refine cb hM (P2 _) ?_); clear hM; intro W1 hM) | (go_at_call 16; (with_reducible refine cb hM (P3 _) ?_); clear hM; intro W1 hM) | (go_at_call 24; (with_reducible refine (RC _).mono ?_); rintro e W1 ⟨rfl, rfl⟩) | ((with_reducible refine lX ?_); refine mL ?_) | ((with_reducible refine sX ?_); refine mS ?_; clear hM; intro W hM) | ((with_reducible refine bX ?_); refine mB ?_; clear hM; intro g W hM) | ((with_reducible refine zX ?_); refine mB ?_; clear hM; intro g W hM))
             all_goals first
              | (exact absurd (show x.gap = true by assumption) (Bool.eq_false_iff.1 hG))
              | (exact absurd hG (show ¬ x.gap = true by assumption)) | (exact absurd hG (Bool.eq_false_iff.1 (show x.gap = false by assumption)))
              | (refine' qR hM rfl rfl Tryz.isAgg69 Tryz.sizeOf69 rfl rfl ?_ ?_ ⟨?_, hM.below⟩; rotate_left 2; (· repeat constructor); (· rfl); (· refine' zN ?_ ?_; rotate_left 1; (· exact HT.out); (· rfl)))
             )
           · (
             obtain hk | hk | hk | hk | hk | hk | hk | hk | hk | hk | hk | hk | hk | hk | hk | hk | hk : x.ty = 1 ∨ x.ty = 2 ∨ x.ty = 3 ∨ x.ty = 4 ∨ x.ty = 5 ∨ x.ty = 6 ∨ x.ty = 7 ∨ x.ty = 8 ∨ x.ty = 9 ∨ x.ty = 10 ∨ x.ty = 11 ∨ x.ty = 12 ∨ x.ty = 13 ∨ x.ty = 14 ∨ x.ty = 15 ∨ x.ty = 16 ∨ x.ty = 17 := by omega
             · exact pL fx fy c alt x y spd bank oalt gr hx hy w hu hG hO hL v1 v2 v3 hcr (by omega) (by omega) hk
             · exact pM fx fy c alt x y spd bank oalt gr hx hy w hu hG hO hL v1 v2 v3 hcr (by omega) (by omega) hk
             · exact pP fx fy c alt x y spd bank oalt gr hx hy w hu hG hO hL v1 v2 v3 hcr (by omega) (by omega) hk
             · exact pO fx fy c alt x y spd bank oalt gr hx hy w hu hG hO hL v1 v2 v3 hcr (by omega) (by omega) hk
             · exact pQ fx fy c alt x y spd bank oalt gr hx hy w hu hG hO hL v1 v2 v3 hcr (by omega) (by omega) hk
             · exact pR fx fy c alt x y spd bank oalt gr hx hy w hu hG hO hL v1 v2 v3 hcr (by omega) (by omega) hk
             · exact pT fx fy c alt x y spd bank oalt gr hx hy w hu hG hO hL v1 v2 v3 hcr (by omega) (by omega) hk
             · exact pU fx fy c alt x y spd bank oalt gr hx hy w hu hG hO hL v1 v2 v3 hcr (by omega) (by omega) hk
             · exact pV fx fy c alt x y spd bank oalt gr hx hy w hu hG hO hL v1 v2 v3 hcr (by omega) (by omega) hk
             · exact Tn fx fy c alt x y spd bank oalt gr hx hy w hu hG hO hL v1 v2 v3 hcr (by omega) (by omega) hk
             · exact Tj fx fy c alt x y spd bank oalt gr hx hy w hu hG hO hL v1 v2 v3 hcr (by omega) (by omega) hk
             · exact Tl fx fy c alt x y spd bank oalt gr hx hy w hu hG hO hL v1 v2 v3 hcr (by omega) (by omega) hk
             · exact Tm fx fy c alt x y spd bank oalt gr hx hy w hu hG hO hL v1 v2 v3 hcr (by omega) (by omega) hk
             · exact Tp fx fy c alt x y spd bank oalt gr hx hy w hu hG hO hL v1 v2 v3 hcr (by omega) (by omega) hk
             · exact Tq fx fy c alt x y spd bank oalt gr hx hy w hu hG hO hL v1 v2 v3 hcr (by omega) (by omega) hk
             · exact Tr fx fy c alt x y spd bank oalt gr hx hy w hu hG hO hL v1 v2 v3 hcr (by omega) (by omega) hk
             · exact Tt fx fy c alt x y spd bank oalt gr hx hy w hu hG hO hL v1 v2 v3 hcr (by omega) (by omega) hk
             )
       · (
         have HT : Hid (qg fx fy c alt x y spd bank oalt gr = (Tk.zero, 2)) := hide (by unfold qg; rw [if_neg (by rw [hO]; simp), if_neg (by rw [hG]; simp), if_neg (by rw [hL]; simp)]; rw [if_neg (by rw [v1, v2, v3]; simp), if_pos (by omega)])
         have P1 := fun W => qo fx fy W
         rw [v1] at P1
         have P2 := fun W => qo x.ex x.ey W
         rw [v2] at P2
         have P3 := fun W => qo x.mx x.my W
         rw [v3] at P3
         have RC := fun W => zF c W
         rw [decide_eq_false hcr] at RC
         clear hcr
         clear hO hL hkk v1 v2 v3
         have hM := qB w
         go_enter Tryz.func26, Tryz.ntmps26
         go_wp2_with (first | (go_at_call 23; refine cb hM (CH _) ?_; clear hM; intro W1 hM) | (go_at_call 54; (refine (LC _ (hide (qD hM hu.out))).mono ?_); rintro e W1 ⟨rfl, hb⟩; replace hM := qp hM hb; clear hb) | (go_at_call 16; (with_reducible refine cb hM (P1 _) ?_); clear hM; intro W1 hM) | (go_at_call 16; (with_reducible refine cb hM (P2 _) ?_); clear hM; intro W1 hM) | (go_at_call 16; (with_reducible refine cb hM (P3 _) ?_); clear hM; intro W1 hM) | (go_at_call 24; (with_reducible refine (RC _).mono ?_); rintro e W1 ⟨rfl, rfl⟩) | ((with_reducible refine lX ?_); refine mL ?_) | ((with_reducible refine sX ?_); refine mS ?_; clear hM; intro W hM) | ((with_reducible refine bX ?_); refine mB ?_; clear hM; intro g W hM) | ((with_reducible refine zX ?_); refine mB ?_; clear hM; intro g W hM))
         all_goals first
          | (exact absurd (show x.gap = true by assumption) (Bool.eq_false_iff.1 hG))
          | (exact absurd hG (show ¬ x.gap = true by assumption)) | (exact absurd hG (Bool.eq_false_iff.1 (show x.gap = false by assumption)))
          | (refine' qR hM rfl rfl Tryz.isAgg69 Tryz.sizeOf69 rfl rfl ?_ ?_ ⟨?_, hM.below⟩; rotate_left 2; (· repeat constructor); (· rfl); (· refine' zN ?_ ?_; rotate_left 1; (· exact HT.out); (· rfl)))
         )
     · have HT : Hid (qg fx fy c alt x y spd bank oalt gr = (Tk.zero, jn x)) := hide (by unfold qg; rw [if_neg (by rw [hO]; simp), if_neg (by rw [hG]; simp), if_pos hL])
       obtain ⟨E0, hE⟩ : ∃ E0, jn x = E0 := ⟨_, rfl⟩
       rw [hE] at LC HT hL
       have hne : (E0 != 0) = true := by simpa using hL
       clear hO hL hE
       have hM := qB w
       go_enter Tryz.func26, Tryz.ntmps26
       go_wp2_with (first | (go_at_call 23; refine cb hM (CH _) ?_; clear hM; intro W1 hM) | (go_at_call 54; (refine (LC _ (hide (qD hM hu.out))).mono ?_); rintro e W1 ⟨rfl, hb⟩; replace hM := qp hM hb; clear hb) | ((with_reducible refine lX ?_); refine mL ?_) | ((with_reducible refine sX ?_); refine mS ?_; clear hM; intro W hM) | ((with_reducible refine bX ?_); refine mB ?_; clear hM; intro g W hM) | ((with_reducible refine zX ?_); refine mB ?_; clear hM; intro g W hM))
       all_goals first
        | (exact absurd (show x.gap = true by assumption) (Bool.eq_false_iff.1 hG))
        | (exact absurd hG (show ¬ x.gap = true by assumption)) | (exact absurd hG (Bool.eq_false_iff.1 (show x.gap = false by assumption)))
        | (refine' qR hM rfl rfl Tryz.isAgg69 Tryz.sizeOf69 rfl rfl ?_ ?_ ⟨?_, hM.below⟩; rotate_left 2; (· repeat constructor); (· rfl); (· refine' zN ?_ ?_; rotate_left 1; (· exact HT.out); (· rfl)))
   · have HT : Hid (qg fx fy c alt x y spd bank oalt gr = (Tk.zero, 17)) := hide (by unfold qg; rw [if_neg (by rw [hO]; simp), if_pos hG])
     clear hO
     have hM := qB w
     go_enter Tryz.func26, Tryz.ntmps26
     go_wp2_with (first | (go_at_call 23; refine cb hM (CH _) ?_; clear hM; intro W1 hM) | ((with_reducible refine lX ?_); refine mL ?_) | ((with_reducible refine sX ?_); refine mS ?_; clear hM; intro W hM) | ((with_reducible refine bX ?_); refine mB ?_; clear hM; intro g W hM) | ((with_reducible refine zX ?_); refine mB ?_; clear hM; intro g W hM))
     all_goals first
      | (exact absurd (show x.gap = true by assumption) (Bool.eq_false_iff.1 hG))
      | (exact absurd hG (show ¬ x.gap = true by assumption)) | (exact absurd hG (Bool.eq_false_iff.1 (show x.gap = false by assumption)))
      | (refine' qR hM rfl rfl Tryz.isAgg69 Tryz.sizeOf69 rfl rfl ?_ ?_ ⟨?_, hM.below⟩; rotate_left 2; (· repeat constructor); (· rfl); (· refine' zN ?_ ?_; rotate_left 1; (· exact HT.out); (· rfl)))
 · have HT : Hid (qg fx fy c alt x y spd bank oalt gr = (Tk.zero, vA spd bank oalt gr)) := hide (by unfold qg; rw [if_pos hO])
   obtain ⟨E0, hE⟩ : ∃ E0, vA spd bank oalt gr = E0 := ⟨_, rfl⟩
   rw [hE] at CH HT hO
   have hne : (E0 != 0) = true := by simpa using hO
   clear hO hE
   have hM := qB w
   go_enter Tryz.func26, Tryz.ntmps26
   go_wp2_with (first | (go_at_call 23; refine cb hM (CH _) ?_; clear hM; intro W1 hM) | ((with_reducible refine lX ?_); refine mL ?_) | ((with_reducible refine sX ?_); refine mS ?_; clear hM; intro W hM) | ((with_reducible refine bX ?_); refine mB ?_; clear hM; intro g W hM) | ((with_reducible refine zX ?_); refine mB ?_; clear hM; intro g W hM))
   all_goals first
    | (exact absurd (show x.gap = true by assumption) (Bool.eq_false_iff.1 hG))
    | (exact absurd hG (show ¬ x.gap = true by assumption)) | (exact absurd hG (Bool.eq_false_iff.1 (show x.gap = false by assumption)))
    | (refine' qR hM rfl rfl Tryz.isAgg69 Tryz.sizeOf69 rfl rfl ?_ ?_ ⟨?_, hM.below⟩; rotate_left 2; (· repeat constructor); (· rfl); (· refine' zN ?_ ?_; rotate_left 1; (· exact HT.out); (· rfl)))
end Go.Proofs.YteanfgobpjdmnaaGreatDoor
