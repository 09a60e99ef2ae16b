/-
  turn.At for all arguments, by boxes.
-/
import Derived.Test.YteanfgobpjdmnaaGreatDoorMLineD
import Derived.Test.YteanfgobpjdmnaaGreatDoorMMemD
namespace Go.Proofs.YteanfgobpjdmnaaGreatDoor
open Go.RowKit
set_option linter.unusedVariables false
set_option linter.unusedSimpArgs false
set_option maxRecDepth 100000 in
set_option maxHeartbeats 8000000 in
theorem bS (cx cy r f s al : Int) (w : World) (R : Int × Int × Int × Int) (hR : R = qI cx cy r f s al) :
 Calls Tryz.prog 78 #[.agg #[.int .i64 cx, .int .i64 cy, .int .i64 r, .int .i64 f, .int .i64 s], .int .i64 al] w fun e w' => e = .returned (.tuple #[.agg #[.int .i64 R.1, .int .i64 R.2.1], .int .i64 R.2.2.1, .int .i64 R.2.2.2]) ∧ Below w.heap.size w w' := by
 have TV := fun W => xw cx cy r f s W
 have TL := fun W => bR cx cy r f s W
 have hM := qB w
 rcases hB : yX cx cy r f s with _ | _
 · rw [ld hB] at hR
   rw [hB] at TV
   subst hR
   clear hB
   go_enter Tryz.func78, Tryz.ntmps78
   go_upto_region 0 with fail
   try simp only [pS, pN, sA, sB, sC]
   go_cut [2, 4] (fun s2 s4 wx => ∃ gA gO : Nat, s2 = .pointer (some ⟨gA, 0, none⟩) ∧ s4 = .pointer (some ⟨gO, 0, none⟩) ∧ qQ w wx [(gO, [.int .i64 0, .int .i64 0], 26), (gA, [.int .i64 cx, .int .i64 cy, .int .i64 r, .int .i64 f, .int .i64 s], 47)])
   case first =>
    go_wp2_with (first | ((with_reducible refine lX ?_); refine mL ?_) | ((with_reducible refine sX ?_); refine mS ?_; clear hM; intro W hM) | ((with_reducible refine bX ?_); refine mB ?_; clear hM; intro g W hM) | ((with_reducible refine zX ?_); refine mB ?_; clear hM; intro g W hM))
    all_goals
     go_meet
     exact ⟨_, _, rfl, rfl, hM⟩
   case rest =>
   clear hM
   obtain ⟨gA, gO, rfl, rfl, hM⟩ := hcut
   go_wp2_with (first | (go_at_call 42; (with_reducible refine cb hM (TV _) ?_); clear hM; intro W1 hM) | ((with_reducible refine lX ?_); refine mL ?_) | ((with_reducible refine sX ?_); refine mS ?_; clear hM; intro W hM) | ((with_reducible refine zX ?_); refine mB ?_; clear hM; intro g W hM))
   all_goals
    refine' gK hM rfl rfl Tryz.isAgg26 Tryz.sizeOf26 rfl rfl rfl ?_ ?_ ⟨?_, hM.below⟩; rotate_left 2; (· repeat constructor); (· rfl); (· rfl)
 rw [hB] at TV
 have nb := yJ cx cy r f s
 by_cases ho : al < 0 ∨ al > qA cx cy r f s
 · rw [fY hB ho] at hR
   subst hR
   have T : al < 0 ∨ (¬ al < 0 ∧ al > qA cx cy r f s) := by omega
   generalize qA cx cy r f s = n at *
   clear ho hB
   go_enter Tryz.func78, Tryz.ntmps78
   go_upto_region 0 with fail
   try simp only [pS, pN, sA, sB, sC]
   go_cut [2, 4] (fun s2 s4 wx => ∃ gA gO : Nat, s2 = .pointer (some ⟨gA, 0, none⟩) ∧ s4 = .pointer (some ⟨gO, 0, none⟩) ∧ qQ w wx [(gO, [.int .i64 0, .int .i64 0], 26), (gA, [.int .i64 cx, .int .i64 cy, .int .i64 r, .int .i64 f, .int .i64 s], 47)])
   case first =>
    go_wp2_with (first | ((with_reducible refine lX ?_); refine mL ?_) | ((with_reducible refine sX ?_); refine mS ?_; clear hM; intro W hM) | ((with_reducible refine bX ?_); refine mB ?_; clear hM; intro g W hM) | ((with_reducible refine zX ?_); refine mB ?_; clear hM; intro g W hM))
    all_goals
     go_meet
     exact ⟨_, _, rfl, rfl, hM⟩
   case rest =>
   clear hM
   obtain ⟨gA, gO, rfl, rfl, hM⟩ := hcut
   rcases T with t1 | ⟨t1, t2⟩
   · go_wp2_with (first | (go_at_call 42; (with_reducible refine cb hM (TV _) ?_); clear hM; intro W1 hM) | (go_at_call 33; (with_reducible refine cb hM (TL _) ?_); clear hM; intro W1 hM) | ((with_reducible refine lX ?_); refine mL ?_) | ((with_reducible refine sX ?_); refine mS ?_; clear hM; intro W hM) | ((with_reducible refine zX ?_); refine mB ?_; clear hM; intro g W hM))
     all_goals
      refine' gK hM rfl rfl Tryz.isAgg26 Tryz.sizeOf26 rfl rfl rfl ?_ ?_ ⟨?_, hM.below⟩; rotate_left 2; (· repeat constructor); (· rfl); (· rfl)
   · go_wp2_with (first | (go_at_call 42; (with_reducible refine cb hM (TV _) ?_); clear hM; intro W1 hM) | (go_at_call 33; (with_reducible refine cb hM (TL _) ?_); clear hM; intro W1 hM) | ((with_reducible refine lX ?_); refine mL ?_) | ((with_reducible refine sX ?_); refine mS ?_; clear hM; intro W hM) | ((with_reducible refine zX ?_); refine mB ?_; clear hM; intro g W hM))
     all_goals
      refine' gK hM rfl rfl Tryz.isAgg26 Tryz.sizeOf26 rfl rfl rfl ?_ ?_ ⟨?_, hM.below⟩; rotate_left 2; (· repeat constructor); (· rfl); (· rfl)
 obtain ⟨hv, ⟨b1, b2⟩, ⟨b3, b4⟩, b5, b6⟩ := UK hB
 obtain ⟨Y0, hY0⟩ : ∃ Y, Y = zi cx cy (jM f s (qA cx cy r f s) al) r := ⟨_, rfl⟩
 obtain ⟨X, Y, E⟩ := Y0
 rw [lf hB ho hY0.symm] at hR
 have hn : al ≤ qA cx cy r f s := by omega
 have h0 : 0 ≤ al := by omega
 clear ho hB
 generalize qA cx cy r f s = n at *
 have db : 0 ≤ jM f s n al ∧ jM f s n al < 129600000 := tC _ _
 have RY := fun W => jp cx cy (jM f s n al) r (by unfold qH; omega) (by unfold qH; omega) W _ hY0
 have sq : -32400000 ≤ zr s 32400000 ∧ zr s 32400000 ≤ 32400000 := by unfold zr; split <;> omega
 have wb : 0 ≤ ba n s al ∧ ba n s al ≤ 129600000 := by
  by_cases hn0 : 0 < n
  · exact (dH hn0 h0 hn nb.2 (by omega)).2
  · unfold ba; rw [if_neg hn0]; omega
 have sw : -129600000 ≤ zr s (ba n s al) ∧ zr s (ba n s al) ≤ 129600000 := by unfold zr; split <;> omega
 have AB := fun W => kr s (by unfold qH; omega) (by omega) W
 have SD := fun W => JV cx cy r f s (ba n s al) (by omega) (by omega) W
 have SQ := fun W => JV cx cy r f s 32400000 (by omega) (by omega) W
 have TN := fun W => bQ f (zr s (ba n s al)) (by unfold qH; omega) (by unfold qH; omega) W
 have TQ := fun W => bQ (jM f s n al) (zr s 32400000) (by unfold qH; omega) (by unfold qH; omega) W
 rw [show zg f (zr s (ba n s al)) = jM f s n al from rfl] at TN
 have MM := fun (h : 0 < n) => (dH h h0 hn nb.2 (show (s.natAbs : Int) ≤ 129600000 by omega)).1
 have MD := fun W => yZ al s.natAbs n (by unfold qH; omega) (by unfold qH; omega) (by unfold qH; omega) W
 have W0 : n ≤ 0 → ba n s al = 0 := fun h => by unfold ba; rw [if_neg (by omega)]
 clear hY0
 generalize zg (jM f s n al) (zr s 32400000) = T at *
 generalize jM f s n al = D at *
 generalize (s.natAbs : Int) = a at *
 generalize zr s (ba n s al) = sW at *
 generalize zr s 32400000 = sQ at *
 generalize ba n s al = wW at *
 go_enter Tryz.func78, Tryz.ntmps78
 go_upto_region 0 with fail
 try simp only [pS, pN, sA, sB, sC]
 go_cut [2, 4] (fun s2 s4 wx => ∃ gA gO : Nat, s2 = .pointer (some ⟨gA, 0, none⟩) ∧ s4 = .pointer (some ⟨gO, 0, none⟩) ∧ qQ w wx [(gO, [.int .i64 0, .int .i64 0], 26), (gA, [.int .i64 cx, .int .i64 cy, .int .i64 r, .int .i64 f, .int .i64 s], 47)])
 case first =>
  go_wp2_with (first | ((with_reducible refine lX ?_); refine mL ?_) | ((with_reducible refine sX ?_); refine mS ?_; clear hM; intro W hM) | ((with_reducible refine bX ?_); refine mB ?_; clear hM; intro g W hM) | ((with_reducible refine zX ?_); refine mB ?_; clear hM; intro g W hM))
  all_goals
   go_meet
   exact ⟨_, _, rfl, rfl, hM⟩
 case rest =>
 clear hM
 obtain ⟨gA, gO, rfl, rfl, hM⟩ := hcut
 go_upto_if 27 with (first | (go_at_call 42; (with_reducible refine cb hM (TV _) ?_); clear hM; intro W1 hM) | (go_at_call 33; (with_reducible refine cb hM (TL _) ?_); clear hM; intro W1 hM) | ((with_reducible refine lX ?_); refine mL ?_) | ((with_reducible refine sX ?_); refine mS ?_; clear hM; intro W hM) | ((with_reducible refine zX ?_); refine mB ?_; clear hM; intro g W hM))
 try simp only [pS, pN, sA, sB, sC]
 go_cut [8] (fun s8 wx => s8 = .int .i64 wW ∧ qQ w wx [(gO, [.int .i64 0, .int .i64 0], 26), (gA, [.int .i64 cx, .int .i64 cy, .int .i64 r, .int .i64 f, .int .i64 s], 47)])
 case first =>
  by_cases hn0 : 0 < n
  · rw [MM hn0] at MD
    go_wp2_with (first | (go_at_call 44; (with_reducible refine (AB _).mono ?_); rintro e W1 ⟨rfl, rfl⟩) | (go_at_call 108; (with_reducible refine (MD _).mono ?_); rintro e W1 ⟨rfl, n1, rfl⟩; replace hM := zK hM n1) | ((with_reducible refine lX ?_); refine mL ?_) | ((with_reducible refine sX ?_); refine mS ?_; clear hM; intro W hM) | ((with_reducible refine zX ?_); refine mB ?_; clear hM; intro g W hM))
    all_goals
     go_meet
     exact ⟨rfl, hM⟩
  · obtain rfl : wW = 0 := W0 (by omega)
    go_wp2_with (first | ((with_reducible refine lX ?_); refine mL ?_) | ((with_reducible refine sX ?_); refine mS ?_; clear hM; intro W hM) | ((with_reducible refine zX ?_); refine mB ?_; clear hM; intro g W hM))
    all_goals
     go_meet
     exact ⟨rfl, hM⟩
 case rest =>
 clear hM MM W0 MD AB TV TL
 obtain ⟨rfl, hM⟩ := hcut
 go_upto_region 9 with (first | ((with_reducible refine lX ?_); refine mL ?_) | ((with_reducible refine sX ?_); refine mS ?_; clear hM; intro W hM) | ((with_reducible refine zX ?_); refine mB ?_; clear hM; intro g W hM))
 try simp only [pS, pN, sA, sB, sC]
 refine qW [(gA, [.int .i64 cx, .int .i64 cy, .int .i64 r, .int .i64 f, .int .i64 s], 47)] hM (by kernel_rfl) ?_; (clear hM; intro W hM)
 refine rD 0 ?_
 refine rD 1 ?_
 refine rD 2 ?_
 refine rD 3 ?_
 refine dC 4 (fun K' hK' => ?_)
 go_wp2_with (first | (go_at_call 107; (with_reducible refine cb hM (SD _) ?_); clear hM; intro W1 hM) | (go_at_call 63; (with_reducible refine (TN _).mono ?_); rintro e W1 ⟨rfl, rfl⟩))
 refine rK hK' hM ?_; clear hK' K'
 refine dC 5 (fun K' hK' => ?_)
 go_wp2_with (first | (go_at_call 107; (with_reducible refine cb hM (SD _) ?_); clear hM; intro W1 hM) | (go_at_call 63; (with_reducible refine (TN _).mono ?_); rintro e W1 ⟨rfl, rfl⟩))
 refine rK hK' hM ?_; clear hK' K'
 refine rD 6 ?_
 refine qE (by kernel_rfl) ?_
 go_upto_region 10 with (first | (go_at_call 70; (with_reducible refine cb hM (RY _) ?_); clear hM; intro W1 hM) | ((with_reducible refine lX ?_); refine mL ?_) | ((with_reducible refine sX ?_); refine mS ?_; clear hM; intro W hM) | ((with_reducible refine zX ?_); refine mB ?_; clear hM; intro g W hM))
 try simp only [pS, pN, sA, sB, sC]
 go_cut [10, 11] (fun s10 s11 wx => ∃ gP : Nat, s10 = .pointer (some ⟨gP, 0, none⟩) ∧ s11 = .int .i64 E ∧ qQ w wx [(gP, [.int .i64 X, .int .i64 Y], 26), (gO, [.int .i64 0, .int .i64 0], 26), (gA, [.int .i64 cx, .int .i64 cy, .int .i64 r, .int .i64 f, .int .i64 s], 47)])
 case first =>
  go_wp2_with (first | (go_at_call 70; (with_reducible refine cb hM (RY _) ?_); clear hM; intro W1 hM) | ((with_reducible refine lX ?_); refine mL ?_) | ((with_reducible refine sX ?_); refine mS ?_; clear hM; intro W hM) | ((with_reducible refine zX ?_); refine mB ?_; clear hM; intro g W hM))
  all_goals
   go_meet
   exact ⟨_, rfl, rfl, hM⟩
 case rest =>
 clear hM
 obtain ⟨gP, rfl, rfl, hM⟩ := hcut
 by_cases hE : E = 0
 · subst hE
   rw [if_pos rfl] at hR
   subst hR
   go_upto_region 13 with (first | ((with_reducible refine lX ?_); refine mL ?_) | ((with_reducible refine sX ?_); refine mS ?_; clear hM; intro W hM) | ((with_reducible refine zX ?_); refine mB ?_; clear hM; intro g W hM))
   try simp only [pS, pN, sA, sB, sC]
   refine qW [(gP, [.int .i64 X, .int .i64 Y], 26), (gA, [.int .i64 cx, .int .i64 cy, .int .i64 r, .int .i64 f, .int .i64 s], 47)] hM (by kernel_rfl) ?_; (clear hM; intro W hM)
   refine rD 0 ?_
   refine rD 1 ?_
   refine rD 2 ?_
   refine dC 3 (fun K' hK' => ?_)
   go_wp2_with (first | (go_at_call 107; (with_reducible refine cb hM (SQ _) ?_); clear hM; intro W1 hM) | (go_at_call 63; (with_reducible refine (TQ _).mono ?_); rintro e W1 ⟨rfl, rfl⟩))
   refine rK hK' hM ?_; clear hK' K'
   refine dC 4 (fun K' hK' => ?_)
   go_wp2_with (first | (go_at_call 107; (with_reducible refine cb hM (SQ _) ?_); clear hM; intro W1 hM) | (go_at_call 63; (with_reducible refine (TQ _).mono ?_); rintro e W1 ⟨rfl, rfl⟩))
   refine rK hK' hM ?_; clear hK' K'
   refine dC 5 (fun K' hK' => ?_)
   refine oS hM ?_
   clear hM; intro W hM
   refine rK hK' hM ?_; clear hK' K'
   refine rD 6 ?_
   refine rD 7 ?_
   refine qE (by kernel_rfl) ?_
   go_wp2_with (first | ((with_reducible refine lX ?_); refine mL ?_) | ((with_reducible refine sX ?_); refine mS ?_; clear hM; intro W hM) | ((with_reducible refine zX ?_); refine mB ?_; clear hM; intro g W hM))
   all_goals
    refine' gK hM rfl rfl Tryz.isAgg26 Tryz.sizeOf26 rfl rfl rfl ?_ ?_ ⟨?_, hM.below⟩; rotate_left 2; (· repeat constructor); (· rfl); (· rfl)
 · rw [if_neg hE] at hR
   subst hR
   have T2 : (E != 0) = true := by rw [bne_iff_ne]; exact hE
   clear hE
   go_wp2_with (first | ((with_reducible refine lX ?_); refine mL ?_) | ((with_reducible refine sX ?_); refine mS ?_; clear hM; intro W hM) | ((with_reducible refine zX ?_); refine mB ?_; clear hM; intro g W hM))
   all_goals
    refine' gK hM rfl rfl Tryz.isAgg26 Tryz.sizeOf26 rfl rfl rfl ?_ ?_ ⟨?_, hM.below⟩; rotate_left 2; (· repeat constructor); (· rfl); (· rfl)
end Go.Proofs.YteanfgobpjdmnaaGreatDoor
