/-
  Patterns and how they are entered, by boxes.
-/
import Derived.Test.YteanfgobpjdmnaaGreatDoorMHoldB
set_option maxRecDepth 100000
set_option maxHeartbeats 16000000
namespace Go.Proofs.YteanfgobpjdmnaaGreatDoor
open Go.RowKit
set_option linter.unusedVariables false
set_option linter.unusedSimpArgs false
theorem Vu {w W : World} {e : zz} {L : List zz} (h : qQ w W (e :: L)) : qQ w W [e] :=
 ⟨h.below, fun g cs t hm => h.rows g cs t (by rw [List.mem_singleton.1 hm]; exact .head _), by simp⟩
theorem yE {w W : World} {L : List zz} (h : qQ w W L) : qQ w W [] := ⟨h.below, (fun _ _ _ h => by cases h), List.nodup_nil⟩
theorem mO {fx fy inb tn leg rad : Int} (h : vY fx fy inb tn leg rad = 0) : (0 ≤ inb ∧ inb < 129600000) ∧ (1 ≤ rad ∧ rad ≤ 2000000) ∧ (tn = 1 ∨ tn = 2) := by
 unfold vY at h
 split at h
 · cases h
 rename_i h1
 split at h
 · cases h
 refine ⟨by omega, by omega, ?_⟩
 have : (qf fx fy && (decide (tn = 1) || decide (tn = 2))) = true := by
  rcases hq : (qf fx fy && (decide (tn = 1) || decide (tn = 2))) with _ | _
  · exact absurd hq h1
  · rfl
 have := (Bool.and_eq_true_iff.1 this).2
 simpa using this
theorem Gz (v : Int) : (ZK v = 3 ∧ v < 25200000) ∨ (ZK v = 2 ∧ ¬ v < 25200000 ∧ v ≥ 90000000) ∨ (ZK v = 1 ∧ ¬ v < 25200000 ∧ ¬ v ≥ 90000000) := by
 unfold ZK
 split
 · exact .inl ⟨rfl, by assumption⟩
 · split
   · exact .inr (.inl ⟨rfl, by assumption, by assumption⟩)
   · exact .inr (.inr ⟨rfl, by assumption, by assumption⟩)
theorem cS (k fx fy inb tn leg rad e0 : Int) (hE : vY fx fy inb tn leg rad = e0) (h0 : e0 ≠ 0) (w : World) :
 Calls Tryz.prog 35 #[.int .u8 k, .agg #[.int .i64 fx, .int .i64 fy], .int .i64 inb, .int .u8 tn, .int .i64 leg, .int .i64 rad] w fun e w' => e = .returned (.tuple #[.slice none 0 0, .int .i64 e0]) ∧ Below w.heap.size w w' := by
 have LY := fun W => Vs fx fy inb tn leg rad W
 rw [kE hE h0, hE] at LY
 have h1 : (e0 != 0) = true := by simpa using h0
 clear hE h0
 have hM := qB w
 go_enter Tryz.func35, Tryz.ntmps35
 go_wp2_with (first | (go_at_call 73; (with_reducible refine cb hM (LY _) ?_); clear hM; intro W1 hM) | ((with_reducible refine lX ?_); refine mL ?_) | ((with_reducible refine sX ?_); refine mS ?_; clear hM; intro W hM) | ((with_reducible refine bX ?_); refine mB ?_; clear hM; intro g W hM) | ((with_reducible refine zX ?_); refine mB ?_; clear hM; intro g W hM))
 all_goals
  go_ret2
  exact ⟨rfl, hM.below⟩
theorem wH (fx fy inb tn leg rad : Int) (hE : vY fx fy inb tn leg rad = 0) (w : World) :
 Calls Tryz.prog 37 #[.agg #[.int .i64 fx, .int .i64 fy], .int .i64 inb, .int .u8 tn, .int .i64 leg, .int .i64 rad] w fun e w' => ∃ g : Nat, e = .returned (.tuple #[.slice (some ⟨g, 0, none⟩) 4 4, .int .i64 0]) ∧ qQ w w' [(g, (tN fx fy inb tn leg rad).flatMap El.cells, 49)] := by
 have LY := fun W => Vs fx fy inb tn leg rad W
 obtain ⟨⟨i1, i2⟩, ⟨r1, r2⟩, ht⟩ := mO hE
 obtain ⟨s, hs⟩ : ∃ s, kV fx fy inb tn leg rad = s := ⟨_, rfl⟩
 obtain ⟨U, hU⟩ : ∃ U, yt inb tn = U := ⟨_, rfl⟩
 obtain ⟨q, hq⟩ : ∃ q, xz tn = q := ⟨_, rfl⟩
 have qb : q = 32400000 ∨ q = -32400000 := by rw [← hq]; unfold xz; split <;> omega
 have ub : -32400000 ≤ U ∧ U ≤ 162000000 := by rw [← hU]; unfold yt; rw [hq]; omega
 have hC : Gy fx fy inb tn leg rad = [.int .i64 fx, .int .i64 fy, .int .i64 s.x1, .int .i64 s.y1, .int .i64 s.x2, .int .i64 s.y2, .int .i64 s.x3, .int .i64 s.y3, .int .i64 s.cx, .int .i64 s.cy, .int .i64 s.dx, .int .i64 s.dy, .int .i64 U, .int .i64 rad, .int .i64 (2 * q)] := by
  unfold Gy
  rw [if_pos hE]
  dsimp only
  rw [hs, hU, hq]
 rw [hC, hE] at LY
 clear hC ht
 have HS := hide (And.intro hs (And.intro hU hq))
 clear hs hU hq
 have HP := hide (show tN fx fy inb tn leg rad = [Zo fx fy s.x1 s.y1 s.cx s.cy rad (U + 64800000) (2 * q), uU s.x1 s.y1 s.x2 s.y2, Zo s.x2 s.y2 s.x3 s.y3 s.dx s.dy rad U (2 * q), uU s.x3 s.y3 fx fy] by unfold tN; dsimp only; rw [HS.out.1, HS.out.2.1, HS.out.2.2])
 have w1 := wi (x := U + 64800000) (by omega) (by omega)
 have w2 := wi (x := -(2 * q)) (by omega) (by omega)
 have A1 := fun W => xW fx fy s.x1 s.y1 s.cx s.cy rad (U + 64800000) (2 * q) (by unfold qH; omega) W
 have A2 := fun W => xW s.x2 s.y2 s.x3 s.y3 s.dx s.dy rad U (2 * q) (by unfold qH; omega) W
 have S1 := fun W => kf s.x1 s.y1 s.x2 s.y2 W
 have S2 := fun W => kf s.x3 s.y3 fx fy W
 have hM := qB w
 go_enter Tryz.func37, Tryz.ntmps37
 go_upto_region 4 with (first | (go_at_call 73; (with_reducible refine cb hM (LY _) ?_); clear hM; intro W1 hM) | ((with_reducible refine lX ?_); refine mL ?_) | ((with_reducible refine sX ?_); refine mS ?_; clear hM; intro W hM) | ((with_reducible refine bX ?_); refine mB ?_; clear hM; intro g W hM) | ((with_reducible refine zX ?_); refine mB ?_; clear hM; intro g W hM))
 try simp only [pS, pN, sA, sB, sC]
 refine qW [(g, [.int .i64 fx, .int .i64 fy, .int .i64 s.x1, .int .i64 s.y1, .int .i64 s.x2, .int .i64 s.y2, .int .i64 s.x3, .int .i64 s.y3, .int .i64 s.cx, .int .i64 s.cy, .int .i64 s.dx, .int .i64 s.dy, .int .i64 U, .int .i64 rad, .int .i64 (2 * q)], 127)] hM (by kernel_rfl) ?_; (clear hM; intro W hM)
 refine rD 0 ?_
 refine rD 1 ?_
 refine rD 2 ?_
 refine rD 3 ?_
 refine rD 4 ?_
 refine rD 5 ?_
 refine rD 6 ?_
 refine rD 7 ?_
 refine rD 8 ?_
 refine rD 9 ?_
 refine rD 10 ?_
 refine rD 11 ?_
 refine rD 12 ?_
 refine rD 13 ?_
 refine rD 15 ?_
 refine rD 16 ?_
 refine rD 17 ?_
 refine rD 18 ?_
 refine rD 19 ?_
 refine rD 20 ?_
 refine rD 22 ?_
 refine rD 23 ?_
 refine rD 24 ?_
 refine rD 25 ?_
 refine rD 26 ?_
 refine rD 27 ?_
 refine rD 28 ?_
 refine rD 29 ?_
 refine rD 30 ?_
 refine rD 31 ?_
 refine rD 32 ?_
 refine rD 33 ?_
 refine rD 34 ?_
 refine rD 36 ?_
 refine rD 37 ?_
 refine rD 38 ?_
 refine rD 39 ?_
 refine rD 40 ?_
 refine rD 41 ?_
 refine dC 14 (fun K' hK' => ?_)
 go_wp2_with (first | (go_at_call 72; (with_reducible refine cb hM (A1 _) ?_); clear hM; intro W1 hM) | (go_at_call 72; (with_reducible refine cb hM (A2 _) ?_); clear hM; intro W1 hM) | (go_at_call 71; (with_reducible refine cb hM (S1 _) ?_); clear hM; intro W1 hM) | (go_at_call 71; (with_reducible refine cb hM (S2 _) ?_); clear hM; intro W1 hM))
 refine rK hK' hM ?_; clear hK' K'
 refine dC 21 (fun K' hK' => ?_)
 go_wp2_with (first | (go_at_call 72; (with_reducible refine cb hM (A1 _) ?_); clear hM; intro W1 hM) | (go_at_call 72; (with_reducible refine cb hM (A2 _) ?_); clear hM; intro W1 hM) | (go_at_call 71; (with_reducible refine cb hM (S1 _) ?_); clear hM; intro W1 hM) | (go_at_call 71; (with_reducible refine cb hM (S2 _) ?_); clear hM; intro W1 hM))
 refine rK hK' hM ?_; clear hK' K'
 refine dC 35 (fun K' hK' => ?_)
 go_wp2_with (first | (go_at_call 72; (with_reducible refine cb hM (A1 _) ?_); clear hM; intro W1 hM) | (go_at_call 72; (with_reducible refine cb hM (A2 _) ?_); clear hM; intro W1 hM) | (go_at_call 71; (with_reducible refine cb hM (S1 _) ?_); clear hM; intro W1 hM) | (go_at_call 71; (with_reducible refine cb hM (S2 _) ?_); clear hM; intro W1 hM))
 refine rK hK' hM ?_; clear hK' K'
 refine dC 42 (fun K' hK' => ?_)
 go_wp2_with (first | (go_at_call 72; (with_reducible refine cb hM (A1 _) ?_); clear hM; intro W1 hM) | (go_at_call 72; (with_reducible refine cb hM (A2 _) ?_); clear hM; intro W1 hM) | (go_at_call 71; (with_reducible refine cb hM (S1 _) ?_); clear hM; intro W1 hM) | (go_at_call 71; (with_reducible refine cb hM (S2 _) ?_); clear hM; intro W1 hM))
 refine rK hK' hM ?_; clear hK' K'
 refine dC 43 (fun K' hK' => ?_)
 refine Fx [Zo fx fy s.x1 s.y1 s.cx s.cy rad (U + 64800000) (2 * q), uU s.x1 s.y1 s.x2 s.y2, Zo s.x2 s.y2 s.x3 s.y3 s.dx s.dy rad U (2 * q), uU s.x3 s.y3 fx fy] hM ?_
 clear hM; intro gB W hM
 refine rK hK' hM ?_; clear hK' K'
 refine rD 44 ?_
 refine rD 45 ?_
 refine qE (by kernel_rfl) ?_
 go_wp2_with (first | ((with_reducible refine lX ?_); refine mL ?_) | ((with_reducible refine sX ?_); refine mS ?_; clear hM; intro W hM) | ((with_reducible refine zX ?_); refine mB ?_; clear hM; intro g W hM))
 all_goals
  go_ret2
  exact ⟨gB, rfl, by rw [HP.out]; exact Vu hM⟩
theorem af (v fx fy inb tn leg rad : Int) (hE : vY fx fy inb tn leg rad = 0) (w : World) :
 Calls Tryz.prog 35 #[.int .u8 (ZK v), .agg #[.int .i64 fx, .int .i64 fy], .int .i64 inb, .int .u8 tn, .int .i64 leg, .int .i64 rad] w fun e w' => ∃ V B, e = .returned (.tuple #[V, .int .i64 0]) ∧ bG V (tO v fx fy inb tn leg rad) B 3 ∧ qQ w w' B := by
 have LY := fun W => Vs fx fy inb tn leg rad W
 obtain ⟨⟨i1, i2⟩, ⟨r1, r2⟩, ht⟩ := mO hE
 obtain ⟨s, hs⟩ : ∃ s, kV fx fy inb tn leg rad = s := ⟨_, rfl⟩
 obtain ⟨U, hU⟩ : ∃ U, yt inb tn = U := ⟨_, rfl⟩
 obtain ⟨q, hq⟩ : ∃ q, xz tn = q := ⟨_, rfl⟩
 have qb : q = 32400000 ∨ q = -32400000 := by rw [← hq]; unfold xz; split <;> omega
 have ub : -32400000 ≤ U ∧ U ≤ 162000000 := by rw [← hU]; unfold yt; rw [hq]; omega
 have hC : Gy fx fy inb tn leg rad = [.int .i64 fx, .int .i64 fy, .int .i64 s.x1, .int .i64 s.y1, .int .i64 s.x2, .int .i64 s.y2, .int .i64 s.x3, .int .i64 s.y3, .int .i64 s.cx, .int .i64 s.cy, .int .i64 s.dx, .int .i64 s.dy, .int .i64 U, .int .i64 rad, .int .i64 (2 * q)] := by
  unfold Gy
  rw [if_pos hE]
  dsimp only
  rw [hs, hU, hq]
 rw [hC, hE] at LY
 clear hC ht
 have HS := hide (And.intro hs (And.intro hU hq))
 clear hs hU hq
 have w1 := wi (x := U + 64800000) (by omega) (by omega)
 have w2 := wi (x := -(2 * q)) (by omega) (by omega)
 have A1 := fun W => xW s.x2 s.y2 s.x3 s.y3 s.dx s.dy rad U (2 * q) (by unfold qH; omega) W
 have A2 := fun W => xW s.x3 s.y3 s.x2 s.y2 s.dx s.dy rad (U + 64800000) (-(2 * q)) (by unfold qH; omega) W
 have S1 := fun W => kf fx fy s.x2 s.y2 W
 have S2 := fun W => kf s.x3 s.y3 fx fy W
 have S3 := fun W => kf fx fy s.x3 s.y3 W
 have S4 := fun W => kf s.x2 s.y2 fx fy W
 have hM := qB w
 rcases Gz v with ⟨hk, hv⟩ | ⟨hk, hv, hv2⟩ | ⟨hk, hv, hv2⟩
 · have HP := hide (show tO v fx fy inb tn leg rad = [uU fx fy s.x2 s.y2, Zo s.x2 s.y2 s.x3 s.y3 s.dx s.dy rad U (2 * q), uU s.x3 s.y3 fx fy] by unfold tO; rw [if_pos hv]; (try dsimp only); rw [HS.out.1, HS.out.2.1, HS.out.2.2])
   rw [hk]
   clear hk hv
   go_enter Tryz.func35, Tryz.ntmps35
   go_upto_region 8 with (first | (go_at_call 73; (with_reducible refine cb hM (LY _) ?_); clear hM; intro W1 hM) | ((with_reducible refine lX ?_); refine mL ?_) | ((with_reducible refine sX ?_); refine mS ?_; clear hM; intro W hM) | ((with_reducible refine bX ?_); refine mB ?_; clear hM; intro g W hM) | ((with_reducible refine zX ?_); refine mB ?_; clear hM; intro g W hM))
   try simp only [pS, pN, sA, sB, sC]
   refine qW [(g, [.int .i64 fx, .int .i64 fy, .int .i64 s.x1, .int .i64 s.y1, .int .i64 s.x2, .int .i64 s.y2, .int .i64 s.x3, .int .i64 s.y3, .int .i64 s.cx, .int .i64 s.cy, .int .i64 s.dx, .int .i64 s.dy, .int .i64 U, .int .i64 rad, .int .i64 (2 * q)], 127)] hM (by kernel_rfl) ?_; (clear hM; intro W hM)
   refine rD 0 ?_
   refine rD 1 ?_
   refine rD 2 ?_
   refine rD 3 ?_
   refine rD 4 ?_
   refine rD 5 ?_
   refine rD 7 ?_
   refine rD 8 ?_
   refine rD 9 ?_
   refine rD 10 ?_
   refine rD 11 ?_
   refine rD 12 ?_
   refine rD 13 ?_
   refine rD 14 ?_
   refine rD 15 ?_
   refine rD 16 ?_
   refine rD 17 ?_
   refine rD 18 ?_
   refine rD 19 ?_
   refine rD 21 ?_
   refine rD 22 ?_
   refine rD 23 ?_
   refine rD 24 ?_
   refine rD 25 ?_
   refine rD 26 ?_
   refine dC 6 (fun K' hK' => ?_)
   go_wp2_with (first | (go_at_call 72; (with_reducible refine cb hM (A1 _) ?_); clear hM; intro W1 hM) | (go_at_call 72; (with_reducible refine cb hM (A2 _) ?_); clear hM; intro W1 hM) | (go_at_call 71; (with_reducible refine cb hM (S1 _) ?_); clear hM; intro W1 hM) | (go_at_call 71; (with_reducible refine cb hM (S2 _) ?_); clear hM; intro W1 hM) | (go_at_call 71; (with_reducible refine cb hM (S3 _) ?_); clear hM; intro W1 hM) | (go_at_call 71; (with_reducible refine cb hM (S4 _) ?_); clear hM; intro W1 hM))
   refine rK hK' hM ?_; clear hK' K'
   refine dC 20 (fun K' hK' => ?_)
   go_wp2_with (first | (go_at_call 72; (with_reducible refine cb hM (A1 _) ?_); clear hM; intro W1 hM) | (go_at_call 72; (with_reducible refine cb hM (A2 _) ?_); clear hM; intro W1 hM) | (go_at_call 71; (with_reducible refine cb hM (S1 _) ?_); clear hM; intro W1 hM) | (go_at_call 71; (with_reducible refine cb hM (S2 _) ?_); clear hM; intro W1 hM) | (go_at_call 71; (with_reducible refine cb hM (S3 _) ?_); clear hM; intro W1 hM) | (go_at_call 71; (with_reducible refine cb hM (S4 _) ?_); clear hM; intro W1 hM))
   refine rK hK' hM ?_; clear hK' K'
   refine dC 27 (fun K' hK' => ?_)
   go_wp2_with (first | (go_at_call 72; (with_reducible refine cb hM (A1 _) ?_); clear hM; intro W1 hM) | (go_at_call 72; (with_reducible refine cb hM (A2 _) ?_); clear hM; intro W1 hM) | (go_at_call 71; (with_reducible refine cb hM (S1 _) ?_); clear hM; intro W1 hM) | (go_at_call 71; (with_reducible refine cb hM (S2 _) ?_); clear hM; intro W1 hM) | (go_at_call 71; (with_reducible refine cb hM (S3 _) ?_); clear hM; intro W1 hM) | (go_at_call 71; (with_reducible refine cb hM (S4 _) ?_); clear hM; intro W1 hM))
   refine rK hK' hM ?_; clear hK' K'
   refine dC 28 (fun K' hK' => ?_)
   refine Fx [uU fx fy s.x2 s.y2, Zo s.x2 s.y2 s.x3 s.y3 s.dx s.dy rad U (2 * q), uU s.x3 s.y3 fx fy] hM ?_
   clear hM; intro gB W hM
   refine rK hK' hM ?_; clear hK' K'
   refine rD 29 ?_
   refine rD 30 ?_
   refine qE (by kernel_rfl) ?_
   go_wp2_with (first | ((with_reducible refine lX ?_); refine mL ?_) | ((with_reducible refine sX ?_); refine mS ?_; clear hM; intro W hM) | ((with_reducible refine zX ?_); refine mB ?_; clear hM; intro g W hM))
   all_goals
    go_ret2
    exact ⟨_, _, rfl, by rw [HP.out]; exact YI [uU fx fy s.x2 s.y2, Zo s.x2 s.y2 s.x3 s.y3 s.dx s.dy rad U (2 * q), uU s.x3 s.y3 fx fy] 3 rfl (by decide) (by decide), Vu hM⟩
 · have HP := hide (show tO v fx fy inb tn leg rad = [uU fx fy s.x3 s.y3, Zo s.x3 s.y3 s.x2 s.y2 s.dx s.dy rad (U + 64800000) (-(2 * q)), uU s.x2 s.y2 fx fy] by unfold tO; rw [if_neg hv, if_pos hv2]; (try dsimp only); rw [HS.out.1, HS.out.2.1, HS.out.2.2])
   rw [hk]
   clear hk hv hv2
   go_enter Tryz.func35, Tryz.ntmps35
   go_upto_region 10 with (first | (go_at_call 73; (with_reducible refine cb hM (LY _) ?_); clear hM; intro W1 hM) | ((with_reducible refine lX ?_); refine mL ?_) | ((with_reducible refine sX ?_); refine mS ?_; clear hM; intro W hM) | ((with_reducible refine bX ?_); refine mB ?_; clear hM; intro g W hM) | ((with_reducible refine zX ?_); refine mB ?_; clear hM; intro g W hM))
   try simp only [pS, pN, sA, sB, sC]
   refine qW [(g, [.int .i64 fx, .int .i64 fy, .int .i64 s.x1, .int .i64 s.y1, .int .i64 s.x2, .int .i64 s.y2, .int .i64 s.x3, .int .i64 s.y3, .int .i64 s.cx, .int .i64 s.cy, .int .i64 s.dx, .int .i64 s.dy, .int .i64 U, .int .i64 rad, .int .i64 (2 * q)], 127)] hM (by kernel_rfl) ?_; (clear hM; intro W hM)
   refine rD 0 ?_
   refine rD 1 ?_
   refine rD 2 ?_
   refine rD 3 ?_
   refine rD 4 ?_
   refine rD 5 ?_
   refine rD 7 ?_
   refine rD 8 ?_
   refine rD 9 ?_
   refine rD 10 ?_
   refine rD 11 ?_
   refine rD 12 ?_
   refine rD 13 ?_
   refine rD 14 ?_
   refine rD 15 ?_
   refine rD 16 ?_
   refine rD 17 ?_
   refine rD 18 ?_
   refine rD 19 ?_
   refine rD 20 ?_
   refine rD 21 ?_
   refine rD 23 ?_
   refine rD 24 ?_
   refine rD 25 ?_
   refine rD 26 ?_
   refine rD 27 ?_
   refine rD 28 ?_
   refine dC 6 (fun K' hK' => ?_)
   go_wp2_with (first | (go_at_call 72; (with_reducible refine cb hM (A1 _) ?_); clear hM; intro W1 hM) | (go_at_call 72; (with_reducible refine cb hM (A2 _) ?_); clear hM; intro W1 hM) | (go_at_call 71; (with_reducible refine cb hM (S1 _) ?_); clear hM; intro W1 hM) | (go_at_call 71; (with_reducible refine cb hM (S2 _) ?_); clear hM; intro W1 hM) | (go_at_call 71; (with_reducible refine cb hM (S3 _) ?_); clear hM; intro W1 hM) | (go_at_call 71; (with_reducible refine cb hM (S4 _) ?_); clear hM; intro W1 hM))
   refine rK hK' hM ?_; clear hK' K'
   refine dC 22 (fun K' hK' => ?_)
   go_wp2_with (first | (go_at_call 72; (with_reducible refine cb hM (A1 _) ?_); clear hM; intro W1 hM) | (go_at_call 72; (with_reducible refine cb hM (A2 _) ?_); clear hM; intro W1 hM) | (go_at_call 71; (with_reducible refine cb hM (S1 _) ?_); clear hM; intro W1 hM) | (go_at_call 71; (with_reducible refine cb hM (S2 _) ?_); clear hM; intro W1 hM) | (go_at_call 71; (with_reducible refine cb hM (S3 _) ?_); clear hM; intro W1 hM) | (go_at_call 71; (with_reducible refine cb hM (S4 _) ?_); clear hM; intro W1 hM))
   refine rK hK' hM ?_; clear hK' K'
   refine dC 29 (fun K' hK' => ?_)
   go_wp2_with (first | (go_at_call 72; (with_reducible refine cb hM (A1 _) ?_); clear hM; intro W1 hM) | (go_at_call 72; (with_reducible refine cb hM (A2 _) ?_); clear hM; intro W1 hM) | (go_at_call 71; (with_reducible refine cb hM (S1 _) ?_); clear hM; intro W1 hM) | (go_at_call 71; (with_reducible refine cb hM (S2 _) ?_); clear hM; intro W1 hM) | (go_at_call 71; (with_reducible refine cb hM (S3 _) ?_); clear hM; intro W1 hM) | (go_at_call 71; (with_reducible refine cb hM (S4 _) ?_); clear hM; intro W1 hM))
   refine rK hK' hM ?_; clear hK' K'
   refine dC 30 (fun K' hK' => ?_)
   refine Fx [uU fx fy s.x3 s.y3, Zo s.x3 s.y3 s.x2 s.y2 s.dx s.dy rad (U + 64800000) (-(2 * q)), uU s.x2 s.y2 fx fy] hM ?_
   clear hM; intro gB W hM
   refine rK hK' hM ?_; clear hK' K'
   refine rD 31 ?_
   refine rD 32 ?_
   refine qE (by kernel_rfl) ?_
   go_wp2_with (first | ((with_reducible refine lX ?_); refine mL ?_) | ((with_reducible refine sX ?_); refine mS ?_; clear hM; intro W hM) | ((with_reducible refine zX ?_); refine mB ?_; clear hM; intro g W hM))
   all_goals
    go_ret2
    exact ⟨_, _, rfl, by rw [HP.out]; exact YI [uU fx fy s.x3 s.y3, Zo s.x3 s.y3 s.x2 s.y2 s.dx s.dy rad (U + 64800000) (-(2 * q)), uU s.x2 s.y2 fx fy] 3 rfl (by decide) (by decide), Vu hM⟩
 · have HP := hide (show tO v fx fy inb tn leg rad = [] by unfold tO; rw [if_neg hv, if_neg hv2])
   rw [hk]
   clear hk hv hv2
   go_enter Tryz.func35, Tryz.ntmps35
   go_wp2_with (first | (go_at_call 73; (with_reducible refine cb hM (LY _) ?_); clear hM; intro W1 hM) | ((with_reducible refine lX ?_); refine mL ?_) | ((with_reducible refine sX ?_); refine mS ?_; clear hM; intro W hM) | ((with_reducible refine bX ?_); refine mB ?_; clear hM; intro g W hM) | ((with_reducible refine zX ?_); refine mB ?_; clear hM; intro g W hM))
   all_goals
    go_ret2
    exact ⟨_, [], rfl, by rw [HP.out]; exact jg 3, yE hM⟩
theorem kg {w0 w : World} {gb : Nat} {bad : Bool} {R : List zz} (px py c dd x y e : Int) (hc : qH c) (hd : qH dd) (hR : zi px py c dd = (x, y, e)) (hM : qQ w0 w ((gb, [.bool bad], 4) :: R)) :
 Calls Tryz.prog 69 #[.agg #[.int .i64 px, .int .i64 py], .int .i64 c, .int .i64 dd, .pointer (some ⟨gb, 0, none⟩)] w fun e' w' => e' = .returned (.agg #[.int .i64 x, .int .i64 y]) ∧ qQ w0 w' ((gb, [.bool (bad || (e != 0))], 4) :: R) := by
 have RY := fun W => jp px py c dd hc hd W _ hR.symm
 clear hR
 rcases bad with _ | _
 all_goals
  go_enter Tryz.func69, Tryz.ntmps69
  go_wp2_with (first | (go_at_call 70; (with_reducible refine cb hM (RY _) ?_); clear hM; intro W1 hM) | ((with_reducible refine lX ?_); refine mL ?_) | ((with_reducible refine sX ?_); refine mS ?_; clear hM; intro W hM) | ((with_reducible refine bX ?_); refine mB ?_; clear hM; intro g W hM) | ((with_reducible refine zX ?_); refine mB ?_; clear hM; intro g W hM))
  all_goals
   refine' xa hM rfl rfl Tryz.isAgg26 Tryz.sizeOf26 rfl ?_ ?_ ⟨?_, ?_⟩; rotate_left 2; (· repeat constructor); (· rfl); (· rfl); (· first | exact qz (qz (qz hM)) | (simpa using qz (qz (qz hM))))
theorem cB {P : Program} {f : FuncId} {xs : Array Value} {w0 W : World} {L pre : List zz} {g : Nat} {cs cs' : List Value} {t : TypeId} {R : List zz} {v : Value} {Q : Ending → World → Prop}
 (hM : qQ w0 W L) (hs : L = pre ++ (g, cs, t) :: R) (hc : ∀ R', qQ w0 W ((g, cs, t) :: R') → Calls P f xs W fun e w' => e = .returned v ∧ qQ w0 w' ((g, cs', t) :: R'))
 (h : ∀ W1, qQ w0 W1 (pre ++ (g, cs', t) :: R) → Q (.returned v) W1) : Calls P f xs W Q := by
 subst hs
 have p : ∀ (c : List Value), (pre ++ (g, c, t) :: R).Perm ((g, c, t) :: (pre ++ R)) := fun c => List.perm_middle
 refine (hc (pre ++ R) (jt hM (p cs))).mono ?_
 rintro e w' ⟨rfl, hM'⟩
 exact h w' (jt hM' (p cs').symm)
theorem ag {fx fy crs tn dst rad : Int} (h : (qf fx fy && (decide (tn = 1) || decide (tn = 2))) = false) : vB fx fy crs tn dst rad = (1, []) := by unfold vB; rw [if_pos h]
theorem ah {fx fy crs tn dst rad : Int} (h : (qf fx fy && (decide (tn = 1) || decide (tn = 2))) = true) (h2 : crs < 0 ∨ crs ≥ 129600000 ∨ dst < 1 ∨ dst > 2000000 ∨ rad < 1 ∨ rad > 666666) : vB fx fy crs tn dst rad = (2, []) := by unfold vB; rw [if_neg (by rw [h]; simp), if_pos h2]
inductive Se : List zz → List zz → Nat → List Value → TypeId → List zz → Prop
 | here {g : Nat} {cs : List Value} {t : TypeId} {R : List zz} : Se ((g, cs, t) :: R) [] g cs t R
 | tail {e : zz} {L pre : List zz} {g : Nat} {cs : List Value} {t : TypeId} {R : List zz} : Se L pre g cs t R → Se (e :: L) (e :: pre) g cs t R
theorem Se.eq {L pre : List zz} {g : Nat} {cs : List Value} {t : TypeId} {R : List zz} (h : Se L pre g cs t R) : L = pre ++ (g, cs, t) :: R := by
 induction h with
 | here => rfl
 | tail _ ih => rw [ih]; rfl
theorem cE {P : Program} {f : FuncId} {xs : Array Value} {w0 W : World} {L pre : List zz} {g : Nat} {cs cs' : List Value} {t : TypeId} {R : List zz} {v : Value} {Q : Ending → World → Prop}
 (hM : qQ w0 W L) (hc : ∀ R', qQ w0 W ((g, cs, t) :: R') → Calls P f xs W fun e w' => e = .returned v ∧ qQ w0 w' ((g, cs', t) :: R'))
 (h : ∀ W1, qQ w0 W1 (pre ++ (g, cs', t) :: R) → Q (.returned v) W1) (hs : Se L pre g cs t R := by ((repeat constructor) <;> fail)) : Calls P f xs W Q := cB hM hs.eq hc h
theorem Cs (fx fy crs tn dst rad : Int) (w : World) :
 Calls Tryz.prog 34 #[.agg #[.int .i64 fx, .int .i64 fy], .int .i64 crs, .int .u8 tn, .int .i64 dst, .int .i64 rad] w fun e w' => ∃ V B, e = .returned (.tuple #[V, .int .i64 (vB fx fy crs tn dst rad).1]) ∧ bG V (vB fx fy crs tn dst rad).2 B 5 ∧ qQ w w' B := by
 have PV := fun W => qo fx fy W
 obtain ⟨p0, hp0⟩ : ∃ p0, qf fx fy = p0 := ⟨_, rfl⟩
 rw [hp0] at PV
 by_cases ht : p0 = true ∧ (tn = 1 ∨ tn = 2)
 rotate_left 1
 · have HE := hide (show vB fx fy crs tn dst rad = (1, []) from ag (by
    rw [hp0]
    rcases hq : p0 with _ | _
    · rfl
    · have h1 : tn ≠ 1 := fun h => ht ⟨hq, .inl h⟩
      have h2 : tn ≠ 2 := fun h => ht ⟨hq, .inr h⟩
      simp [h1, h2]))
   have hcs : p0 = false ∨ (p0 = true ∧ (tn != 1) = true ∧ (tn != 2) = true) := by
    rcases hq : p0 with _ | _
    · exact .inl rfl
    · have h1 : tn ≠ 1 := fun h => ht ⟨hq, .inl h⟩
      have h2 : tn ≠ 2 := fun h => ht ⟨hq, .inr h⟩
      exact .inr ⟨rfl, by simpa using h1, by simpa using h2⟩
   clear ht hp0
   have hM := qB w
   rcases hcs with rfl | ⟨rfl, t1, t2⟩
   all_goals
    go_enter Tryz.func34, Tryz.ntmps34
    go_wp2_with (first | (go_at_call 16; (with_reducible refine cb hM (PV _) ?_); clear hM; intro W1 hM) | ((with_reducible refine lX ?_); refine mL ?_) | ((with_reducible refine sX ?_); refine mS ?_; clear hM; intro W hM) | ((with_reducible refine bX ?_); refine mB ?_; clear hM; intro g W hM) | ((with_reducible refine zX ?_); refine mB ?_; clear hM; intro g W hM))
    all_goals
     (go_ret2; first | exact ⟨.slice none 0 0, [], by rw [HE.out]; rfl, by rw [HE.out]; exact jg 5, yE hM⟩ | exact ⟨.slice none 0 0, by rw [HE.out]; rfl, [], by rw [HE.out]; exact jg 5, yE hM⟩)
 obtain ⟨rfl, ht⟩ := ht
 have HV := hide (show (qf fx fy && (decide (tn = 1) || decide (tn = 2))) = true by
  rw [hp0]
  rcases ht with rfl | rfl <;> rfl)
 clear hp0
 have hM := qB w
 go_enter Tryz.func34, Tryz.ntmps34
 go_upto_region 0 with fail
 try simp only [pS, pN, sA, sB, sC]
 go_cut [5] (fun s5 wx => ∃ gF : Nat, s5 = .pointer (some ⟨gF, 0, none⟩) ∧ qQ w wx [(gF, [.int .i64 fx, .int .i64 fy], 26)])
 case first =>
  go_wp2_with (first | ((with_reducible refine lX ?_); refine mL ?_) | ((with_reducible refine sX ?_); refine mS ?_; clear hM; intro W hM) | ((with_reducible refine bX ?_); refine mB ?_; clear hM; intro g W hM) | ((with_reducible refine zX ?_); refine mB ?_; clear hM; intro g W hM))
  all_goals
   go_meet
   exact ⟨_, rfl, hM⟩
 case rest =>
 clear hM
 obtain ⟨gF, rfl, hM⟩ := hcut
 go_upto_region 1 with (first | ((with_reducible refine lX ?_); refine mL ?_) | ((with_reducible refine sX ?_); refine mS ?_; clear hM; intro W hM) | ((with_reducible refine zX ?_); refine mB ?_; clear hM; intro g W hM))
 go_cut [23] (fun s wx => s = .bool false ∧ qQ w wx [(gF, [.int .i64 fx, .int .i64 fy], 26)])
 case first =>
  have hcs : ((tn != 1) = true ∧ (tn != 2) = false) ∨ (tn != 1) = false := by
   rcases ht with rfl | rfl
   · exact .inr rfl
   · exact .inl ⟨rfl, rfl⟩
  rcases hcs with ⟨t1, t2⟩ | t1
  all_goals
   go_wp2_with (first | (go_at_call 16; (with_reducible refine cb hM (PV _) ?_); clear hM; intro W1 hM) | ((with_reducible refine lX ?_); refine mL ?_) | ((with_reducible refine sX ?_); refine mS ?_; clear hM; intro W hM) | ((with_reducible refine zX ?_); refine mB ?_; clear hM; intro g W hM))
   all_goals
    go_meet
    exact ⟨rfl, hM⟩
 case rest =>
 clear hM
 obtain ⟨rfl, hM⟩ := hcut
 clear PV
 by_cases hr : crs < 0 ∨ crs ≥ 129600000 ∨ dst < 1 ∨ dst > 2000000 ∨ rad < 1 ∨ rad > 666666
 · have HE := hide (ah (crs := crs) (dst := dst) (rad := rad) HV.out hr)
   by_cases r1 : crs < 0
   · clear hr
     go_wp2_with (first | ((with_reducible refine lX ?_); refine mL ?_) | ((with_reducible refine sX ?_); refine mS ?_; clear hM; intro W hM) | ((with_reducible refine zX ?_); refine mB ?_; clear hM; intro g W hM))
     all_goals (go_ret2; first | exact ⟨.slice none 0 0, [], by rw [HE.out]; rfl, by rw [HE.out]; exact jg 5, yE hM⟩ | exact ⟨.slice none 0 0, by rw [HE.out]; rfl, [], by rw [HE.out]; exact jg 5, yE hM⟩)
   by_cases r2 : 129600000 ≤ crs
   · clear hr
     go_wp2_with (first | ((with_reducible refine lX ?_); refine mL ?_) | ((with_reducible refine sX ?_); refine mS ?_; clear hM; intro W hM) | ((with_reducible refine zX ?_); refine mB ?_; clear hM; intro g W hM))
     all_goals (go_ret2; first | exact ⟨.slice none 0 0, [], by rw [HE.out]; rfl, by rw [HE.out]; exact jg 5, yE hM⟩ | exact ⟨.slice none 0 0, by rw [HE.out]; rfl, [], by rw [HE.out]; exact jg 5, yE hM⟩)
   by_cases r3 : dst < 1
   · clear hr
     go_wp2_with (first | ((with_reducible refine lX ?_); refine mL ?_) | ((with_reducible refine sX ?_); refine mS ?_; clear hM; intro W hM) | ((with_reducible refine zX ?_); refine mB ?_; clear hM; intro g W hM))
     all_goals (go_ret2; first | exact ⟨.slice none 0 0, [], by rw [HE.out]; rfl, by rw [HE.out]; exact jg 5, yE hM⟩ | exact ⟨.slice none 0 0, by rw [HE.out]; rfl, [], by rw [HE.out]; exact jg 5, yE hM⟩)
   by_cases r4 : 2000000 < dst
   · clear hr
     go_wp2_with (first | ((with_reducible refine lX ?_); refine mL ?_) | ((with_reducible refine sX ?_); refine mS ?_; clear hM; intro W hM) | ((with_reducible refine zX ?_); refine mB ?_; clear hM; intro g W hM))
     all_goals (go_ret2; first | exact ⟨.slice none 0 0, [], by rw [HE.out]; rfl, by rw [HE.out]; exact jg 5, yE hM⟩ | exact ⟨.slice none 0 0, by rw [HE.out]; rfl, [], by rw [HE.out]; exact jg 5, yE hM⟩)
   by_cases r5 : rad < 1
   · clear hr
     go_wp2_with (first | ((with_reducible refine lX ?_); refine mL ?_) | ((with_reducible refine sX ?_); refine mS ?_; clear hM; intro W hM) | ((with_reducible refine zX ?_); refine mB ?_; clear hM; intro g W hM))
     all_goals (go_ret2; first | exact ⟨.slice none 0 0, [], by rw [HE.out]; rfl, by rw [HE.out]; exact jg 5, yE hM⟩ | exact ⟨.slice none 0 0, by rw [HE.out]; rfl, [], by rw [HE.out]; exact jg 5, yE hM⟩)
   have r6 : 666666 < rad := by omega
   clear hr
   go_wp2_with (first | ((with_reducible refine lX ?_); refine mL ?_) | ((with_reducible refine sX ?_); refine mS ?_; clear hM; intro W hM) | ((with_reducible refine zX ?_); refine mB ?_; clear hM; intro g W hM))
   all_goals (go_ret2; first | exact ⟨.slice none 0 0, [], by rw [HE.out]; rfl, by rw [HE.out]; exact jg 5, yE hM⟩ | exact ⟨.slice none 0 0, by rw [HE.out]; rfl, [], by rw [HE.out]; exact jg 5, yE hM⟩)
 have HRG := hide hr
 have r1 : ¬ crs < 0 := by omega
 have r2 : ¬ 129600000 ≤ crs := by omega
 have r3 : ¬ dst < 1 := by omega
 have r4 : ¬ 2000000 < dst := by omega
 have r5 : ¬ rad < 1 := by omega
 have r6 : ¬ 666666 < rad := by omega
 clear hr
 have QT := fun W => Ud tn W
 have qb : xz tn = 32400000 ∨ xz tn = -32400000 := by unfold xz; split <;> omega
 have HQ : Hid (rB crs tn = crs + (xz tn).tdiv 2 ∧ dV crs tn = rB crs tn - xz tn) := hide ⟨rfl, rfl⟩
 obtain ⟨v, hv⟩ : ∃ v, rB crs tn = v := ⟨_, rfl⟩
 obtain ⟨n, hn⟩ : ∃ n, dV crs tn = n := ⟨_, rfl⟩
 obtain ⟨md, hmd⟩ : ∃ md, jG 2 (2 * rad * 1414213562) 1000000000 = md := ⟨_, rfl⟩
 have RD := fun W => QG (2 * rad * 1414213562) 1000000000 (by unfold qH; omega) (by unfold qH; omega) W
 have mdv : qM 2 (2 * rad * 1414213562) 1 1000000000 = (md, 0) := by
  unfold qM
  rw [if_neg (by decide), Int.mul_one, hmd, if_pos]
  unfold Zj
  have e : md = (2 * (2 * rad * 1414213562) + 1000000000) / (2 * 1000000000) := by
   rw [← hmd]
   unfold jG
   rw [if_neg (by decide), if_neg (by decide)]
   rw [Int.fdiv_eq_ediv_of_nonneg _ (by decide)]
  exact decide_eq_true (by omega)
 rw [mdv] at RD
 have mb : 0 ≤ md ∧ md ≤ 4000000 := by
  have e : md = (2 * (2 * rad * 1414213562) + 1000000000) / (2 * 1000000000) := by
   rw [← hmd]
   unfold jG
   rw [if_neg (by decide), if_neg (by decide)]
   rw [Int.fdiv_eq_ediv_of_nonneg _ (by decide)]
  omega
 have HM := hide (And.intro hv (And.intro hn hmd))
 have v1 : -16200000 ≤ v - crs ∧ v - crs ≤ 16200000 := by
  have := HQ.out.1
  rw [hv] at this
  rcases qb with h | h <;> rw [h] at this
  · have e : (32400000 : Int).tdiv 2 = 16200000 := by decide
    omega
  · have e : (-32400000 : Int).tdiv 2 = -16200000 := by decide
    omega
 have n1 : -48600000 ≤ n - crs ∧ n - crs ≤ 48600000 := by
  have := HQ.out.2
  rw [hn, hv] at this
  omega
 obtain ⟨q, hq⟩ : ∃ q, xz tn = q := ⟨_, rfl⟩
 rw [hq] at QT qb
 have qd : crs + q.tdiv 2 = v := by rw [← hv, HQ.out.1, hq]
 have qn : v - q = n := by rw [← hn, HQ.out.2, hv, hq]
 have w1 : IntKind.i64.wrap (crs + q.tdiv 2) = v := by rw [qd]; exact IntWalk.i64_in v (by omega)
 have w2 : IntKind.i64.wrap (v - q) = n := by rw [qn]; exact IntWalk.i64_in n (by omega)
 have w3 := IntWalk.i64_in (2 * rad) (by omega)
 have w4 := IntWalk.i64_in (2 * rad * 1414213562) (by omega)
 have w5 := IntWalk.i64_in (3 * rad) (by omega)
 have w6 := IntWalk.i64_in (n + 64800000) (by omega)
 have w7 := IntWalk.i64_in (-2 * q) (by omega)
 have w8 : IntKind.i64.wrap (q.tdiv 2) = q.tdiv 2 := IntWalk.i64_in _ (by rcases qb with h | h <;> rw [h] <;> decide)
 have HTQ := hide hq
 clear hv hn hmd mdv qd qn hq
 obtain ⟨qx, qy, e1, h1⟩ : ∃ qx qy e1, zi fx fy crs dst = (qx, qy, e1) := ⟨_, _, _, rfl⟩
 obtain ⟨sx, sy, e2, h2⟩ : ∃ sx sy e2, zi qx qy v (3 * rad) = (sx, sy, e2) := ⟨_, _, _, rfl⟩
 obtain ⟨cx, cy, e3, h3⟩ : ∃ cx cy e3, zi sx sy n rad = (cx, cy, e3) := ⟨_, _, _, rfl⟩
 obtain ⟨tx, ty, e4, h4⟩ : ∃ tx ty e4, zi sx sy n (2 * rad) = (tx, ty, e4) := ⟨_, _, _, rfl⟩
 obtain ⟨mx, my, e5, h5⟩ : ∃ mx my e5, zi qx qy crs md = (mx, my, e5) := ⟨_, _, _, rfl⟩
 have i1 : qH crs := by unfold qH; omega
 have i2 : qH dst := by unfold qH; omega
 have i3 : qH v := by unfold qH; omega
 have i4 : qH (3 * rad) := by unfold qH; omega
 have i5 : qH n := by unfold qH; omega
 have i6 : qH rad := by unfold qH; omega
 have i7 : qH (2 * rad) := by unfold qH; omega
 have i8 : qH md := by unfold qH; omega
 have HE := hide (show vB fx fy crs tn dst rad = if (e1 = 0 ∧ e2 = 0 ∧ e3 = 0 ∧ e4 = 0 ∧ e5 = 0) then (0, [uU fx fy qx qy, uU qx qy sx sy, Zo sx sy tx ty cx cy rad (n + 64800000) (-2 * q), uU tx ty mx my, uU mx my fx fy]) else (2, []) by
  unfold vB
  rw [if_neg (by rw [HV.out]; simp), if_neg HRG.out]
  dsimp only
  rw [HM.out.1, HM.out.2.1, HM.out.2.2, h1]
  dsimp only
  rw [h2, h5]
  dsimp only
  rw [h3, h4, HTQ.out, show -(2 * q) = -2 * q by omega])
 have H1 := hide h1
 have H2 := hide h2
 have H3 := hide h3
 have H4 := hide h4
 have H5 := hide h5
 clear h1 h2 h3 h4 h5 HV HRG HM HTQ HQ
 go_upto_region 14 with (first | (go_at_call 68; (with_reducible refine (QT _).mono ?_); rintro e W1 ⟨rfl, rfl⟩) | (go_at_call 67; (with_reducible refine (RD _).mono ?_); rintro e W1 ⟨rfl, n1, rfl⟩; replace hM := zK hM n1) | (go_at_call 69; (with_reducible refine cE hM (fun R' hM' => kg fx fy crs dst qx qy e1 i1 i2 H1.out hM') ?_); clear hM H1; intro W1 hM; simp only [List.cons_append, List.nil_append] at hM) | (go_at_call 69; (with_reducible refine cE hM (fun R' hM' => kg qx qy v (3 * rad) sx sy e2 i3 i4 H2.out hM') ?_); clear hM H2; intro W1 hM; simp only [List.cons_append, List.nil_append] at hM) | (go_at_call 69; (with_reducible refine cE hM (fun R' hM' => kg sx sy n rad cx cy e3 i5 i6 H3.out hM') ?_); clear hM H3; intro W1 hM; simp only [List.cons_append, List.nil_append] at hM) | (go_at_call 69; (with_reducible refine cE hM (fun R' hM' => kg sx sy n (2 * rad) tx ty e4 i5 i7 H4.out hM') ?_); clear hM H4; intro W1 hM; simp only [List.cons_append, List.nil_append] at hM) | (go_at_call 69; (with_reducible refine cE hM (fun R' hM' => kg qx qy crs md mx my e5 i1 i8 H5.out hM') ?_); clear hM H5; intro W1 hM; simp only [List.cons_append, List.nil_append] at hM) | ((with_reducible refine lX ?_); refine mL ?_) | ((with_reducible refine sX ?_); refine mS ?_; clear hM; intro W hM) | ((with_reducible refine zX ?_); refine mB ?_; clear hM; intro g W hM))
 try simp only [pS, pN, sA, sB, sC]
 go_cut [16, 22, 21, 20, 19, 18] (fun s16 s22 s21 s20 s19 s18 wx => ∃ gb g22 g21 g20 g19 g18 : Nat, s16 = .pointer (some ⟨gb, 0, none⟩) ∧ s22 = .pointer (some ⟨g22, 0, none⟩) ∧ s21 = .pointer (some ⟨g21, 0, none⟩) ∧ s20 = .pointer (some ⟨g20, 0, none⟩) ∧ s19 = .pointer (some ⟨g19, 0, none⟩) ∧ s18 = .pointer (some ⟨g18, 0, none⟩) ∧ qQ w wx ((g22, [.int .i64 mx, .int .i64 my], 26) :: (g21, [.int .i64 tx, .int .i64 ty], 26) :: (g20, [.int .i64 cx, .int .i64 cy], 26) :: (g19, [.int .i64 sx, .int .i64 sy], 26) :: (g18, [.int .i64 qx, .int .i64 qy], 26) :: (gb, [.bool (((((false || (e1 != 0)) || (e2 != 0)) || (e3 != 0)) || (e4 != 0)) || (e5 != 0))], 4) :: [(gF, [.int .i64 fx, .int .i64 fy], 26)]))
 case first =>
  go_wp2_with (first | (go_at_call 69; (with_reducible refine cE hM (fun R' hM' => kg fx fy crs dst qx qy e1 i1 i2 H1.out hM') ?_); clear hM H1; intro W1 hM; simp only [List.cons_append, List.nil_append] at hM) | (go_at_call 69; (with_reducible refine cE hM (fun R' hM' => kg qx qy v (3 * rad) sx sy e2 i3 i4 H2.out hM') ?_); clear hM H2; intro W1 hM; simp only [List.cons_append, List.nil_append] at hM) | (go_at_call 69; (with_reducible refine cE hM (fun R' hM' => kg sx sy n rad cx cy e3 i5 i6 H3.out hM') ?_); clear hM H3; intro W1 hM; simp only [List.cons_append, List.nil_append] at hM) | (go_at_call 69; (with_reducible refine cE hM (fun R' hM' => kg sx sy n (2 * rad) tx ty e4 i5 i7 H4.out hM') ?_); clear hM H4; intro W1 hM; simp only [List.cons_append, List.nil_append] at hM) | (go_at_call 69; (with_reducible refine cE hM (fun R' hM' => kg qx qy crs md mx my e5 i1 i8 H5.out hM') ?_); clear hM H5; intro W1 hM; simp only [List.cons_append, List.nil_append] at hM) | ((with_reducible refine lX ?_); refine mL ?_) | ((with_reducible refine sX ?_); refine mS ?_; clear hM; intro W hM) | ((with_reducible refine zX ?_); refine mB ?_; clear hM; intro g W hM))
  all_goals
   go_meet
   exact ⟨_, _, _, _, _, _, rfl, rfl, rfl, rfl, rfl, rfl, hM⟩
 case rest =>
 clear hM
 obtain ⟨gb, g22, g21, g20, g19, g18, rfl, rfl, rfl, rfl, rfl, rfl, hM⟩ := hcut
 obtain ⟨bb, hbb⟩ : ∃ bb, (((((false || (e1 != 0)) || (e2 != 0)) || (e3 != 0)) || (e4 != 0)) || (e5 != 0)) = bb := ⟨_, rfl⟩
 rw [hbb] at hM
 by_cases hg : e1 = 0 ∧ e2 = 0 ∧ e3 = 0 ∧ e4 = 0 ∧ e5 = 0
 rotate_left 1
 · have HZ := hide (HE.out.trans (if_neg hg))
   have hb2 : bb = true := by
    rw [← hbb]
    rcases hq : (((((false || (e1 != 0)) || (e2 != 0)) || (e3 != 0)) || (e4 != 0)) || (e5 != 0)) with _ | _
    · exfalso
      simp at hq
      omega
    · rfl
   subst hb2
   clear hbb hg HE
   go_wp2_with (first | ((with_reducible refine lX ?_); refine mL ?_) | ((with_reducible refine sX ?_); refine mS ?_; clear hM; intro W hM) | ((with_reducible refine zX ?_); refine mB ?_; clear hM; intro g W hM))
   all_goals
    (go_ret2; first | exact ⟨.slice none 0 0, [], by rw [HZ.out]; rfl, by rw [HZ.out]; exact jg 5, yE hM⟩ | exact ⟨.slice none 0 0, by rw [HZ.out]; rfl, [], by rw [HZ.out]; exact jg 5, yE hM⟩)
 have HZ := hide (HE.out.trans (if_pos hg))
 obtain ⟨rfl, rfl, rfl, rfl, rfl⟩ := hg
 obtain rfl : bb = false := by rw [← hbb]; rfl
 clear hbb HE
 have A1 := fun W => xW sx sy tx ty cx cy rad (n + 64800000) (-2 * q) (by unfold qH; omega) W
 have S1 := fun W => kf fx fy qx qy W
 have S2 := fun W => kf qx qy sx sy W
 have S3 := fun W => kf tx ty mx my W
 have S4 := fun W => kf mx my fx fy W
 go_upto_region 17 with (first | ((with_reducible refine lX ?_); refine mL ?_) | ((with_reducible refine sX ?_); refine mS ?_; clear hM; intro W hM) | ((with_reducible refine zX ?_); refine mB ?_; clear hM; intro g W hM))
 try simp only [pS, pN, sA, sB, sC]
 refine qW [(g22, [.int .i64 mx, .int .i64 my], 26), (g21, [.int .i64 tx, .int .i64 ty], 26), (g20, [.int .i64 cx, .int .i64 cy], 26), (g19, [.int .i64 sx, .int .i64 sy], 26), (g18, [.int .i64 qx, .int .i64 qy], 26), (gF, [.int .i64 fx, .int .i64 fy], 26)] hM (by kernel_rfl) ?_; (clear hM; intro W hM)
 refine rD 0 ?_
 refine rD 1 ?_
 refine rD 3 ?_
 refine rD 4 ?_
 refine rD 6 ?_
 refine rD 7 ?_
 refine rD 8 ?_
 refine rD 9 ?_
 refine rD 10 ?_
 refine rD 11 ?_
 refine rD 12 ?_
 refine rD 16 ?_
 refine rD 17 ?_
 refine rD 19 ?_
 refine rD 20 ?_
 refine dC 2 (fun K' hK' => ?_)
 go_wp2_with (first | (go_at_call 68; (with_reducible refine (QT _).mono ?_); rintro e W1 ⟨rfl, rfl⟩) | (go_at_call 72; (with_reducible refine cb hM (A1 _) ?_); clear hM; intro W1 hM) | (go_at_call 71; (with_reducible refine cb hM (S1 _) ?_); clear hM; intro W1 hM) | (go_at_call 71; (with_reducible refine cb hM (S2 _) ?_); clear hM; intro W1 hM) | (go_at_call 71; (with_reducible refine cb hM (S3 _) ?_); clear hM; intro W1 hM) | (go_at_call 71; (with_reducible refine cb hM (S4 _) ?_); clear hM; intro W1 hM))
 refine rK hK' hM ?_; clear hK' K'
 refine dC 5 (fun K' hK' => ?_)
 go_wp2_with (first | (go_at_call 68; (with_reducible refine (QT _).mono ?_); rintro e W1 ⟨rfl, rfl⟩) | (go_at_call 72; (with_reducible refine cb hM (A1 _) ?_); clear hM; intro W1 hM) | (go_at_call 71; (with_reducible refine cb hM (S1 _) ?_); clear hM; intro W1 hM) | (go_at_call 71; (with_reducible refine cb hM (S2 _) ?_); clear hM; intro W1 hM) | (go_at_call 71; (with_reducible refine cb hM (S3 _) ?_); clear hM; intro W1 hM) | (go_at_call 71; (with_reducible refine cb hM (S4 _) ?_); clear hM; intro W1 hM))
 refine rK hK' hM ?_; clear hK' K'
 refine dC 13 (fun K' hK' => ?_)
 go_wp2_with (first | (go_at_call 68; (with_reducible refine (QT _).mono ?_); rintro e W1 ⟨rfl, rfl⟩) | (go_at_call 72; (with_reducible refine cb hM (A1 _) ?_); clear hM; intro W1 hM) | (go_at_call 71; (with_reducible refine cb hM (S1 _) ?_); clear hM; intro W1 hM) | (go_at_call 71; (with_reducible refine cb hM (S2 _) ?_); clear hM; intro W1 hM) | (go_at_call 71; (with_reducible refine cb hM (S3 _) ?_); clear hM; intro W1 hM) | (go_at_call 71; (with_reducible refine cb hM (S4 _) ?_); clear hM; intro W1 hM))
 refine rK hK' hM ?_; clear hK' K'
 refine rD 14 ?_
 refine dC 15 (fun K' hK' => ?_)
 go_wp2_with (first | (go_at_call 68; (with_reducible refine (QT _).mono ?_); rintro e W1 ⟨rfl, rfl⟩) | (go_at_call 72; (with_reducible refine cb hM (A1 _) ?_); clear hM; intro W1 hM) | (go_at_call 71; (with_reducible refine cb hM (S1 _) ?_); clear hM; intro W1 hM) | (go_at_call 71; (with_reducible refine cb hM (S2 _) ?_); clear hM; intro W1 hM) | (go_at_call 71; (with_reducible refine cb hM (S3 _) ?_); clear hM; intro W1 hM) | (go_at_call 71; (with_reducible refine cb hM (S4 _) ?_); clear hM; intro W1 hM))
 refine rK hK' hM ?_; clear hK' K'
 refine dC 18 (fun K' hK' => ?_)
 go_wp2_with (first | (go_at_call 68; (with_reducible refine (QT _).mono ?_); rintro e W1 ⟨rfl, rfl⟩) | (go_at_call 72; (with_reducible refine cb hM (A1 _) ?_); clear hM; intro W1 hM) | (go_at_call 71; (with_reducible refine cb hM (S1 _) ?_); clear hM; intro W1 hM) | (go_at_call 71; (with_reducible refine cb hM (S2 _) ?_); clear hM; intro W1 hM) | (go_at_call 71; (with_reducible refine cb hM (S3 _) ?_); clear hM; intro W1 hM) | (go_at_call 71; (with_reducible refine cb hM (S4 _) ?_); clear hM; intro W1 hM))
 refine rK hK' hM ?_; clear hK' K'
 refine dC 21 (fun K' hK' => ?_)
 go_wp2_with (first | (go_at_call 68; (with_reducible refine (QT _).mono ?_); rintro e W1 ⟨rfl, rfl⟩) | (go_at_call 72; (with_reducible refine cb hM (A1 _) ?_); clear hM; intro W1 hM) | (go_at_call 71; (with_reducible refine cb hM (S1 _) ?_); clear hM; intro W1 hM) | (go_at_call 71; (with_reducible refine cb hM (S2 _) ?_); clear hM; intro W1 hM) | (go_at_call 71; (with_reducible refine cb hM (S3 _) ?_); clear hM; intro W1 hM) | (go_at_call 71; (with_reducible refine cb hM (S4 _) ?_); clear hM; intro W1 hM))
 refine rK hK' hM ?_; clear hK' K'
 refine dC 22 (fun K' hK' => ?_)
 refine Fx [uU fx fy qx qy, uU qx qy sx sy, Zo sx sy tx ty cx cy rad (n + 64800000) (-2 * q), uU tx ty mx my, uU mx my fx fy] hM ?_
 clear hM; intro gB W hM
 refine rK hK' hM ?_; clear hK' K'
 refine rD 23 ?_
 refine rD 24 ?_
 refine qE (by kernel_rfl) ?_
 go_wp2_with (first | ((with_reducible refine lX ?_); refine mL ?_) | ((with_reducible refine sX ?_); refine mS ?_; clear hM; intro W hM) | ((with_reducible refine zX ?_); refine mB ?_; clear hM; intro g W hM))
 all_goals
  go_ret2
  first
   | exact ⟨_, _, by rw [HZ.out]; rfl, by rw [HZ.out]; exact YI [uU fx fy qx qy, uU qx qy sx sy, Zo sx sy tx ty cx cy rad (n + 64800000) (-2 * q), uU tx ty mx my, uU mx my fx fy] 5 rfl (by decide) (by decide), Vu hM⟩
   | exact ⟨_, by rw [HZ.out]; rfl, _, by rw [HZ.out]; exact YI [uU fx fy qx qy, uU qx qy sx sy, Zo sx sy tx ty cx cy rad (n + 64800000) (-2 * q), uU tx ty mx my, uU mx my fx fy] 5 rfl (by decide) (by decide), Vu hM⟩
end Go.Proofs.YteanfgobpjdmnaaGreatDoor
