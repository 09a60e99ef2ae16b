/-
  Patterns and how they are entered, by boxes.
-/
import Derived.Test.YtbhpklpkcgcmfaaGreatDoorMHoldB
set_option maxRecDepth 100000
set_option maxHeartbeats 16000000
namespace Go.Proofs.YtbhpklpkcgcmfaaGreatDoor
open Go.RowKit
set_option linter.unusedVariables false
set_option linter.unusedSimpArgs false
theorem mem_hd {w W : World} {e : Box} {L : List Box} (h : Mem w W (e :: L)) : Mem w W [e] :=
 ⟨h.below, fun g cs t hm => h.rows g cs t (by rw [List.mem_singleton.1 hm]; exact .head _), by simp⟩
theorem mem_no {w W : World} {L : List Box} (h : Mem w W L) : Mem w W [] := ⟨h.below, (fun _ _ _ h => by cases h), List.nodup_nil⟩
theorem shpE_in {fx fy inb tn leg rad : Int} (h : shpE fx fy inb tn leg rad = 0) : (0 ≤ inb ∧ inb < 129600000) ∧ (1 ≤ rad ∧ rad ≤ 2000000) ∧ (tn = 1 ∨ tn = 2) := by
 unfold shpE at h
 split at h
 · cases h
 rename_i h1
 split at h
 · cases h
 refine ⟨by omega, by omega, ?_⟩
 have : (vldB fx fy && (decide (tn = 1) || decide (tn = 2))) = true := by
  rcases hq : (vldB fx fy && (decide (tn = 1) || decide (tn = 2))) with _ | _
  · exact absurd hq h1
  · rfl
 have := (Bool.and_eq_true_iff.1 this).2
 simpa using this
theorem kindW_cases (v : Int) : (kindW v = 3 ∧ v < 25200000) ∨ (kindW v = 2 ∧ ¬ v < 25200000 ∧ v ≥ 90000000) ∨ (kindW v = 1 ∧ ¬ v < 25200000 ∧ ¬ v ≥ 90000000) := by
 unfold kindW
 split
 · exact .inl ⟨rfl, by assumption⟩
 · split
   · exact .inr (.inl ⟨rfl, by assumption, by assumption⟩)
   · exact .inr (.inr ⟨rfl, by assumption, by assumption⟩)
theorem enter_bad (k fx fy inb tn leg rad e0 : Int) (hE : shpE fx fy inb tn leg rad = e0) (h0 : e0 ≠ 0) (w : World) :
 Calls Tryz.prog 61 #[.int .u8 k, .agg #[.int .i64 fx, .int .i64 fy], .int .i64 inb, .int .u8 tn, .int .i64 leg, .int .i64 rad] w fun e w' => e = .returned (.tuple #[.slice none 0 0, .int .i64 e0]) ∧ Below w.heap.size w w' := by
 have LY := fun W => layout_h fx fy inb tn leg rad W
 rw [shpC_bad hE h0, hE] at LY
 have h1 : (e0 != 0) = true := by simpa using h0
 clear hE h0
 have hM := mem_nil w
 go_enter Tryz.func61, Tryz.ntmps61
 go_wp2_with (first | (go_at_call 120; (with_reducible refine cb hM (LY _) ?_); clear hM; intro W1 hM) | ((with_reducible refine lX ?_); first | refine aL hM rfl rfl ?_ | refine aM hM rfl rfl ?_) | ((with_reducible refine sX ?_); refine aS hM rfl rfl rfl ?_; clear hM; intro W hM) | ((with_reducible refine bX ?_); refine aB hM rfl rfl ?_; clear hM; intro g W hM) | ((with_reducible refine zX ?_); refine aN hM rfl rfl ?_; clear hM; intro g W hM))
 all_goals
  go_ret2
  exact ⟨rfl, hM.below⟩
theorem pattern_ok (fx fy inb tn leg rad : Int) (hE : shpE fx fy inb tn leg rad = 0) (w : World) :
 Calls Tryz.prog 63 #[.agg #[.int .i64 fx, .int .i64 fy], .int .i64 inb, .int .u8 tn, .int .i64 leg, .int .i64 rad] w fun e w' => ∃ g : Nat, e = .returned (.tuple #[.slice (some ⟨g, 0, none⟩) 4 4, .int .i64 0]) ∧ Mem w w' [(g, (patE fx fy inb tn leg rad).flatMap El.cells, 48)] := by
 have LY := fun W => layout_h fx fy inb tn leg rad W
 obtain ⟨⟨i1, i2⟩, ⟨r1, r2⟩, ht⟩ := shpE_in hE
 obtain ⟨s, hs⟩ : ∃ s, shpF fx fy inb tn leg rad = s := ⟨_, rfl⟩
 obtain ⟨U, hU⟩ : ∃ U, shpU inb tn = U := ⟨_, rfl⟩
 obtain ⟨q, hq⟩ : ∃ q, qtr tn = q := ⟨_, rfl⟩
 have qb : q = 32400000 ∨ q = -32400000 := by rw [← hq]; unfold qtr; split <;> omega
 have ub : -32400000 ≤ U ∧ U ≤ 162000000 := by rw [← hU]; unfold shpU; rw [hq]; omega
 have hC : shpC fx fy inb tn leg rad = [.int .i64 fx, .int .i64 fy, .int .i64 s.x1, .int .i64 s.y1, .int .i64 s.x2, .int .i64 s.y2, .int .i64 s.x3, .int .i64 s.y3, .int .i64 s.cx, .int .i64 s.cy, .int .i64 s.dx, .int .i64 s.dy, .int .i64 U, .int .i64 rad, .int .i64 (2 * q)] := by
  unfold shpC
  rw [if_pos hE]
  dsimp only
  rw [hs, hU, hq]
 rw [hC, hE] at LY
 clear hC ht
 have HS := hide (And.intro hs (And.intro hU hq))
 clear hs hU hq
 have HP := hide (show patE fx fy inb tn leg rad = [arE fx fy s.x1 s.y1 s.cx s.cy rad (U + 64800000) (2 * q), lnE s.x1 s.y1 s.x2 s.y2, arE s.x2 s.y2 s.x3 s.y3 s.dx s.dy rad U (2 * q), lnE s.x3 s.y3 fx fy] by unfold patE; dsimp only; rw [HS.out.1, HS.out.2.1, HS.out.2.2])
 have w1 := wi (x := U + 64800000) (by omega) (by omega)
 have w2 := wi (x := -(2 * q)) (by omega) (by omega)
 have A1 := fun W => harc_any fx fy s.x1 s.y1 s.cx s.cy rad (U + 64800000) (2 * q) (by unfold I64; omega) W
 have A2 := fun W => harc_any s.x2 s.y2 s.x3 s.y3 s.dx s.dy rad U (2 * q) (by unfold I64; omega) W
 have S1 := fun W => hstr_any s.x1 s.y1 s.x2 s.y2 W
 have S2 := fun W => hstr_any s.x3 s.y3 fx fy W
 have hM := mem_nil w
 go_enter Tryz.func63, Tryz.ntmps63
 go_upto_region 4 with (first | (go_at_call 120; (with_reducible refine cb hM (LY _) ?_); clear hM; intro W1 hM) | ((with_reducible refine lX ?_); first | refine aL hM rfl rfl ?_ | refine aM hM rfl rfl ?_) | ((with_reducible refine sX ?_); refine aS hM rfl rfl rfl ?_; clear hM; intro W hM) | ((with_reducible refine bX ?_); refine aB hM rfl rfl ?_; clear hM; intro g W hM) | ((with_reducible refine zX ?_); refine aN hM rfl rfl ?_; clear hM; intro g W hM))
 try simp only [pS, pN, sA, sB, sC]
 refine region_k [(g, [.int .i64 fx, .int .i64 fy, .int .i64 s.x1, .int .i64 s.y1, .int .i64 s.x2, .int .i64 s.y2, .int .i64 s.x3, .int .i64 s.y3, .int .i64 s.cx, .int .i64 s.cy, .int .i64 s.dx, .int .i64 s.dy, .int .i64 U, .int .i64 rad, .int .i64 (2 * q)], 157)] hM (by kernel_rfl) ?_; (clear hM; intro W hM)
 refine dP 0 hM ?_
 try simp only [pS, pN, sA, sB, sC]
 refine dP 1 hM ?_
 try simp only [pS, pN, sA, sB, sC]
 first | refine dL 2 hM ?_ | refine dM 2 hM ?_
 try simp only [pS, pN, sA, sB, sC]
 refine dP 3 hM ?_
 try simp only [pS, pN, sA, sB, sC]
 refine dP 4 hM ?_
 try simp only [pS, pN, sA, sB, sC]
 first | refine dL 5 hM ?_ | refine dM 5 hM ?_
 try simp only [pS, pN, sA, sB, sC]
 refine dP 6 hM ?_
 try simp only [pS, pN, sA, sB, sC]
 first | refine dL 7 hM ?_ | refine dM 7 hM ?_
 try simp only [pS, pN, sA, sB, sC]
 refine dP 8 hM ?_
 try simp only [pS, pN, sA, sB, sC]
 refine dP 9 hM ?_
 try simp only [pS, pN, sA, sB, sC]
 first | refine dL 10 hM ?_ | refine dM 10 hM ?_
 try simp only [pS, pN, sA, sB, sC]
 refine dP 11 hM ?_
 try simp only [pS, pN, sA, sB, sC]
 refine dP 12 hM ?_
 try simp only [pS, pN, sA, sB, sC]
 first | refine dL 13 hM ?_ | refine dM 13 hM ?_
 try simp only [pS, pN, sA, sB, sC]
 refine dP 15 hM ?_
 try simp only [pS, pN, sA, sB, sC]
 refine dP 16 hM ?_
 try simp only [pS, pN, sA, sB, sC]
 first | refine dL 17 hM ?_ | refine dM 17 hM ?_
 try simp only [pS, pN, sA, sB, sC]
 refine dP 18 hM ?_
 try simp only [pS, pN, sA, sB, sC]
 refine dP 19 hM ?_
 try simp only [pS, pN, sA, sB, sC]
 first | refine dL 20 hM ?_ | refine dM 20 hM ?_
 try simp only [pS, pN, sA, sB, sC]
 refine dP 22 hM ?_
 try simp only [pS, pN, sA, sB, sC]
 refine dP 23 hM ?_
 try simp only [pS, pN, sA, sB, sC]
 first | refine dL 24 hM ?_ | refine dM 24 hM ?_
 try simp only [pS, pN, sA, sB, sC]
 refine dP 25 hM ?_
 try simp only [pS, pN, sA, sB, sC]
 refine dP 26 hM ?_
 try simp only [pS, pN, sA, sB, sC]
 first | refine dL 27 hM ?_ | refine dM 27 hM ?_
 try simp only [pS, pN, sA, sB, sC]
 refine dP 28 hM ?_
 try simp only [pS, pN, sA, sB, sC]
 first | refine dL 29 hM ?_ | refine dM 29 hM ?_
 try simp only [pS, pN, sA, sB, sC]
 refine dP 30 hM ?_
 try simp only [pS, pN, sA, sB, sC]
 refine dP 31 hM ?_
 try simp only [pS, pN, sA, sB, sC]
 first | refine dL 32 hM ?_ | refine dM 32 hM ?_
 try simp only [pS, pN, sA, sB, sC]
 refine dP 33 hM ?_
 try simp only [pS, pN, sA, sB, sC]
 first | refine dL 34 hM ?_ | refine dM 34 hM ?_
 try simp only [pS, pN, sA, sB, sC]
 refine dP 36 hM ?_
 try simp only [pS, pN, sA, sB, sC]
 refine dP 37 hM ?_
 try simp only [pS, pN, sA, sB, sC]
 first | refine dL 38 hM ?_ | refine dM 38 hM ?_
 try simp only [pS, pN, sA, sB, sC]
 refine dP 39 hM ?_
 try simp only [pS, pN, sA, sB, sC]
 refine dP 40 hM ?_
 try simp only [pS, pN, sA, sB, sC]
 first | refine dL 41 hM ?_ | refine dM 41 hM ?_
 try simp only [pS, pN, sA, sB, sC]
 refine dC 14 (fun K' hK' => ?_)
 go_wp2_with (first | (go_at_call 119; (with_reducible refine cb hM (A1 _) ?_); clear hM; intro W1 hM) | (go_at_call 119; (with_reducible refine cb hM (A2 _) ?_); clear hM; intro W1 hM) | (go_at_call 118; (with_reducible refine cb hM (S1 _) ?_); clear hM; intro W1 hM) | (go_at_call 118; (with_reducible refine cb hM (S2 _) ?_); clear hM; intro W1 hM))
 refine hK_out hK' hM ?_
 clear hK' K'
 try simp only [pS, pN, sA, sB, sC]
 refine dC 21 (fun K' hK' => ?_)
 go_wp2_with (first | (go_at_call 119; (with_reducible refine cb hM (A1 _) ?_); clear hM; intro W1 hM) | (go_at_call 119; (with_reducible refine cb hM (A2 _) ?_); clear hM; intro W1 hM) | (go_at_call 118; (with_reducible refine cb hM (S1 _) ?_); clear hM; intro W1 hM) | (go_at_call 118; (with_reducible refine cb hM (S2 _) ?_); clear hM; intro W1 hM))
 refine hK_out hK' hM ?_
 clear hK' K'
 try simp only [pS, pN, sA, sB, sC]
 refine dC 35 (fun K' hK' => ?_)
 go_wp2_with (first | (go_at_call 119; (with_reducible refine cb hM (A1 _) ?_); clear hM; intro W1 hM) | (go_at_call 119; (with_reducible refine cb hM (A2 _) ?_); clear hM; intro W1 hM) | (go_at_call 118; (with_reducible refine cb hM (S1 _) ?_); clear hM; intro W1 hM) | (go_at_call 118; (with_reducible refine cb hM (S2 _) ?_); clear hM; intro W1 hM))
 refine hK_out hK' hM ?_
 clear hK' K'
 try simp only [pS, pN, sA, sB, sC]
 refine dC 42 (fun K' hK' => ?_)
 go_wp2_with (first | (go_at_call 119; (with_reducible refine cb hM (A1 _) ?_); clear hM; intro W1 hM) | (go_at_call 119; (with_reducible refine cb hM (A2 _) ?_); clear hM; intro W1 hM) | (go_at_call 118; (with_reducible refine cb hM (S1 _) ?_); clear hM; intro W1 hM) | (go_at_call 118; (with_reducible refine cb hM (S2 _) ?_); clear hM; intro W1 hM))
 refine hK_out hK' hM ?_
 clear hK' K'
 try simp only [pS, pN, sA, sB, sC]
 refine dC 43 (fun K' hK' => ?_)
 refine oBn [arE fx fy s.x1 s.y1 s.cx s.cy rad (U + 64800000) (2 * q), lnE s.x1 s.y1 s.x2 s.y2, arE s.x2 s.y2 s.x3 s.y3 s.dx s.dy rad U (2 * q), lnE s.x3 s.y3 fx fy] hM ?_
 clear hM; intro gB W hM
 refine hK_out hK' hM ?_
 clear hK' K'
 try simp only [pS, pN, sA, sB, sC]
 refine dP 44 hM ?_
 try simp only [pS, pN, sA, sB, sC]
 refine dP 45 hM ?_
 try simp only [pS, pN, sA, sB, sC]
 refine tk_done (by kernel_rfl) ?_
 go_wp2_with (first | ((with_reducible refine lX ?_); first | refine aL hM rfl rfl ?_ | refine aM hM rfl rfl ?_) | ((with_reducible refine sX ?_); refine aS hM rfl rfl rfl ?_; clear hM; intro W hM) | ((with_reducible refine bX ?_); refine aB hM rfl rfl ?_; clear hM; intro g W hM) | ((with_reducible refine zX ?_); refine aN hM rfl rfl ?_; clear hM; intro g W hM))
 all_goals
  go_ret2
  exact ⟨gB, rfl, by rw [HP.out]; exact mem_hd hM⟩
theorem enter_ok (v fx fy inb tn leg rad : Int) (hE : shpE fx fy inb tn leg rad = 0) (w : World) :
 Calls Tryz.prog 61 #[.int .u8 (kindW v), .agg #[.int .i64 fx, .int .i64 fy], .int .i64 inb, .int .u8 tn, .int .i64 leg, .int .i64 rad] w fun e w' => ∃ V B, e = .returned (.tuple #[V, .int .i64 0]) ∧ OwE V (entE v fx fy inb tn leg rad) B 3 ∧ Mem w w' B := by
 have LY := fun W => layout_h fx fy inb tn leg rad W
 obtain ⟨⟨i1, i2⟩, ⟨r1, r2⟩, ht⟩ := shpE_in hE
 obtain ⟨s, hs⟩ : ∃ s, shpF fx fy inb tn leg rad = s := ⟨_, rfl⟩
 obtain ⟨U, hU⟩ : ∃ U, shpU inb tn = U := ⟨_, rfl⟩
 obtain ⟨q, hq⟩ : ∃ q, qtr tn = q := ⟨_, rfl⟩
 have qb : q = 32400000 ∨ q = -32400000 := by rw [← hq]; unfold qtr; split <;> omega
 have ub : -32400000 ≤ U ∧ U ≤ 162000000 := by rw [← hU]; unfold shpU; rw [hq]; omega
 have hC : shpC fx fy inb tn leg rad = [.int .i64 fx, .int .i64 fy, .int .i64 s.x1, .int .i64 s.y1, .int .i64 s.x2, .int .i64 s.y2, .int .i64 s.x3, .int .i64 s.y3, .int .i64 s.cx, .int .i64 s.cy, .int .i64 s.dx, .int .i64 s.dy, .int .i64 U, .int .i64 rad, .int .i64 (2 * q)] := by
  unfold shpC
  rw [if_pos hE]
  dsimp only
  rw [hs, hU, hq]
 rw [hC, hE] at LY
 clear hC ht
 have HS := hide (And.intro hs (And.intro hU hq))
 clear hs hU hq
 have w1 := wi (x := U + 64800000) (by omega) (by omega)
 have w2 := wi (x := -(2 * q)) (by omega) (by omega)
 have A1 := fun W => harc_any s.x2 s.y2 s.x3 s.y3 s.dx s.dy rad U (2 * q) (by unfold I64; omega) W
 have A2 := fun W => harc_any s.x3 s.y3 s.x2 s.y2 s.dx s.dy rad (U + 64800000) (-(2 * q)) (by unfold I64; omega) W
 have S1 := fun W => hstr_any fx fy s.x2 s.y2 W
 have S2 := fun W => hstr_any s.x3 s.y3 fx fy W
 have S3 := fun W => hstr_any fx fy s.x3 s.y3 W
 have S4 := fun W => hstr_any s.x2 s.y2 fx fy W
 have hM := mem_nil w
 rcases kindW_cases v with ⟨hk, hv⟩ | ⟨hk, hv, hv2⟩ | ⟨hk, hv, hv2⟩
 · have HP := hide (show entE v fx fy inb tn leg rad = [lnE fx fy s.x2 s.y2, arE s.x2 s.y2 s.x3 s.y3 s.dx s.dy rad U (2 * q), lnE s.x3 s.y3 fx fy] by unfold entE; rw [if_pos hv]; (try dsimp only); rw [HS.out.1, HS.out.2.1, HS.out.2.2])
   rw [hk]
   clear hk hv
   go_enter Tryz.func61, Tryz.ntmps61
   go_upto_region 8 with (first | (go_at_call 120; (with_reducible refine cb hM (LY _) ?_); clear hM; intro W1 hM) | ((with_reducible refine lX ?_); first | refine aL hM rfl rfl ?_ | refine aM hM rfl rfl ?_) | ((with_reducible refine sX ?_); refine aS hM rfl rfl rfl ?_; clear hM; intro W hM) | ((with_reducible refine bX ?_); refine aB hM rfl rfl ?_; clear hM; intro g W hM) | ((with_reducible refine zX ?_); refine aN hM rfl rfl ?_; clear hM; intro g W hM))
   try simp only [pS, pN, sA, sB, sC]
   refine region_k [(g, [.int .i64 fx, .int .i64 fy, .int .i64 s.x1, .int .i64 s.y1, .int .i64 s.x2, .int .i64 s.y2, .int .i64 s.x3, .int .i64 s.y3, .int .i64 s.cx, .int .i64 s.cy, .int .i64 s.dx, .int .i64 s.dy, .int .i64 U, .int .i64 rad, .int .i64 (2 * q)], 157)] hM (by kernel_rfl) ?_; (clear hM; intro W hM)
   refine dP 0 hM ?_
   try simp only [pS, pN, sA, sB, sC]
   refine dP 1 hM ?_
   try simp only [pS, pN, sA, sB, sC]
   first | refine dL 2 hM ?_ | refine dM 2 hM ?_
   try simp only [pS, pN, sA, sB, sC]
   refine dP 3 hM ?_
   try simp only [pS, pN, sA, sB, sC]
   refine dP 4 hM ?_
   try simp only [pS, pN, sA, sB, sC]
   first | refine dL 5 hM ?_ | refine dM 5 hM ?_
   try simp only [pS, pN, sA, sB, sC]
   refine dP 7 hM ?_
   try simp only [pS, pN, sA, sB, sC]
   refine dP 8 hM ?_
   try simp only [pS, pN, sA, sB, sC]
   first | refine dL 9 hM ?_ | refine dM 9 hM ?_
   try simp only [pS, pN, sA, sB, sC]
   refine dP 10 hM ?_
   try simp only [pS, pN, sA, sB, sC]
   refine dP 11 hM ?_
   try simp only [pS, pN, sA, sB, sC]
   first | refine dL 12 hM ?_ | refine dM 12 hM ?_
   try simp only [pS, pN, sA, sB, sC]
   refine dP 13 hM ?_
   try simp only [pS, pN, sA, sB, sC]
   first | refine dL 14 hM ?_ | refine dM 14 hM ?_
   try simp only [pS, pN, sA, sB, sC]
   refine dP 15 hM ?_
   try simp only [pS, pN, sA, sB, sC]
   refine dP 16 hM ?_
   try simp only [pS, pN, sA, sB, sC]
   first | refine dL 17 hM ?_ | refine dM 17 hM ?_
   try simp only [pS, pN, sA, sB, sC]
   refine dP 18 hM ?_
   try simp only [pS, pN, sA, sB, sC]
   first | refine dL 19 hM ?_ | refine dM 19 hM ?_
   try simp only [pS, pN, sA, sB, sC]
   refine dP 21 hM ?_
   try simp only [pS, pN, sA, sB, sC]
   refine dP 22 hM ?_
   try simp only [pS, pN, sA, sB, sC]
   first | refine dL 23 hM ?_ | refine dM 23 hM ?_
   try simp only [pS, pN, sA, sB, sC]
   refine dP 24 hM ?_
   try simp only [pS, pN, sA, sB, sC]
   refine dP 25 hM ?_
   try simp only [pS, pN, sA, sB, sC]
   first | refine dL 26 hM ?_ | refine dM 26 hM ?_
   try simp only [pS, pN, sA, sB, sC]
   refine dC 6 (fun K' hK' => ?_)
   go_wp2_with (first | (go_at_call 119; (with_reducible refine cb hM (A1 _) ?_); clear hM; intro W1 hM) | (go_at_call 119; (with_reducible refine cb hM (A2 _) ?_); clear hM; intro W1 hM) | (go_at_call 118; (with_reducible refine cb hM (S1 _) ?_); clear hM; intro W1 hM) | (go_at_call 118; (with_reducible refine cb hM (S2 _) ?_); clear hM; intro W1 hM) | (go_at_call 118; (with_reducible refine cb hM (S3 _) ?_); clear hM; intro W1 hM) | (go_at_call 118; (with_reducible refine cb hM (S4 _) ?_); clear hM; intro W1 hM))
   refine hK_out hK' hM ?_
   clear hK' K'
   try simp only [pS, pN, sA, sB, sC]
   refine dC 20 (fun K' hK' => ?_)
   go_wp2_with (first | (go_at_call 119; (with_reducible refine cb hM (A1 _) ?_); clear hM; intro W1 hM) | (go_at_call 119; (with_reducible refine cb hM (A2 _) ?_); clear hM; intro W1 hM) | (go_at_call 118; (with_reducible refine cb hM (S1 _) ?_); clear hM; intro W1 hM) | (go_at_call 118; (with_reducible refine cb hM (S2 _) ?_); clear hM; intro W1 hM) | (go_at_call 118; (with_reducible refine cb hM (S3 _) ?_); clear hM; intro W1 hM) | (go_at_call 118; (with_reducible refine cb hM (S4 _) ?_); clear hM; intro W1 hM))
   refine hK_out hK' hM ?_
   clear hK' K'
   try simp only [pS, pN, sA, sB, sC]
   refine dC 27 (fun K' hK' => ?_)
   go_wp2_with (first | (go_at_call 119; (with_reducible refine cb hM (A1 _) ?_); clear hM; intro W1 hM) | (go_at_call 119; (with_reducible refine cb hM (A2 _) ?_); clear hM; intro W1 hM) | (go_at_call 118; (with_reducible refine cb hM (S1 _) ?_); clear hM; intro W1 hM) | (go_at_call 118; (with_reducible refine cb hM (S2 _) ?_); clear hM; intro W1 hM) | (go_at_call 118; (with_reducible refine cb hM (S3 _) ?_); clear hM; intro W1 hM) | (go_at_call 118; (with_reducible refine cb hM (S4 _) ?_); clear hM; intro W1 hM))
   refine hK_out hK' hM ?_
   clear hK' K'
   try simp only [pS, pN, sA, sB, sC]
   refine dC 28 (fun K' hK' => ?_)
   refine oBn [lnE fx fy s.x2 s.y2, arE s.x2 s.y2 s.x3 s.y3 s.dx s.dy rad U (2 * q), lnE s.x3 s.y3 fx fy] hM ?_
   clear hM; intro gB W hM
   refine hK_out hK' hM ?_
   clear hK' K'
   try simp only [pS, pN, sA, sB, sC]
   refine dP 29 hM ?_
   try simp only [pS, pN, sA, sB, sC]
   refine dP 30 hM ?_
   try simp only [pS, pN, sA, sB, sC]
   refine tk_done (by kernel_rfl) ?_
   go_wp2_with (first | ((with_reducible refine lX ?_); first | refine aL hM rfl rfl ?_ | refine aM hM rfl rfl ?_) | ((with_reducible refine sX ?_); refine aS hM rfl rfl rfl ?_; clear hM; intro W hM) | ((with_reducible refine bX ?_); refine aB hM rfl rfl ?_; clear hM; intro g W hM) | ((with_reducible refine zX ?_); refine aN hM rfl rfl ?_; clear hM; intro g W hM))
   all_goals
    go_ret2
    exact ⟨_, _, rfl, by rw [HP.out]; exact owE_lit [lnE fx fy s.x2 s.y2, arE s.x2 s.y2 s.x3 s.y3 s.dx s.dy rad U (2 * q), lnE s.x3 s.y3 fx fy] 3 rfl (by decide) (by decide), mem_hd hM⟩
 · have HP := hide (show entE v fx fy inb tn leg rad = [lnE fx fy s.x3 s.y3, arE s.x3 s.y3 s.x2 s.y2 s.dx s.dy rad (U + 64800000) (-(2 * q)), lnE s.x2 s.y2 fx fy] by unfold entE; rw [if_neg hv, if_pos hv2]; (try dsimp only); rw [HS.out.1, HS.out.2.1, HS.out.2.2])
   rw [hk]
   clear hk hv hv2
   go_enter Tryz.func61, Tryz.ntmps61
   go_upto_region 10 with (first | (go_at_call 120; (with_reducible refine cb hM (LY _) ?_); clear hM; intro W1 hM) | ((with_reducible refine lX ?_); first | refine aL hM rfl rfl ?_ | refine aM hM rfl rfl ?_) | ((with_reducible refine sX ?_); refine aS hM rfl rfl rfl ?_; clear hM; intro W hM) | ((with_reducible refine bX ?_); refine aB hM rfl rfl ?_; clear hM; intro g W hM) | ((with_reducible refine zX ?_); refine aN hM rfl rfl ?_; clear hM; intro g W hM))
   try simp only [pS, pN, sA, sB, sC]
   refine region_k [(g, [.int .i64 fx, .int .i64 fy, .int .i64 s.x1, .int .i64 s.y1, .int .i64 s.x2, .int .i64 s.y2, .int .i64 s.x3, .int .i64 s.y3, .int .i64 s.cx, .int .i64 s.cy, .int .i64 s.dx, .int .i64 s.dy, .int .i64 U, .int .i64 rad, .int .i64 (2 * q)], 157)] hM (by kernel_rfl) ?_; (clear hM; intro W hM)
   refine dP 0 hM ?_
   try simp only [pS, pN, sA, sB, sC]
   refine dP 1 hM ?_
   try simp only [pS, pN, sA, sB, sC]
   first | refine dL 2 hM ?_ | refine dM 2 hM ?_
   try simp only [pS, pN, sA, sB, sC]
   refine dP 3 hM ?_
   try simp only [pS, pN, sA, sB, sC]
   refine dP 4 hM ?_
   try simp only [pS, pN, sA, sB, sC]
   first | refine dL 5 hM ?_ | refine dM 5 hM ?_
   try simp only [pS, pN, sA, sB, sC]
   refine dP 7 hM ?_
   try simp only [pS, pN, sA, sB, sC]
   refine dP 8 hM ?_
   try simp only [pS, pN, sA, sB, sC]
   first | refine dL 9 hM ?_ | refine dM 9 hM ?_
   try simp only [pS, pN, sA, sB, sC]
   refine dP 10 hM ?_
   try simp only [pS, pN, sA, sB, sC]
   refine dP 11 hM ?_
   try simp only [pS, pN, sA, sB, sC]
   first | refine dL 12 hM ?_ | refine dM 12 hM ?_
   try simp only [pS, pN, sA, sB, sC]
   refine dP 13 hM ?_
   try simp only [pS, pN, sA, sB, sC]
   first | refine dL 14 hM ?_ | refine dM 14 hM ?_
   try simp only [pS, pN, sA, sB, sC]
   refine dP 15 hM ?_
   try simp only [pS, pN, sA, sB, sC]
   refine dP 16 hM ?_
   try simp only [pS, pN, sA, sB, sC]
   first | refine dL 17 hM ?_ | refine dM 17 hM ?_
   try simp only [pS, pN, sA, sB, sC]
   refine dP 18 hM ?_
   try simp only [pS, pN, sA, sB, sC]
   refine dP 19 hM ?_
   try simp only [pS, pN, sA, sB, sC]
   first | refine dL 20 hM ?_ | refine dM 20 hM ?_
   try simp only [pS, pN, sA, sB, sC]
   refine dP 21 hM ?_
   try simp only [pS, pN, sA, sB, sC]
   refine dP 23 hM ?_
   try simp only [pS, pN, sA, sB, sC]
   refine dP 24 hM ?_
   try simp only [pS, pN, sA, sB, sC]
   first | refine dL 25 hM ?_ | refine dM 25 hM ?_
   try simp only [pS, pN, sA, sB, sC]
   refine dP 26 hM ?_
   try simp only [pS, pN, sA, sB, sC]
   refine dP 27 hM ?_
   try simp only [pS, pN, sA, sB, sC]
   first | refine dL 28 hM ?_ | refine dM 28 hM ?_
   try simp only [pS, pN, sA, sB, sC]
   refine dC 6 (fun K' hK' => ?_)
   go_wp2_with (first | (go_at_call 119; (with_reducible refine cb hM (A1 _) ?_); clear hM; intro W1 hM) | (go_at_call 119; (with_reducible refine cb hM (A2 _) ?_); clear hM; intro W1 hM) | (go_at_call 118; (with_reducible refine cb hM (S1 _) ?_); clear hM; intro W1 hM) | (go_at_call 118; (with_reducible refine cb hM (S2 _) ?_); clear hM; intro W1 hM) | (go_at_call 118; (with_reducible refine cb hM (S3 _) ?_); clear hM; intro W1 hM) | (go_at_call 118; (with_reducible refine cb hM (S4 _) ?_); clear hM; intro W1 hM))
   refine hK_out hK' hM ?_
   clear hK' K'
   try simp only [pS, pN, sA, sB, sC]
   refine dC 22 (fun K' hK' => ?_)
   go_wp2_with (first | (go_at_call 119; (with_reducible refine cb hM (A1 _) ?_); clear hM; intro W1 hM) | (go_at_call 119; (with_reducible refine cb hM (A2 _) ?_); clear hM; intro W1 hM) | (go_at_call 118; (with_reducible refine cb hM (S1 _) ?_); clear hM; intro W1 hM) | (go_at_call 118; (with_reducible refine cb hM (S2 _) ?_); clear hM; intro W1 hM) | (go_at_call 118; (with_reducible refine cb hM (S3 _) ?_); clear hM; intro W1 hM) | (go_at_call 118; (with_reducible refine cb hM (S4 _) ?_); clear hM; intro W1 hM))
   refine hK_out hK' hM ?_
   clear hK' K'
   try simp only [pS, pN, sA, sB, sC]
   refine dC 29 (fun K' hK' => ?_)
   go_wp2_with (first | (go_at_call 119; (with_reducible refine cb hM (A1 _) ?_); clear hM; intro W1 hM) | (go_at_call 119; (with_reducible refine cb hM (A2 _) ?_); clear hM; intro W1 hM) | (go_at_call 118; (with_reducible refine cb hM (S1 _) ?_); clear hM; intro W1 hM) | (go_at_call 118; (with_reducible refine cb hM (S2 _) ?_); clear hM; intro W1 hM) | (go_at_call 118; (with_reducible refine cb hM (S3 _) ?_); clear hM; intro W1 hM) | (go_at_call 118; (with_reducible refine cb hM (S4 _) ?_); clear hM; intro W1 hM))
   refine hK_out hK' hM ?_
   clear hK' K'
   try simp only [pS, pN, sA, sB, sC]
   refine dC 30 (fun K' hK' => ?_)
   refine oBn [lnE fx fy s.x3 s.y3, arE s.x3 s.y3 s.x2 s.y2 s.dx s.dy rad (U + 64800000) (-(2 * q)), lnE s.x2 s.y2 fx fy] hM ?_
   clear hM; intro gB W hM
   refine hK_out hK' hM ?_
   clear hK' K'
   try simp only [pS, pN, sA, sB, sC]
   refine dP 31 hM ?_
   try simp only [pS, pN, sA, sB, sC]
   refine dP 32 hM ?_
   try simp only [pS, pN, sA, sB, sC]
   refine tk_done (by kernel_rfl) ?_
   go_wp2_with (first | ((with_reducible refine lX ?_); first | refine aL hM rfl rfl ?_ | refine aM hM rfl rfl ?_) | ((with_reducible refine sX ?_); refine aS hM rfl rfl rfl ?_; clear hM; intro W hM) | ((with_reducible refine bX ?_); refine aB hM rfl rfl ?_; clear hM; intro g W hM) | ((with_reducible refine zX ?_); refine aN hM rfl rfl ?_; clear hM; intro g W hM))
   all_goals
    go_ret2
    exact ⟨_, _, rfl, by rw [HP.out]; exact owE_lit [lnE fx fy s.x3 s.y3, arE s.x3 s.y3 s.x2 s.y2 s.dx s.dy rad (U + 64800000) (-(2 * q)), lnE s.x2 s.y2 fx fy] 3 rfl (by decide) (by decide), mem_hd hM⟩
 · have HP := hide (show entE v fx fy inb tn leg rad = [] by unfold entE; rw [if_neg hv, if_neg hv2])
   rw [hk]
   clear hk hv hv2
   go_enter Tryz.func61, Tryz.ntmps61
   go_wp2_with (first | (go_at_call 120; (with_reducible refine cb hM (LY _) ?_); clear hM; intro W1 hM) | ((with_reducible refine lX ?_); first | refine aL hM rfl rfl ?_ | refine aM hM rfl rfl ?_) | ((with_reducible refine sX ?_); refine aS hM rfl rfl rfl ?_; clear hM; intro W hM) | ((with_reducible refine bX ?_); refine aB hM rfl rfl ?_; clear hM; intro g W hM) | ((with_reducible refine zX ?_); refine aN hM rfl rfl ?_; clear hM; intro g W hM))
   all_goals
    go_ret2
    exact ⟨_, [], rfl, by rw [HP.out]; exact owE_none 3, mem_no hM⟩
end Go.Proofs.YtbhpklpkcgcmfaaGreatDoor
/-
  Procedure turns by boxes.
-/
set_option maxRecDepth 100000
set_option maxHeartbeats 16000000
namespace Go.Proofs.YtbhpklpkcgcmfaaGreatDoor
open Go.RowKit
set_option linter.unusedVariables false
set_option linter.unusedSimpArgs false
theorem rayclo_h {w0 w : World} {gb : Nat} {bad : Bool} {R : List Box} (px py c dd x y e : Int) (hc : I64 c) (hd : I64 dd) (hR : rayF px py c dd = (x, y, e)) (hM : Mem w0 w ((gb, [.bool bad], 4) :: R)) :
 Calls Tryz.prog 117 #[.agg #[.int .i64 px, .int .i64 py], .int .i64 c, .int .i64 dd, .pointer (some ⟨gb, 0, none⟩)] w fun e' w' => e' = .returned (.agg #[.int .i64 x, .int .i64 y]) ∧ Mem w0 w' ((gb, [.bool (bad || (e != 0))], 4) :: R) := by
 have RY := fun W => ray_any px py c dd hc hd W _ hR.symm
 clear hR
 rcases bad with _ | _
 all_goals
  go_enter Tryz.func117, Tryz.ntmps117
  go_wp2_with (first | (go_at_call 71; (with_reducible refine cb hM (RY _) ?_); clear hM; intro W1 hM) | ((with_reducible refine lX ?_); first | refine aL hM rfl rfl ?_ | refine aM hM rfl rfl ?_) | ((with_reducible refine sX ?_); refine aS hM rfl rfl rfl ?_; clear hM; intro W hM) | ((with_reducible refine bX ?_); refine aB hM rfl rfl ?_; clear hM; intro g W hM) | ((with_reducible refine zX ?_); refine aN hM rfl rfl ?_; clear hM; intro g W hM))
  all_goals
   refine' end_m1 hM rfl rfl Tryz.isAgg26 Tryz.sizeOf26 rfl ?_ ?_ ⟨?_, ?_⟩; rotate_left 2; (· repeat constructor); (· rfl); (· rfl); (· first | exact mem_tl (mem_tl (mem_tl hM)) | (simpa using mem_tl (mem_tl (mem_tl hM))))
theorem cB {P : Program} {f : FuncId} {xs : Array Value} {w0 W : World} {L pre : List Box} {g : Nat} {cs cs' : List Value} {t : TypeId} {R : List Box} {v : Value} {Q : Ending → World → Prop}
 (hM : Mem w0 W L) (hs : L = pre ++ (g, cs, t) :: R) (hc : ∀ R', Mem w0 W ((g, cs, t) :: R') → Calls P f xs W fun e w' => e = .returned v ∧ Mem w0 w' ((g, cs', t) :: R'))
 (h : ∀ W1, Mem w0 W1 (pre ++ (g, cs', t) :: R) → Q (.returned v) W1) : Calls P f xs W Q := by
 subst hs
 have p : ∀ (c : List Value), (pre ++ (g, c, t) :: R).Perm ((g, c, t) :: (pre ++ R)) := fun c => List.perm_middle
 refine (hc (pre ++ R) (mem_perm hM (p cs))).mono ?_
 rintro e w' ⟨rfl, hM'⟩
 exact h w' (mem_perm hM' (p cs').symm)
theorem revE_arg {fx fy crs tn dst rad : Int} (h : (vldB fx fy && (decide (tn = 1) || decide (tn = 2))) = false) : revE fx fy crs tn dst rad = (1, []) := by unfold revE; rw [if_pos h]
theorem revE_rng {fx fy crs tn dst rad : Int} (h : (vldB fx fy && (decide (tn = 1) || decide (tn = 2))) = true) (h2 : crs < 0 ∨ crs ≥ 129600000 ∨ dst < 1 ∨ dst > 2000000 ∨ rad < 1 ∨ rad > 666666) : revE fx fy crs tn dst rad = (2, []) := by unfold revE; rw [if_neg (by rw [h]; simp), if_pos h2]
inductive Se : List Box → List Box → Nat → List Value → TypeId → List Box → Prop
 | here {g : Nat} {cs : List Value} {t : TypeId} {R : List Box} : Se ((g, cs, t) :: R) [] g cs t R
 | tail {e : Box} {L pre : List Box} {g : Nat} {cs : List Value} {t : TypeId} {R : List Box} : Se L pre g cs t R → Se (e :: L) (e :: pre) g cs t R
theorem Se.eq {L pre : List Box} {g : Nat} {cs : List Value} {t : TypeId} {R : List Box} (h : Se L pre g cs t R) : L = pre ++ (g, cs, t) :: R := by
 induction h with
 | here => rfl
 | tail _ ih => rw [ih]; rfl
theorem cE {P : Program} {f : FuncId} {xs : Array Value} {w0 W : World} {L pre : List Box} {g : Nat} {cs cs' : List Value} {t : TypeId} {R : List Box} {v : Value} {Q : Ending → World → Prop}
 (hM : Mem w0 W L) (hc : ∀ R', Mem w0 W ((g, cs, t) :: R') → Calls P f xs W fun e w' => e = .returned v ∧ Mem w0 w' ((g, cs', t) :: R'))
 (h : ∀ W1, Mem w0 W1 (pre ++ (g, cs', t) :: R) → Q (.returned v) W1) (hs : Se L pre g cs t R := by ((repeat constructor) <;> fail)) : Calls P f xs W Q := cB hM hs.eq hc h
theorem rev_h (fx fy crs tn dst rad : Int) (w : World) :
 Calls Tryz.prog 60 #[.agg #[.int .i64 fx, .int .i64 fy], .int .i64 crs, .int .u8 tn, .int .i64 dst, .int .i64 rad] w fun e w' => ∃ V B, e = .returned (.tuple #[V, .int .i64 (revE fx fy crs tn dst rad).1]) ∧ OwE V (revE fx fy crs tn dst rad).2 B 5 ∧ Mem w w' B := by
 have PV := fun W => pvalid_b fx fy W
 obtain ⟨p0, hp0⟩ : ∃ p0, vldB fx fy = p0 := ⟨_, rfl⟩
 rw [hp0] at PV
 by_cases ht : p0 = true ∧ (tn = 1 ∨ tn = 2)
 rotate_left 1
 · have HE := hide (show revE fx fy crs tn dst rad = (1, []) from revE_arg (by
    rw [hp0]
    rcases hq : p0 with _ | _
    · rfl
    · have h1 : tn ≠ 1 := fun h => ht ⟨hq, .inl h⟩
      have h2 : tn ≠ 2 := fun h => ht ⟨hq, .inr h⟩
      simp [h1, h2]))
   have hcs : p0 = false ∨ (p0 = true ∧ (tn != 1) = true ∧ (tn != 2) = true) := by
    rcases hq : p0 with _ | _
    · exact .inl rfl
    · have h1 : tn ≠ 1 := fun h => ht ⟨hq, .inl h⟩
      have h2 : tn ≠ 2 := fun h => ht ⟨hq, .inr h⟩
      exact .inr ⟨rfl, by simpa using h1, by simpa using h2⟩
   clear ht hp0
   have hM := mem_nil w
   rcases hcs with rfl | ⟨rfl, t1, t2⟩
   all_goals
    go_enter Tryz.func60, Tryz.ntmps60
    go_wp2_with (first | (go_at_call 46; (with_reducible refine cb hM (PV _) ?_); clear hM; intro W1 hM) | ((with_reducible refine lX ?_); first | refine aL hM rfl rfl ?_ | refine aM hM rfl rfl ?_) | ((with_reducible refine sX ?_); refine aS hM rfl rfl rfl ?_; clear hM; intro W hM) | ((with_reducible refine bX ?_); refine aB hM rfl rfl ?_; clear hM; intro g W hM) | ((with_reducible refine zX ?_); refine aN hM rfl rfl ?_; clear hM; intro g W hM))
    all_goals
     (go_ret2; first | exact ⟨.slice none 0 0, [], by rw [HE.out]; rfl, by rw [HE.out]; exact owE_none 5, mem_no hM⟩ | exact ⟨.slice none 0 0, by rw [HE.out]; rfl, [], by rw [HE.out]; exact owE_none 5, mem_no hM⟩)
 obtain ⟨rfl, ht⟩ := ht
 have HV := hide (show (vldB fx fy && (decide (tn = 1) || decide (tn = 2))) = true by
  rw [hp0]
  rcases ht with rfl | rfl <;> rfl)
 clear hp0
 have hM := mem_nil w
 go_enter Tryz.func60, Tryz.ntmps60
 go_upto_region 0 with (first | ((with_reducible refine lX ?_); first | refine aL hM rfl rfl ?_ | refine aM hM rfl rfl ?_) | ((with_reducible refine sX ?_); refine aS hM rfl rfl rfl ?_; clear hM; intro W hM) | ((with_reducible refine bX ?_); refine aB hM rfl rfl ?_; clear hM; intro g W hM) | ((with_reducible refine zX ?_); refine aN hM rfl rfl ?_; clear hM; intro g W hM))
 try simp only [pS, pN, sA, sB, sC]
 go_cut [5] (fun s5 wx => ∃ gF : Nat, s5 = .pointer (some ⟨gF, 0, none⟩) ∧ Mem w wx [(gF, [.int .i64 fx, .int .i64 fy], 26)])
 case first =>
  go_wp2_with (first | ((with_reducible refine lX ?_); first | refine aL hM rfl rfl ?_ | refine aM hM rfl rfl ?_) | ((with_reducible refine sX ?_); refine aS hM rfl rfl rfl ?_; clear hM; intro W hM) | ((with_reducible refine bX ?_); refine aB hM rfl rfl ?_; clear hM; intro g W hM) | ((with_reducible refine zX ?_); refine aN hM rfl rfl ?_; clear hM; intro g W hM))
  all_goals
   go_meet
   exact ⟨_, rfl, hM⟩
 case rest =>
 clear hM
 obtain ⟨gF, rfl, hM⟩ := hcut
 go_upto_region 1 with (first | ((with_reducible refine lX ?_); first | refine aL hM rfl rfl ?_ | refine aM hM rfl rfl ?_) | ((with_reducible refine sX ?_); refine aS hM rfl rfl rfl ?_; clear hM; intro W hM) | ((with_reducible refine bX ?_); refine aB hM rfl rfl ?_; clear hM; intro g W hM) | ((with_reducible refine zX ?_); refine aN hM rfl rfl ?_; clear hM; intro g W hM))
 go_cut [23] (fun s wx => s = .bool false ∧ Mem w wx [(gF, [.int .i64 fx, .int .i64 fy], 26)])
 case first =>
  have hcs : ((tn != 1) = true ∧ (tn != 2) = false) ∨ (tn != 1) = false := by
   rcases ht with rfl | rfl
   · exact .inr rfl
   · exact .inl ⟨rfl, rfl⟩
  rcases hcs with ⟨t1, t2⟩ | t1
  all_goals
   go_wp2_with (first | (go_at_call 46; (with_reducible refine cb hM (PV _) ?_); clear hM; intro W1 hM) | ((with_reducible refine lX ?_); first | refine aL hM rfl rfl ?_ | refine aM hM rfl rfl ?_) | ((with_reducible refine sX ?_); refine aS hM rfl rfl rfl ?_; clear hM; intro W hM) | ((with_reducible refine bX ?_); refine aB hM rfl rfl ?_; clear hM; intro g W hM) | ((with_reducible refine zX ?_); refine aN hM rfl rfl ?_; clear hM; intro g W hM))
   all_goals
    go_meet
    exact ⟨rfl, hM⟩
 case rest =>
 clear hM
 obtain ⟨rfl, hM⟩ := hcut
 clear PV
 by_cases hr : crs < 0 ∨ crs ≥ 129600000 ∨ dst < 1 ∨ dst > 2000000 ∨ rad < 1 ∨ rad > 666666
 · have HE := hide (revE_rng (crs := crs) (dst := dst) (rad := rad) HV.out hr)
   by_cases r1 : crs < 0
   · clear hr
     go_wp2_with (first | ((with_reducible refine lX ?_); first | refine aL hM rfl rfl ?_ | refine aM hM rfl rfl ?_) | ((with_reducible refine sX ?_); refine aS hM rfl rfl rfl ?_; clear hM; intro W hM) | ((with_reducible refine bX ?_); refine aB hM rfl rfl ?_; clear hM; intro g W hM) | ((with_reducible refine zX ?_); refine aN hM rfl rfl ?_; clear hM; intro g W hM))
     all_goals (go_ret2; first | exact ⟨.slice none 0 0, [], by rw [HE.out]; rfl, by rw [HE.out]; exact owE_none 5, mem_no hM⟩ | exact ⟨.slice none 0 0, by rw [HE.out]; rfl, [], by rw [HE.out]; exact owE_none 5, mem_no hM⟩)
   by_cases r2 : 129600000 ≤ crs
   · clear hr
     go_wp2_with (first | ((with_reducible refine lX ?_); first | refine aL hM rfl rfl ?_ | refine aM hM rfl rfl ?_) | ((with_reducible refine sX ?_); refine aS hM rfl rfl rfl ?_; clear hM; intro W hM) | ((with_reducible refine bX ?_); refine aB hM rfl rfl ?_; clear hM; intro g W hM) | ((with_reducible refine zX ?_); refine aN hM rfl rfl ?_; clear hM; intro g W hM))
     all_goals (go_ret2; first | exact ⟨.slice none 0 0, [], by rw [HE.out]; rfl, by rw [HE.out]; exact owE_none 5, mem_no hM⟩ | exact ⟨.slice none 0 0, by rw [HE.out]; rfl, [], by rw [HE.out]; exact owE_none 5, mem_no hM⟩)
   by_cases r3 : dst < 1
   · clear hr
     go_wp2_with (first | ((with_reducible refine lX ?_); first | refine aL hM rfl rfl ?_ | refine aM hM rfl rfl ?_) | ((with_reducible refine sX ?_); refine aS hM rfl rfl rfl ?_; clear hM; intro W hM) | ((with_reducible refine bX ?_); refine aB hM rfl rfl ?_; clear hM; intro g W hM) | ((with_reducible refine zX ?_); refine aN hM rfl rfl ?_; clear hM; intro g W hM))
     all_goals (go_ret2; first | exact ⟨.slice none 0 0, [], by rw [HE.out]; rfl, by rw [HE.out]; exact owE_none 5, mem_no hM⟩ | exact ⟨.slice none 0 0, by rw [HE.out]; rfl, [], by rw [HE.out]; exact owE_none 5, mem_no hM⟩)
   by_cases r4 : 2000000 < dst
   · clear hr
     go_wp2_with (first | ((with_reducible refine lX ?_); first | refine aL hM rfl rfl ?_ | refine aM hM rfl rfl ?_) | ((with_reducible refine sX ?_); refine aS hM rfl rfl rfl ?_; clear hM; intro W hM) | ((with_reducible refine bX ?_); refine aB hM rfl rfl ?_; clear hM; intro g W hM) | ((with_reducible refine zX ?_); refine aN hM rfl rfl ?_; clear hM; intro g W hM))
     all_goals (go_ret2; first | exact ⟨.slice none 0 0, [], by rw [HE.out]; rfl, by rw [HE.out]; exact owE_none 5, mem_no hM⟩ | exact ⟨.slice none 0 0, by rw [HE.out]; rfl, [], by rw [HE.out]; exact owE_none 5, mem_no hM⟩)
   by_cases r5 : rad < 1
   · clear hr
     go_wp2_with (first | ((with_reducible refine lX ?_); first | refine aL hM rfl rfl ?_ | refine aM hM rfl rfl ?_) | ((with_reducible refine sX ?_); refine aS hM rfl rfl rfl ?_; clear hM; intro W hM) | ((with_reducible refine bX ?_); refine aB hM rfl rfl ?_; clear hM; intro g W hM) | ((with_reducible refine zX ?_); refine aN hM rfl rfl ?_; clear hM; intro g W hM))
     all_goals (go_ret2; first | exact ⟨.slice none 0 0, [], by rw [HE.out]; rfl, by rw [HE.out]; exact owE_none 5, mem_no hM⟩ | exact ⟨.slice none 0 0, by rw [HE.out]; rfl, [], by rw [HE.out]; exact owE_none 5, mem_no hM⟩)
   have r6 : 666666 < rad := by omega
   clear hr
   go_wp2_with (first | ((with_reducible refine lX ?_); first | refine aL hM rfl rfl ?_ | refine aM hM rfl rfl ?_) | ((with_reducible refine sX ?_); refine aS hM rfl rfl rfl ?_; clear hM; intro W hM) | ((with_reducible refine bX ?_); refine aB hM rfl rfl ?_; clear hM; intro g W hM) | ((with_reducible refine zX ?_); refine aN hM rfl rfl ?_; clear hM; intro g W hM))
   all_goals (go_ret2; first | exact ⟨.slice none 0 0, [], by rw [HE.out]; rfl, by rw [HE.out]; exact owE_none 5, mem_no hM⟩ | exact ⟨.slice none 0 0, by rw [HE.out]; rfl, [], by rw [HE.out]; exact owE_none 5, mem_no hM⟩)
 have HRG := hide hr
 have r1 : ¬ crs < 0 := by omega
 have r2 : ¬ 129600000 ≤ crs := by omega
 have r3 : ¬ dst < 1 := by omega
 have r4 : ¬ 2000000 < dst := by omega
 have r5 : ¬ rad < 1 := by omega
 have r6 : ¬ 666666 < rad := by omega
 clear hr
 have QT := fun W => quarter_h tn W
 have qb : qtr tn = 32400000 ∨ qtr tn = -32400000 := by unfold qtr; split <;> omega
 have HQ : Hid (revV crs tn = crs + (qtr tn).tdiv 2 ∧ revN crs tn = revV crs tn - qtr tn) := hide ⟨rfl, rfl⟩
 obtain ⟨v, hv⟩ : ∃ v, revV crs tn = v := ⟨_, rfl⟩
 obtain ⟨n, hn⟩ : ∃ n, revN crs tn = n := ⟨_, rfl⟩
 obtain ⟨md, hmd⟩ : ∃ md, rnd 2 (2 * rad * 1414213562) 1000000000 = md := ⟨_, rfl⟩
 have RD := fun W => round_any (2 * rad * 1414213562) 1000000000 (by unfold I64; omega) (by unfold I64; omega) W
 have mdv : muldiv 2 (2 * rad * 1414213562) 1 1000000000 = (md, 0) := by
  unfold muldiv
  rw [if_neg (by decide), Int.mul_one, hmd, if_pos]
  unfold in64
  have e : md = (2 * (2 * rad * 1414213562) + 1000000000) / (2 * 1000000000) := by
   rw [← hmd]
   unfold rnd
   rw [if_neg (by decide), if_neg (by decide)]
   rw [Int.fdiv_eq_ediv_of_nonneg _ (by decide)]
  exact decide_eq_true (by omega)
 rw [mdv] at RD
 have mb : 0 ≤ md ∧ md ≤ 4000000 := by
  have e : md = (2 * (2 * rad * 1414213562) + 1000000000) / (2 * 1000000000) := by
   rw [← hmd]
   unfold rnd
   rw [if_neg (by decide), if_neg (by decide)]
   rw [Int.fdiv_eq_ediv_of_nonneg _ (by decide)]
  omega
 have HM := hide (And.intro hv (And.intro hn hmd))
 have v1 : -16200000 ≤ v - crs ∧ v - crs ≤ 16200000 := by
  have := HQ.out.1
  rw [hv] at this
  rcases qb with h | h <;> rw [h] at this
  · have e : (32400000 : Int).tdiv 2 = 16200000 := by decide
    omega
  · have e : (-32400000 : Int).tdiv 2 = -16200000 := by decide
    omega
 have n1 : -48600000 ≤ n - crs ∧ n - crs ≤ 48600000 := by
  have := HQ.out.2
  rw [hn, hv] at this
  omega
 obtain ⟨q, hq⟩ : ∃ q, qtr tn = q := ⟨_, rfl⟩
 rw [hq] at QT qb
 have qd : crs + q.tdiv 2 = v := by rw [← hv, HQ.out.1, hq]
 have qn : v - q = n := by rw [← hn, HQ.out.2, hv, hq]
 have w1 : IntKind.i64.wrap (crs + q.tdiv 2) = v := by rw [qd]; exact IntWalk.i64_in v (by omega)
 have w2 : IntKind.i64.wrap (v - q) = n := by rw [qn]; exact IntWalk.i64_in n (by omega)
 have w3 := IntWalk.i64_in (2 * rad) (by omega)
 have w4 := IntWalk.i64_in (2 * rad * 1414213562) (by omega)
 have w5 := IntWalk.i64_in (3 * rad) (by omega)
 have w6 := IntWalk.i64_in (n + 64800000) (by omega)
 have w7 := IntWalk.i64_in (-2 * q) (by omega)
 have w8 : IntKind.i64.wrap (q.tdiv 2) = q.tdiv 2 := IntWalk.i64_in _ (by rcases qb with h | h <;> rw [h] <;> decide)
 have HTQ := hide hq
 clear hv hn hmd mdv qd qn hq
 obtain ⟨qx, qy, e1, h1⟩ : ∃ qx qy e1, rayF fx fy crs dst = (qx, qy, e1) := ⟨_, _, _, rfl⟩
 obtain ⟨sx, sy, e2, h2⟩ : ∃ sx sy e2, rayF qx qy v (3 * rad) = (sx, sy, e2) := ⟨_, _, _, rfl⟩
 obtain ⟨cx, cy, e3, h3⟩ : ∃ cx cy e3, rayF sx sy n rad = (cx, cy, e3) := ⟨_, _, _, rfl⟩
 obtain ⟨tx, ty, e4, h4⟩ : ∃ tx ty e4, rayF sx sy n (2 * rad) = (tx, ty, e4) := ⟨_, _, _, rfl⟩
 obtain ⟨mx, my, e5, h5⟩ : ∃ mx my e5, rayF qx qy crs md = (mx, my, e5) := ⟨_, _, _, rfl⟩
 have i1 : I64 crs := by unfold I64; omega
 have i2 : I64 dst := by unfold I64; omega
 have i3 : I64 v := by unfold I64; omega
 have i4 : I64 (3 * rad) := by unfold I64; omega
 have i5 : I64 n := by unfold I64; omega
 have i6 : I64 rad := by unfold I64; omega
 have i7 : I64 (2 * rad) := by unfold I64; omega
 have i8 : I64 md := by unfold I64; omega
 have HE := hide (show revE fx fy crs tn dst rad = if (e1 = 0 ∧ e2 = 0 ∧ e3 = 0 ∧ e4 = 0 ∧ e5 = 0) then (0, [lnE fx fy qx qy, lnE qx qy sx sy, arE sx sy tx ty cx cy rad (n + 64800000) (-2 * q), lnE tx ty mx my, lnE mx my fx fy]) else (2, []) by
  unfold revE
  rw [if_neg (by rw [HV.out]; simp), if_neg HRG.out]
  dsimp only
  rw [HM.out.1, HM.out.2.1, HM.out.2.2, h1]
  dsimp only
  rw [h2, h5]
  dsimp only
  rw [h3, h4, HTQ.out, show -(2 * q) = -2 * q by omega])
 have H1 := hide h1
 have H2 := hide h2
 have H3 := hide h3
 have H4 := hide h4
 have H5 := hide h5
 clear h1 h2 h3 h4 h5 HV HRG HM HTQ HQ
 go_upto_region 14 with (first | (go_at_call 116; (with_reducible refine (QT _).mono ?_); rintro e W1 ⟨rfl, rfl⟩) | (go_at_call 115; (with_reducible refine (RD _).mono ?_); rintro e W1 ⟨rfl, n1, rfl⟩; replace hM := mem_drewN hM n1) | (go_at_call 117; (with_reducible refine cE hM (fun R' hM' => rayclo_h fx fy crs dst qx qy e1 i1 i2 H1.out hM') ?_); clear hM H1; intro W1 hM; simp only [List.cons_append, List.nil_append] at hM) | (go_at_call 117; (with_reducible refine cE hM (fun R' hM' => rayclo_h qx qy v (3 * rad) sx sy e2 i3 i4 H2.out hM') ?_); clear hM H2; intro W1 hM; simp only [List.cons_append, List.nil_append] at hM) | (go_at_call 117; (with_reducible refine cE hM (fun R' hM' => rayclo_h sx sy n rad cx cy e3 i5 i6 H3.out hM') ?_); clear hM H3; intro W1 hM; simp only [List.cons_append, List.nil_append] at hM) | (go_at_call 117; (with_reducible refine cE hM (fun R' hM' => rayclo_h sx sy n (2 * rad) tx ty e4 i5 i7 H4.out hM') ?_); clear hM H4; intro W1 hM; simp only [List.cons_append, List.nil_append] at hM) | (go_at_call 117; (with_reducible refine cE hM (fun R' hM' => rayclo_h qx qy crs md mx my e5 i1 i8 H5.out hM') ?_); clear hM H5; intro W1 hM; simp only [List.cons_append, List.nil_append] at hM) | ((with_reducible refine lX ?_); first | refine aL hM rfl rfl ?_ | refine aM hM rfl rfl ?_) | ((with_reducible refine sX ?_); refine aS hM rfl rfl rfl ?_; clear hM; intro W hM) | ((with_reducible refine bX ?_); refine aB hM rfl rfl ?_; clear hM; intro g W hM) | ((with_reducible refine zX ?_); refine aN hM rfl rfl ?_; clear hM; intro g W hM))
 try simp only [pS, pN, sA, sB, sC]
 go_cut [16, 22, 21, 20, 19, 18] (fun s16 s22 s21 s20 s19 s18 wx => ∃ gb g22 g21 g20 g19 g18 : Nat, s16 = .pointer (some ⟨gb, 0, none⟩) ∧ s22 = .pointer (some ⟨g22, 0, none⟩) ∧ s21 = .pointer (some ⟨g21, 0, none⟩) ∧ s20 = .pointer (some ⟨g20, 0, none⟩) ∧ s19 = .pointer (some ⟨g19, 0, none⟩) ∧ s18 = .pointer (some ⟨g18, 0, none⟩) ∧ Mem w wx ((g22, [.int .i64 mx, .int .i64 my], 26) :: (g21, [.int .i64 tx, .int .i64 ty], 26) :: (g20, [.int .i64 cx, .int .i64 cy], 26) :: (g19, [.int .i64 sx, .int .i64 sy], 26) :: (g18, [.int .i64 qx, .int .i64 qy], 26) :: (gb, [.bool (((((false || (e1 != 0)) || (e2 != 0)) || (e3 != 0)) || (e4 != 0)) || (e5 != 0))], 4) :: [(gF, [.int .i64 fx, .int .i64 fy], 26)]))
 case first =>
  go_wp2_with (first | (go_at_call 117; (with_reducible refine cE hM (fun R' hM' => rayclo_h fx fy crs dst qx qy e1 i1 i2 H1.out hM') ?_); clear hM H1; intro W1 hM; simp only [List.cons_append, List.nil_append] at hM) | (go_at_call 117; (with_reducible refine cE hM (fun R' hM' => rayclo_h qx qy v (3 * rad) sx sy e2 i3 i4 H2.out hM') ?_); clear hM H2; intro W1 hM; simp only [List.cons_append, List.nil_append] at hM) | (go_at_call 117; (with_reducible refine cE hM (fun R' hM' => rayclo_h sx sy n rad cx cy e3 i5 i6 H3.out hM') ?_); clear hM H3; intro W1 hM; simp only [List.cons_append, List.nil_append] at hM) | (go_at_call 117; (with_reducible refine cE hM (fun R' hM' => rayclo_h sx sy n (2 * rad) tx ty e4 i5 i7 H4.out hM') ?_); clear hM H4; intro W1 hM; simp only [List.cons_append, List.nil_append] at hM) | (go_at_call 117; (with_reducible refine cE hM (fun R' hM' => rayclo_h qx qy crs md mx my e5 i1 i8 H5.out hM') ?_); clear hM H5; intro W1 hM; simp only [List.cons_append, List.nil_append] at hM) | ((with_reducible refine lX ?_); first | refine aL hM rfl rfl ?_ | refine aM hM rfl rfl ?_) | ((with_reducible refine sX ?_); refine aS hM rfl rfl rfl ?_; clear hM; intro W hM) | ((with_reducible refine bX ?_); refine aB hM rfl rfl ?_; clear hM; intro g W hM) | ((with_reducible refine zX ?_); refine aN hM rfl rfl ?_; clear hM; intro g W hM))
  all_goals
   go_meet
   exact ⟨_, _, _, _, _, _, rfl, rfl, rfl, rfl, rfl, rfl, hM⟩
 case rest =>
 clear hM
 obtain ⟨gb, g22, g21, g20, g19, g18, rfl, rfl, rfl, rfl, rfl, rfl, hM⟩ := hcut
 obtain ⟨bb, hbb⟩ : ∃ bb, (((((false || (e1 != 0)) || (e2 != 0)) || (e3 != 0)) || (e4 != 0)) || (e5 != 0)) = bb := ⟨_, rfl⟩
 rw [hbb] at hM
 by_cases hg : e1 = 0 ∧ e2 = 0 ∧ e3 = 0 ∧ e4 = 0 ∧ e5 = 0
 rotate_left 1
 · have HZ := hide (HE.out.trans (if_neg hg))
   have hb2 : bb = true := by
    rw [← hbb]
    rcases hq : (((((false || (e1 != 0)) || (e2 != 0)) || (e3 != 0)) || (e4 != 0)) || (e5 != 0)) with _ | _
    · exfalso
      simp at hq
      omega
    · rfl
   subst hb2
   clear hbb hg HE
   go_wp2_with (first | ((with_reducible refine lX ?_); first | refine aL hM rfl rfl ?_ | refine aM hM rfl rfl ?_) | ((with_reducible refine sX ?_); refine aS hM rfl rfl rfl ?_; clear hM; intro W hM) | ((with_reducible refine bX ?_); refine aB hM rfl rfl ?_; clear hM; intro g W hM) | ((with_reducible refine zX ?_); refine aN hM rfl rfl ?_; clear hM; intro g W hM))
   all_goals
    (go_ret2; first | exact ⟨.slice none 0 0, [], by rw [HZ.out]; rfl, by rw [HZ.out]; exact owE_none 5, mem_no hM⟩ | exact ⟨.slice none 0 0, by rw [HZ.out]; rfl, [], by rw [HZ.out]; exact owE_none 5, mem_no hM⟩)
 have HZ := hide (HE.out.trans (if_pos hg))
 obtain ⟨rfl, rfl, rfl, rfl, rfl⟩ := hg
 obtain rfl : bb = false := by rw [← hbb]; rfl
 clear hbb HE
 have A1 := fun W => harc_any sx sy tx ty cx cy rad (n + 64800000) (-2 * q) (by unfold I64; omega) W
 have S1 := fun W => hstr_any fx fy qx qy W
 have S2 := fun W => hstr_any qx qy sx sy W
 have S3 := fun W => hstr_any tx ty mx my W
 have S4 := fun W => hstr_any mx my fx fy W
 go_upto_region 17 with (first | ((with_reducible refine lX ?_); first | refine aL hM rfl rfl ?_ | refine aM hM rfl rfl ?_) | ((with_reducible refine sX ?_); refine aS hM rfl rfl rfl ?_; clear hM; intro W hM) | ((with_reducible refine bX ?_); refine aB hM rfl rfl ?_; clear hM; intro g W hM) | ((with_reducible refine zX ?_); refine aN hM rfl rfl ?_; clear hM; intro g W hM))
 try simp only [pS, pN, sA, sB, sC]
 refine region_k [(g22, [.int .i64 mx, .int .i64 my], 26), (g21, [.int .i64 tx, .int .i64 ty], 26), (g20, [.int .i64 cx, .int .i64 cy], 26), (g19, [.int .i64 sx, .int .i64 sy], 26), (g18, [.int .i64 qx, .int .i64 qy], 26), (gF, [.int .i64 fx, .int .i64 fy], 26)] hM (by kernel_rfl) ?_; (clear hM; intro W hM)
 first | refine dL 0 hM ?_ | refine dM 0 hM ?_
 try simp only [pS, pN, sA, sB, sC]
 first | refine dL 1 hM ?_ | refine dM 1 hM ?_
 try simp only [pS, pN, sA, sB, sC]
 first | refine dL 3 hM ?_ | refine dM 3 hM ?_
 try simp only [pS, pN, sA, sB, sC]
 first | refine dL 4 hM ?_ | refine dM 4 hM ?_
 try simp only [pS, pN, sA, sB, sC]
 first | refine dL 6 hM ?_ | refine dM 6 hM ?_
 try simp only [pS, pN, sA, sB, sC]
 first | refine dL 7 hM ?_ | refine dM 7 hM ?_
 try simp only [pS, pN, sA, sB, sC]
 first | refine dL 8 hM ?_ | refine dM 8 hM ?_
 try simp only [pS, pN, sA, sB, sC]
 refine dP 9 hM ?_
 try simp only [pS, pN, sA, sB, sC]
 refine dP 10 hM ?_
 try simp only [pS, pN, sA, sB, sC]
 refine dP 11 hM ?_
 try simp only [pS, pN, sA, sB, sC]
 refine dP 12 hM ?_
 try simp only [pS, pN, sA, sB, sC]
 first | refine dL 16 hM ?_ | refine dM 16 hM ?_
 try simp only [pS, pN, sA, sB, sC]
 first | refine dL 17 hM ?_ | refine dM 17 hM ?_
 try simp only [pS, pN, sA, sB, sC]
 first | refine dL 19 hM ?_ | refine dM 19 hM ?_
 try simp only [pS, pN, sA, sB, sC]
 first | refine dL 20 hM ?_ | refine dM 20 hM ?_
 try simp only [pS, pN, sA, sB, sC]
 refine dC 2 (fun K' hK' => ?_)
 go_wp2_with (first | (go_at_call 116; (with_reducible refine (QT _).mono ?_); rintro e W1 ⟨rfl, rfl⟩) | (go_at_call 119; (with_reducible refine cb hM (A1 _) ?_); clear hM; intro W1 hM) | (go_at_call 118; (with_reducible refine cb hM (S1 _) ?_); clear hM; intro W1 hM) | (go_at_call 118; (with_reducible refine cb hM (S2 _) ?_); clear hM; intro W1 hM) | (go_at_call 118; (with_reducible refine cb hM (S3 _) ?_); clear hM; intro W1 hM) | (go_at_call 118; (with_reducible refine cb hM (S4 _) ?_); clear hM; intro W1 hM))
 refine hK_out hK' hM ?_
 clear hK' K'
 try simp only [pS, pN, sA, sB, sC]
 refine dC 5 (fun K' hK' => ?_)
 go_wp2_with (first | (go_at_call 116; (with_reducible refine (QT _).mono ?_); rintro e W1 ⟨rfl, rfl⟩) | (go_at_call 119; (with_reducible refine cb hM (A1 _) ?_); clear hM; intro W1 hM) | (go_at_call 118; (with_reducible refine cb hM (S1 _) ?_); clear hM; intro W1 hM) | (go_at_call 118; (with_reducible refine cb hM (S2 _) ?_); clear hM; intro W1 hM) | (go_at_call 118; (with_reducible refine cb hM (S3 _) ?_); clear hM; intro W1 hM) | (go_at_call 118; (with_reducible refine cb hM (S4 _) ?_); clear hM; intro W1 hM))
 refine hK_out hK' hM ?_
 clear hK' K'
 try simp only [pS, pN, sA, sB, sC]
 refine dC 13 (fun K' hK' => ?_)
 go_wp2_with (first | (go_at_call 116; (with_reducible refine (QT _).mono ?_); rintro e W1 ⟨rfl, rfl⟩) | (go_at_call 119; (with_reducible refine cb hM (A1 _) ?_); clear hM; intro W1 hM) | (go_at_call 118; (with_reducible refine cb hM (S1 _) ?_); clear hM; intro W1 hM) | (go_at_call 118; (with_reducible refine cb hM (S2 _) ?_); clear hM; intro W1 hM) | (go_at_call 118; (with_reducible refine cb hM (S3 _) ?_); clear hM; intro W1 hM) | (go_at_call 118; (with_reducible refine cb hM (S4 _) ?_); clear hM; intro W1 hM))
 refine hK_out hK' hM ?_
 clear hK' K'
 try simp only [pS, pN, sA, sB, sC]
 refine dP 14 hM ?_
 try simp only [pS, pN, sA, sB, sC]
 refine dC 15 (fun K' hK' => ?_)
 go_wp2_with (first | (go_at_call 116; (with_reducible refine (QT _).mono ?_); rintro e W1 ⟨rfl, rfl⟩) | (go_at_call 119; (with_reducible refine cb hM (A1 _) ?_); clear hM; intro W1 hM) | (go_at_call 118; (with_reducible refine cb hM (S1 _) ?_); clear hM; intro W1 hM) | (go_at_call 118; (with_reducible refine cb hM (S2 _) ?_); clear hM; intro W1 hM) | (go_at_call 118; (with_reducible refine cb hM (S3 _) ?_); clear hM; intro W1 hM) | (go_at_call 118; (with_reducible refine cb hM (S4 _) ?_); clear hM; intro W1 hM))
 refine hK_out hK' hM ?_
 clear hK' K'
 try simp only [pS, pN, sA, sB, sC]
 refine dC 18 (fun K' hK' => ?_)
 go_wp2_with (first | (go_at_call 116; (with_reducible refine (QT _).mono ?_); rintro e W1 ⟨rfl, rfl⟩) | (go_at_call 119; (with_reducible refine cb hM (A1 _) ?_); clear hM; intro W1 hM) | (go_at_call 118; (with_reducible refine cb hM (S1 _) ?_); clear hM; intro W1 hM) | (go_at_call 118; (with_reducible refine cb hM (S2 _) ?_); clear hM; intro W1 hM) | (go_at_call 118; (with_reducible refine cb hM (S3 _) ?_); clear hM; intro W1 hM) | (go_at_call 118; (with_reducible refine cb hM (S4 _) ?_); clear hM; intro W1 hM))
 refine hK_out hK' hM ?_
 clear hK' K'
 try simp only [pS, pN, sA, sB, sC]
 refine dC 21 (fun K' hK' => ?_)
 go_wp2_with (first | (go_at_call 116; (with_reducible refine (QT _).mono ?_); rintro e W1 ⟨rfl, rfl⟩) | (go_at_call 119; (with_reducible refine cb hM (A1 _) ?_); clear hM; intro W1 hM) | (go_at_call 118; (with_reducible refine cb hM (S1 _) ?_); clear hM; intro W1 hM) | (go_at_call 118; (with_reducible refine cb hM (S2 _) ?_); clear hM; intro W1 hM) | (go_at_call 118; (with_reducible refine cb hM (S3 _) ?_); clear hM; intro W1 hM) | (go_at_call 118; (with_reducible refine cb hM (S4 _) ?_); clear hM; intro W1 hM))
 refine hK_out hK' hM ?_
 clear hK' K'
 try simp only [pS, pN, sA, sB, sC]
 refine dC 22 (fun K' hK' => ?_)
 refine oBn [lnE fx fy qx qy, lnE qx qy sx sy, arE sx sy tx ty cx cy rad (n + 64800000) (-2 * q), lnE tx ty mx my, lnE mx my fx fy] hM ?_
 clear hM; intro gB W hM
 refine hK_out hK' hM ?_
 clear hK' K'
 try simp only [pS, pN, sA, sB, sC]
 refine dP 23 hM ?_
 try simp only [pS, pN, sA, sB, sC]
 refine dP 24 hM ?_
 try simp only [pS, pN, sA, sB, sC]
 refine tk_done (by kernel_rfl) ?_
 go_wp2_with (first | ((with_reducible refine lX ?_); first | refine aL hM rfl rfl ?_ | refine aM hM rfl rfl ?_) | ((with_reducible refine sX ?_); refine aS hM rfl rfl rfl ?_; clear hM; intro W hM) | ((with_reducible refine bX ?_); refine aB hM rfl rfl ?_; clear hM; intro g W hM) | ((with_reducible refine zX ?_); refine aN hM rfl rfl ?_; clear hM; intro g W hM))
 all_goals
  go_ret2
  first
   | exact ⟨_, _, by rw [HZ.out]; rfl, by rw [HZ.out]; exact owE_lit [lnE fx fy qx qy, lnE qx qy sx sy, arE sx sy tx ty cx cy rad (n + 64800000) (-2 * q), lnE tx ty mx my, lnE mx my fx fy] 5 rfl (by decide) (by decide), mem_hd hM⟩
   | exact ⟨_, by rw [HZ.out]; rfl, _, by rw [HZ.out]; exact owE_lit [lnE fx fy qx qy, lnE qx qy sx sy, arE sx sy tx ty cx cy rad (n + 64800000) (-2 * q), lnE tx ty mx my, lnE mx my fx fy] 5 rfl (by decide) (by decide), mem_hd hM⟩
end Go.Proofs.YtbhpklpkcgcmfaaGreatDoor
