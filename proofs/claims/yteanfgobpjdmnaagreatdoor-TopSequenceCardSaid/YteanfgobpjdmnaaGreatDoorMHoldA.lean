/-
  Lines and arcs of patterns, quarters, entries.
-/
import Derived.Test.YteanfgobpjdmnaaGreatDoorMMemD
import Derived.Test.YteanfgobpjdmnaaGreatDoorMWi
import Derived.Test.YteanfgobpjdmnaaGreatDoorMWide
set_option maxRecDepth 100000
set_option maxHeartbeats 16000000
namespace Go.Proofs.YteanfgobpjdmnaaGreatDoor
open Go.RowKit
set_option linter.unusedVariables false
set_option linter.unusedSimpArgs false
theorem kf (ax ay bx b_y : Int) (w : World) : Calls Tryz.prog 71 #[.agg #[.int .i64 ax, .int .i64 ay], .agg #[.int .i64 bx, .int .i64 b_y]] w fun e w' => e = .returned (.agg #[.bool false, .int .i64 ax, .int .i64 ay, .int .i64 bx, .int .i64 b_y, .int .i64 0, .int .i64 0, .int .i64 0, .int .i64 0, .int .i64 0, .int .i64 (qJ ax ay bx b_y), .int .i64 0, .bool false]) ∧ Below w.heap.size w w' := by
 have DA := fun W => jJ ax ay bx b_y W
 obtain ⟨k, hk⟩ : ∃ k, qJ ax ay bx b_y = k := ⟨_, rfl⟩
 rw [hk] at DA
 rw [hk]
 clear hk
 have hM := qB w
 go_enter Tryz.func71, Tryz.ntmps71
 go_upto_region 0 with fail
 try simp only [pS, pN, sA, sB, sC]
 go_cut [4, 3, 2] (fun s4 s3 s2 wx => ∃ go gb ga : Nat, s4 = .pointer (some ⟨go, 0, none⟩) ∧ s3 = .pointer (some ⟨gb, 0, none⟩) ∧ s2 = .pointer (some ⟨ga, 0, none⟩) ∧ qQ w wx ((go, [.bool false, .int .i64 0, .int .i64 0, .int .i64 0, .int .i64 0, .int .i64 0, .int .i64 0, .int .i64 0, .int .i64 0, .int .i64 0, .int .i64 0, .int .i64 0, .bool false], 49) :: [(gb, [.int .i64 bx, .int .i64 b_y], 26), (ga, [.int .i64 ax, .int .i64 ay], 26)]))
 case first =>
  go_wp2_with (first | ((with_reducible refine lX ?_); refine mL ?_) | ((with_reducible refine sX ?_); refine mS ?_; clear hM; intro W hM) | ((with_reducible refine bX ?_); refine mB ?_; clear hM; intro g W hM) | ((with_reducible refine zX ?_); refine mB ?_; clear hM; intro g W hM))
  all_goals
   go_meet
   exact ⟨_, _, _, rfl, rfl, rfl, hM⟩
 case rest =>
 clear hM
 obtain ⟨go, gb, ga, rfl, rfl, rfl, hM⟩ := hcut
 go_upto_region 1 with (first | ((with_reducible refine lX ?_); refine mL ?_) | ((with_reducible refine sX ?_); refine mS ?_; clear hM; intro W hM))
 try simp only [pS, pN, sA, sB, sC]
 refine qW [(gb, [.int .i64 bx, .int .i64 b_y], 26), (ga, [.int .i64 ax, .int .i64 ay], 26)] hM (by kernel_rfl) ?_; (clear hM; intro W hM)
 refine rD 0 ?_
 refine rD 1 ?_
 refine rD 2 ?_
 refine rD 3 ?_
 refine dC 4 (fun K' hK' => ?_)
 go_wp2_with (first | (go_at_call 32; (with_reducible refine cb hM (DA _) ?_); clear hM; intro W1 hM))
 refine rK hK' hM ?_; clear hK' K'
 refine rD 5 ?_
 refine dC 6 (fun K' hK' => ?_)
 refine oS hM ?_
 clear hM; intro W hM
 refine rK hK' hM ?_; clear hK' K'
 refine qE (by kernel_rfl) ?_
 go_wp2_with (first | ((with_reducible refine lX ?_); refine mL ?_) | ((with_reducible refine sX ?_); refine mS ?_; clear hM; intro W hM))
 all_goals
  (refine' xa hM rfl rfl Tryz.isAgg49 Tryz.sizeOf49 rfl ?_ ?_ ⟨?_, hM.below⟩; rotate_left 2; (· repeat constructor); (· rfl); (· rfl))
theorem xW (ax ay bx b_y cx cy rad f s : Int) (hf : qH f) (w : World) : Calls Tryz.prog 72 #[.agg #[.int .i64 ax, .int .i64 ay], .agg #[.int .i64 bx, .int .i64 b_y], .agg #[.int .i64 cx, .int .i64 cy], .int .i64 rad, .int .i64 f, .int .i64 s] w fun e w' => e = .returned (.agg #[.bool true, .int .i64 ax, .int .i64 ay, .int .i64 bx, .int .i64 b_y, .int .i64 cx, .int .i64 cy, .int .i64 rad, .int .i64 (norm f), .int .i64 s, .int .i64 (qA cx cy rad (norm f) s), .int .i64 0, .bool false]) ∧ Below w.heap.size w w' := by
 have NM := fun W => yj f hf W
 obtain ⟨u, hu⟩ : ∃ u, norm f = u := ⟨_, rfl⟩
 rw [hu] at NM
 rw [hu]
 clear hu
 have TL := fun W => bR cx cy rad u s W
 obtain ⟨k, hk⟩ : ∃ k, qA cx cy rad u s = k := ⟨_, rfl⟩
 rw [hk] at TL
 rw [hk]
 clear hk
 have hM := qB w
 go_enter Tryz.func72, Tryz.ntmps72
 go_upto_region 0 with fail
 try simp only [pS, pN, sA, sB, sC]
 go_cut [12, 8, 7, 6] (fun s12 s8 s7 s6 wx => ∃ go gc gb ga : Nat, s12 = .pointer (some ⟨go, 0, none⟩) ∧ s8 = .pointer (some ⟨gc, 0, none⟩) ∧ s7 = .pointer (some ⟨gb, 0, none⟩) ∧ s6 = .pointer (some ⟨ga, 0, none⟩) ∧ qQ w wx ((go, [.bool false, .int .i64 0, .int .i64 0, .int .i64 0, .int .i64 0, .int .i64 0, .int .i64 0, .int .i64 0, .int .i64 0, .int .i64 0, .int .i64 0, .int .i64 0, .bool false], 49) :: [(gc, [.int .i64 cx, .int .i64 cy], 26), (gb, [.int .i64 bx, .int .i64 b_y], 26), (ga, [.int .i64 ax, .int .i64 ay], 26)]))
 case first =>
  go_wp2_with (first | ((with_reducible refine lX ?_); refine mL ?_) | ((with_reducible refine sX ?_); refine mS ?_; clear hM; intro W hM) | ((with_reducible refine bX ?_); refine mB ?_; clear hM; intro g W hM) | ((with_reducible refine zX ?_); refine mB ?_; clear hM; intro g W hM))
  all_goals
   go_meet
   exact ⟨_, _, _, _, rfl, rfl, rfl, rfl, hM⟩
 case rest =>
 clear hM
 obtain ⟨go, gc, gb, ga, rfl, rfl, rfl, rfl, hM⟩ := hcut
 go_upto_region 1 with (first | ((with_reducible refine lX ?_); refine mL ?_) | ((with_reducible refine sX ?_); refine mS ?_; clear hM; intro W hM) | ((with_reducible refine zX ?_); refine mB ?_; clear hM; intro g W hM))
 try simp only [pS, pN, sA, sB, sC]
 refine qW [(gc, [.int .i64 cx, .int .i64 cy], 26), (gb, [.int .i64 bx, .int .i64 b_y], 26), (ga, [.int .i64 ax, .int .i64 ay], 26)] hM (by kernel_rfl) ?_; (clear hM; intro W hM)
 refine rD 0 ?_
 refine rD 1 ?_
 refine rD 2 ?_
 refine rD 4 ?_
 refine dT 3 6 (fun K' hK' => ?_) (fun K' hK' => ?_)
 ·
  go_wp2_with (first | (go_at_call 48; (with_reducible refine (NM _).mono ?_); rintro e W1 ⟨rfl, rfl⟩))
  refine rK hK' hM ?_; clear hK' K'
  refine rD 5 ?_
  refine dC 6 (fun K' hK' => ?_)
  refine oN hM ?_
  clear hM; intro g13 W hM
  refine rK hK' hM ?_; clear hK' K'
  refine dC 7 (fun K' hK' => ?_)
  refine oS hM ?_
  clear hM; intro W hM
  refine rK hK' hM ?_; clear hK' K'
  refine qE (by kernel_rfl) ?_
  go_upto_region 2 with (first | ((with_reducible refine lX ?_); refine mL ?_) | ((with_reducible refine sX ?_); refine mS ?_; clear hM; intro W hM) | ((with_reducible refine zX ?_); refine mB ?_; clear hM; intro g W hM))
  try simp only [pS, pN, sA, sB, sC]
  refine qW [(gc, [.int .i64 cx, .int .i64 cy], 26), (gb, [.int .i64 bx, .int .i64 b_y], 26), (ga, [.int .i64 ax, .int .i64 ay], 26), (g13, [.int .i64 cx, .int .i64 cy, .int .i64 rad, .int .i64 u, .int .i64 s], 47)] hM (by kernel_rfl) ?_; (clear hM; intro W hM)
  refine rD 0 ?_
  refine rD 1 ?_
  refine rD 2 ?_
  refine rD 3 ?_
  refine dC 4 (fun K' hK' => ?_)
  go_wp2_with (first | (go_at_call 33; (with_reducible refine cb hM (TL _) ?_); clear hM; intro W1 hM))
  refine rK hK' hM ?_; clear hK' K'
  refine rD 5 ?_
  refine dC 6 (fun K' hK' => ?_)
  refine oS hM ?_
  clear hM; intro W hM
  refine rK hK' hM ?_; clear hK' K'
  refine qE (by kernel_rfl) ?_
  go_wp2_with (first | ((with_reducible refine lX ?_); refine mL ?_) | ((with_reducible refine sX ?_); refine mS ?_; clear hM; intro W hM) | ((with_reducible refine zX ?_); refine mB ?_; clear hM; intro g W hM))
  all_goals
   (refine' xa hM rfl rfl Tryz.isAgg49 Tryz.sizeOf49 rfl ?_ ?_ ⟨?_, hM.below⟩; rotate_left 2; (· repeat constructor); (· rfl); (· rfl))
 ·
  refine oN hM ?_
  clear hM; intro g13 W hM
  refine rK hK' hM ?_; clear hK' K'
  refine dC 3 (fun K' hK' => ?_)
  go_wp2_with (first | (go_at_call 48; (with_reducible refine (NM _).mono ?_); rintro e W1 ⟨rfl, rfl⟩))
  refine rK hK' hM ?_; clear hK' K'
  refine rD 5 ?_
  refine dC 7 (fun K' hK' => ?_)
  refine oS hM ?_
  clear hM; intro W hM
  refine rK hK' hM ?_; clear hK' K'
  refine qE (by kernel_rfl) ?_
  go_upto_region 2 with (first | ((with_reducible refine lX ?_); refine mL ?_) | ((with_reducible refine sX ?_); refine mS ?_; clear hM; intro W hM) | ((with_reducible refine zX ?_); refine mB ?_; clear hM; intro g W hM))
  try simp only [pS, pN, sA, sB, sC]
  refine qW [(gc, [.int .i64 cx, .int .i64 cy], 26), (gb, [.int .i64 bx, .int .i64 b_y], 26), (ga, [.int .i64 ax, .int .i64 ay], 26), (g13, [.int .i64 cx, .int .i64 cy, .int .i64 rad, .int .i64 u, .int .i64 s], 47)] hM (by kernel_rfl) ?_; (clear hM; intro W hM)
  refine rD 0 ?_
  refine rD 1 ?_
  refine rD 2 ?_
  refine rD 3 ?_
  refine dC 4 (fun K' hK' => ?_)
  go_wp2_with (first | (go_at_call 33; (with_reducible refine cb hM (TL _) ?_); clear hM; intro W1 hM))
  refine rK hK' hM ?_; clear hK' K'
  refine rD 5 ?_
  refine dC 6 (fun K' hK' => ?_)
  refine oS hM ?_
  clear hM; intro W hM
  refine rK hK' hM ?_; clear hK' K'
  refine qE (by kernel_rfl) ?_
  go_wp2_with (first | ((with_reducible refine lX ?_); refine mL ?_) | ((with_reducible refine sX ?_); refine mS ?_; clear hM; intro W hM) | ((with_reducible refine zX ?_); refine mB ?_; clear hM; intro g W hM))
  all_goals
   (refine' xa hM rfl rfl Tryz.isAgg49 Tryz.sizeOf49 rfl ?_ ?_ ⟨?_, hM.below⟩; rotate_left 2; (· repeat constructor); (· rfl); (· rfl))
theorem Ud (tn : Int) (w : World) : Calls Tryz.prog 68 #[.int .u8 tn] w fun e w' => e = .returned (.int .i64 (xz tn)) ∧ w = w' := by
 by_cases h : tn = 2
 · have e : xz tn = 32400000 := by unfold xz; rw [if_pos h]
   rw [e]
   have h2 : (tn == 2) = true := by simpa using h
   clear h e
   go_enter Tryz.func68, Tryz.ntmps68
   go_wp2
   all_goals
    go_ret
    exact ⟨rfl, rfl⟩
 · have e : xz tn = -32400000 := by unfold xz; rw [if_neg h]
   rw [e]
   have h2 : (tn == 2) = false := by simpa using h
   clear h e
   go_enter Tryz.func68, Tryz.ntmps68
   go_wp2
   all_goals
    go_ret
    exact ⟨rfl, rfl⟩
def ZK (w : Int) : Int := if w < 25200000 then 3 else if w ≥ 90000000 then 2 else 1
theorem WP (c inb tn : Int) (ht : tn = 1 ∨ tn = 2) (hc : qH c) (hi : qH inb) (w : World) : Calls Tryz.prog 36 #[.int .i64 c, .int .i64 inb, .int .u8 tn] w fun e w' => e = .returned (.int .u8 (ZK (Zs c inb tn))) ∧ w = w' := by
 have N1 := fun W => yj c hc W
 have N2 := fun W => yj inb hi W
 have b1 := zM c
 have b2 := zM inb
 have b3 := zM (norm inb + 64800000)
 have N3 := fun W => yj (norm inb + 64800000) (by unfold qH; omega) W
 have hw := hide (show Zs c inb tn = if tn = 2 then norm (norm (norm inb + 64800000) - norm c) else norm (norm c - norm (norm inb + 64800000)) from rfl)
 generalize norm (norm inb + 64800000) = o at *
 generalize norm c = u at *
 generalize norm inb = v at *
 obtain ⟨q, hq⟩ : ∃ q, Zs c inb tn = q := ⟨_, rfl⟩
 rw [hq] at hw
 rw [hq]
 have w1 := IntWalk.i64_in (v + 64800000) (by omega)
 have w2 := IntWalk.i64_in (o - u) (by omega)
 have w3 := IntWalk.i64_in (u - o) (by omega)
 have hk : Hid (ZK q = if q < 25200000 then 3 else if q ≥ 90000000 then 2 else 1) := hide rfl
 obtain ⟨kk, hkk⟩ : ∃ kk, ZK q = kk := ⟨_, rfl⟩
 rw [hkk] at hk
 rw [hkk]
 clear hq hkk
 rcases ht with rfl | rfl
 · have N4 := fun W => yj (u - o) (by unfold qH; omega) W
   have hq2 : q = norm (u - o) := by rw [hw.out, if_neg (by decide)]
   rw [← hq2] at N4
   clear hq2 hw
   go_enter Tryz.func36, Tryz.ntmps36
   go_wp2_with (first | (go_at_call 48; (with_reducible refine (N1 _).mono ?_); rintro e W1 ⟨rfl, rfl⟩) | (go_at_call 48; (with_reducible refine (N2 _).mono ?_); rintro e W1 ⟨rfl, rfl⟩) | (go_at_call 48; (with_reducible refine (N3 _).mono ?_); rintro e W1 ⟨rfl, rfl⟩) | (go_at_call 48; (with_reducible refine (N4 _).mono ?_); rintro e W1 ⟨rfl, rfl⟩))
   all_goals
    go_ret
    exact ⟨by first | (rw [hk.out, if_pos (by omega)]; rfl) | (rw [hk.out, if_neg (by omega), if_pos (by omega)]; rfl) | (rw [hk.out, if_neg (by omega), if_neg (by omega)]; rfl), rfl⟩
 · have N4 := fun W => yj (o - u) (by unfold qH; omega) W
   have hq2 : q = norm (o - u) := by rw [hw.out, if_pos rfl]
   rw [← hq2] at N4
   clear hq2 hw
   go_enter Tryz.func36, Tryz.ntmps36
   go_wp2_with (first | (go_at_call 48; (with_reducible refine (N1 _).mono ?_); rintro e W1 ⟨rfl, rfl⟩) | (go_at_call 48; (with_reducible refine (N2 _).mono ?_); rintro e W1 ⟨rfl, rfl⟩) | (go_at_call 48; (with_reducible refine (N3 _).mono ?_); rintro e W1 ⟨rfl, rfl⟩) | (go_at_call 48; (with_reducible refine (N4 _).mono ?_); rintro e W1 ⟨rfl, rfl⟩))
   all_goals
    go_ret
    exact ⟨by first | (rw [hk.out, if_pos (by omega)]; rfl) | (rw [hk.out, if_neg (by omega), if_pos (by omega)]; rfl) | (rw [hk.out, if_neg (by omega), if_neg (by omega)]; rfl), rfl⟩
end Go.Proofs.YteanfgobpjdmnaaGreatDoor
