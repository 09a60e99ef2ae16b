/-
  The turn of a waypoint that is flown over, by boxes.
-/
import Derived.Test.YtbhpklpkcgcmfaaGreatDoorMAroM
import Derived.Test.YtbhpklpkcgcmfaaGreatDoorMDrM
import Derived.Test.YtbhpklpkcgcmfaaGreatDoorMMemR
import Derived.Test.YtbhpklpkcgcmfaaGreatDoorMTanM
namespace Go.Proofs.YtbhpklpkcgcmfaaGreatDoor
open Go.RowKit
set_option linter.unusedVariables false
set_option linter.unusedSimpArgs false
theorem fo_zero {rad D : Int} {d : Dw} {x y : Tk} (hD : diffF x.co y.ci = D) (h : D = 0) : foT rad d x y = none := by unfold foT; dsimp only; rw [hD, if_pos h]
theorem fo_ray {rad D kx ky e : Int} {d : Dw} {x y : Tk} (hD : diffF x.co y.ci = D) (h : ¬ D = 0) (hr : rayF x.bx x.b_y (foDir x.co D) rad = (kx, ky, e)) (he : e ≠ 0) : foT rad d x y = none := by unfold foT; dsimp only; rw [hD, if_neg h, hr, if_pos he]
theorem fo_tan {rad D kx ky tx ty e : Int} {d : Dw} {x y : Tk} {b : Bool} (hD : diffF x.co y.ci = D) (hb : b = decide (0 < D)) (h : ¬ D = 0) (hr : rayF x.bx x.b_y (foDir x.co D) rad = (kx, ky, 0)) (ht : tanF kx ky rad y.bx y.b_y b = (tx, ty, e)) (he : e ≠ 0) : foT rad d x y = none := by
 subst hb; unfold foT; dsimp only; rw [hD, if_neg h, hr, if_neg (by simp), ht, if_pos he]
theorem fo_end {rad D kx ky tx ty v0 v1 v2 v3 v4 e : Int} {d : Dw} {x y : Tk} {b : Bool} (hD : diffF x.co y.ci = D) (hb : b = decide (0 < D)) (h : ¬ D = 0) (hr : rayF x.bx x.b_y (foDir x.co D) rad = (kx, ky, 0)) (ht : tanF kx ky rad y.bx y.b_y b = (tx, ty, 0)) (ha : aroundF x.bx x.b_y kx ky tx ty b = ([v0, v1, v2, v3, v4], e)) :
 foT rad d x y = if e ≠ 0 then none else some (arcD (lineW d x.bx x.b_y x.n) v0 v1 v2 v3 v4 tx ty y.n, if tx = y.bx ∧ ty = y.b_y then { y with ax := tx, ay := ty, co := y.ci, len := 0 } else { y with ax := tx, ay := ty, ci := (courseF tx ty y.bx y.b_y).1, co := (courseF tx ty y.bx y.b_y).1, len := distF tx ty y.bx y.b_y }) := by
 subst hb; unfold foT; dsimp only; rw [hD, if_neg h, hr, if_neg (by simp), ht, if_neg (by simp), ha]
theorem ar_cells (ax ay cx cy bx b_y : Int) (right : Bool) : ∃ v0 v1 v2 v3 v4 e0 : Int, aroundF ax ay cx cy bx b_y right = ([v0, v1, v2, v3, v4], e0) := by
 unfold aroundF
 split
 · exact ⟨_, _, _, _, _, _, rfl⟩
 split
 · exact ⟨_, _, _, _, _, _, rfl⟩
 exact ⟨_, _, _, _, _, _, rfl⟩
set_option maxRecDepth 100000 in
set_option maxHeartbeats 8000000 in
theorem flyOver_d {w0 w : World} {gd : Nat} {rad : Int} {V : Value} {d : Dw} {B R : List Box} {m gT o : Nat} {pre post : List Value} (x y : Tk) (t : Option (Dw × Tk)) (ht : Hid (t = foT rad d x y)) (hr : 1 ≤ rad) (hr8 : rad ≤ 8000000) (hx : -129600000 ≤ x.co ∧ x.co ≤ 259200000) (hy : -129600000 ≤ y.ci ∧ y.ci ≤ 259200000) (hpre : Hid (pre.length = o))
 (hM : Mem w0 w ((gd, dwC V d rad, 74) :: (B ++ ((gT, pre ++ mid [.int .u8 y.k, .int .i64 y.ax, .int .i64 y.ay, .int .i64 y.bx, .int .i64 y.b_y, .int .i64 y.cx, .int .i64 y.cy, .int .i64 y.r, .int .i64 y.f, .int .i64 y.s, .int .i64 y.ci, .int .i64 y.co, .int .i64 y.len, .int .i64 y.n, .bool y.g] post, 77) :: R)))) (hO : Hid (OwE V d.els B m)) (hm : m ≤ 90000 := by omega) :
 Calls Tryz.prog 64 #[.pointer (some ⟨gd, 0, none⟩), .agg #[.int .u8 x.k, .int .i64 x.ax, .int .i64 x.ay, .int .i64 x.bx, .int .i64 x.b_y, .int .i64 x.cx, .int .i64 x.cy, .int .i64 x.r, .int .i64 x.f, .int .i64 x.s, .int .i64 x.ci, .int .i64 x.co, .int .i64 x.len, .int .i64 x.n, .bool x.g], .pointer (some ⟨gT, o, none⟩)] w fun e w' => e = .returned (.bool t.isSome) ∧ ∃ V' B', OwE V' ((t.map (·.1)).getD d).els B' (m + 2) ∧ Mem w0 w' ((gd, dwC V' ((t.map (·.1)).getD d) rad, 74) :: (B' ++ ((gT, pre ++ mid ((t.map (·.2)).getD y).cells post, 77) :: R))) := by
 have db := diffF_bd x.co y.ci
 have DF := fun W => diff_any x.co y.ci (by unfold I64; omega) (by unfold I64; omega) W
 obtain ⟨D, hD⟩ : ∃ D, diffF x.co y.ci = D := ⟨_, rfl⟩
 rw [hD] at DF db
 have HD := hide hD
 clear hD
 go_enter Tryz.func64, Tryz.ntmps64
 go_upto_region 0 with (first | ((with_reducible refine lX ?_); first | refine aL hM rfl rfl ?_ | refine aM hM rfl rfl ?_) | ((with_reducible refine sX ?_); refine aS hM rfl rfl rfl ?_; clear hM; intro W hM) | ((with_reducible refine bX ?_); refine aB hM rfl rfl ?_; clear hM; intro g W hM) | ((with_reducible refine zX ?_); refine aN hM rfl rfl ?_; clear hM; intro g W hM))
 try simp only [pS, pN, sA, sB, sC]
 go_cut [4] (fun s4 wx => ∃ gx : Nat, s4 = .pointer (some ⟨gx, 0, none⟩) ∧ Mem w0 wx ((gx, [.int .u8 x.k, .int .i64 x.ax, .int .i64 x.ay, .int .i64 x.bx, .int .i64 x.b_y, .int .i64 x.cx, .int .i64 x.cy, .int .i64 x.r, .int .i64 x.f, .int .i64 x.s, .int .i64 x.ci, .int .i64 x.co, .int .i64 x.len, .int .i64 x.n, .bool x.g], 77) :: ((gd, dwC V d rad, 74) :: (B ++ ((gT, pre ++ mid [.int .u8 y.k, .int .i64 y.ax, .int .i64 y.ay, .int .i64 y.bx, .int .i64 y.b_y, .int .i64 y.cx, .int .i64 y.cy, .int .i64 y.r, .int .i64 y.f, .int .i64 y.s, .int .i64 y.ci, .int .i64 y.co, .int .i64 y.len, .int .i64 y.n, .bool y.g] post, 77) :: R)))))
 case first =>
  go_wp2_with (first | ((with_reducible refine lX ?_); first | refine aL hM rfl rfl ?_ | refine aM hM rfl rfl ?_) | ((with_reducible refine sX ?_); refine aS hM rfl rfl rfl ?_; clear hM; intro W hM) | ((with_reducible refine bX ?_); refine aB hM rfl rfl ?_; clear hM; intro g W hM) | ((with_reducible refine zX ?_); refine aN hM rfl rfl ?_; clear hM; intro g W hM))
  all_goals
   go_meet
   exact ⟨_, rfl, hM⟩
 case rest =>
 clear hM
 obtain ⟨gx, rfl, hM⟩ := hcut
 go_upto_region 1 with (first | ((with_reducible refine lX ?_); first | refine aL hM rfl rfl ?_ | refine aM hM rfl rfl ?_) | ((with_reducible refine sX ?_); refine aS hM rfl rfl rfl ?_; clear hM; intro W hM) | ((with_reducible refine bX ?_); refine aB hM rfl rfl ?_; clear hM; intro g W hM) | ((with_reducible refine zX ?_); refine aN hM rfl rfl ?_; clear hM; intro g W hM))
 try simp only [pS, pN, sA, sB, sC]
 refine region_k [(gx, [.int .u8 x.k, .int .i64 x.ax, .int .i64 x.ay, .int .i64 x.bx, .int .i64 x.b_y, .int .i64 x.cx, .int .i64 x.cy, .int .i64 x.r, .int .i64 x.f, .int .i64 x.s, .int .i64 x.ci, .int .i64 x.co, .int .i64 x.len, .int .i64 x.n, .bool x.g], 77), (gT, pre ++ mid [.int .u8 y.k, .int .i64 y.ax, .int .i64 y.ay, .int .i64 y.bx, .int .i64 y.b_y, .int .i64 y.cx, .int .i64 y.cy, .int .i64 y.r, .int .i64 y.f, .int .i64 y.s, .int .i64 y.ci, .int .i64 y.co, .int .i64 y.len, .int .i64 y.n, .bool y.g] post, 77)] hM (by kernel_rfl) ?_; (clear hM; intro W hM)
 refine dP 0 hM ?_
 try simp only [pS, pN, sA, sB, sC]
 first | refine dL 1 hM ?_ | refine dM 1 hM ?_
 try simp only [pS, pN, sA, sB, sC]
 refine dP 2 hM ?_
 try simp only [pS, pN, sA, sB, sC]
 refine dP 3 hM ?_
 try simp only [pS, pN, sA, sB, sC]
 refine dP 4 hM ?_
 try simp only [pS, pN, sA, sB, sC]
 refine dL 5 hM ?_ (hv := row1 hpre.out rfl)
 try simp only [pS, pN, sA, sB, sC]
 refine dC 6 (fun K' hK' => ?_)
 go_wp2_with (first | (go_at_call 121; (with_reducible refine (DF _).mono ?_); rintro e W1 ⟨rfl, rfl⟩))
 refine hK_out hK' hM ?_
 clear hK' K'
 try simp only [pS, pN, sA, sB, sC]
 refine dP 7 hM ?_
 try simp only [pS, pN, sA, sB, sC]
 refine tk_done (by kernel_rfl) ?_
 by_cases h0 : D = 0
 · have hn : t = none := ht.out.trans (fo_zero HD.out h0)
   have hz : (D == 0) = true := by simpa using h0
   clear h0 ht
   go_wp2_with (first | ((with_reducible refine lX ?_); first | refine aL hM rfl rfl ?_ | refine aM hM rfl rfl ?_) | ((with_reducible refine sX ?_); refine aS hM rfl rfl rfl ?_; clear hM; intro W hM) | ((with_reducible refine bX ?_); refine aB hM rfl rfl ?_; clear hM; intro g W hM) | ((with_reducible refine zX ?_); refine aN hM rfl rfl ?_; clear hM; intro g W hM))
   all_goals
    (go_ret; exact ⟨by rw [hn]; rfl, V, B, by rw [hn]; exact ⟨hO.out.1, Nat.le_trans hO.out.2 (by omega)⟩, by rw [hn]; exact mem_tl (hM)⟩)
 have hz : (D == 0) = false := by simpa using h0
 go_upto_if 24 with (first | ((with_reducible refine lX ?_); first | refine aL hM rfl rfl ?_ | refine aM hM rfl rfl ?_) | ((with_reducible refine sX ?_); refine aS hM rfl rfl rfl ?_; clear hM; intro W hM) | ((with_reducible refine bX ?_); refine aB hM rfl rfl ?_; clear hM; intro g W hM) | ((with_reducible refine zX ?_); refine aN hM rfl rfl ?_; clear hM; intro g W hM))
 try simp only [pS, pN, sA, sB, sC]
 go_cut [8, 9] (fun s8 s9 wx => ∃ q b : Int, ∃ right : Bool, s8 = .int .u8 b ∧ s9 = .int .i64 q ∧ (q = 32400000 ∨ q = -32400000) ∧ Hid (foDir x.co D = x.co + q) ∧ Hid (right = decide (0 < D)) ∧ (b = 1 ∧ right = false ∨ b = 2 ∧ right = true) ∧ Mem w0 wx ((gx, [.int .u8 x.k, .int .i64 x.ax, .int .i64 x.ay, .int .i64 x.bx, .int .i64 x.b_y, .int .i64 x.cx, .int .i64 x.cy, .int .i64 x.r, .int .i64 x.f, .int .i64 x.s, .int .i64 x.ci, .int .i64 x.co, .int .i64 x.len, .int .i64 x.n, .bool x.g], 77) :: ((gd, dwC V d rad, 74) :: (B ++ ((gT, pre ++ mid [.int .u8 y.k, .int .i64 y.ax, .int .i64 y.ay, .int .i64 y.bx, .int .i64 y.b_y, .int .i64 y.cx, .int .i64 y.cy, .int .i64 y.r, .int .i64 y.f, .int .i64 y.s, .int .i64 y.ci, .int .i64 y.co, .int .i64 y.len, .int .i64 y.n, .bool y.g] post, 77) :: R)))))
 case first =>
  by_cases hlt : D < 0
  · have h1 : ¬ 0 < D := by omega
    go_wp2_with (first | ((with_reducible refine lX ?_); first | refine aL hM rfl rfl ?_ | refine aM hM rfl rfl ?_) | ((with_reducible refine sX ?_); refine aS hM rfl rfl rfl ?_; clear hM; intro W hM) | ((with_reducible refine bX ?_); refine aB hM rfl rfl ?_; clear hM; intro g W hM) | ((with_reducible refine zX ?_); refine aN hM rfl rfl ?_; clear hM; intro g W hM))
    all_goals
     go_meet
     exact ⟨-32400000, 1, false, rfl, rfl, .inr rfl, hide (by unfold foDir; rw [if_neg (by omega)]), hide (decide_eq_false (by omega)).symm, .inl ⟨rfl, rfl⟩, hM⟩
  · have h1 : 0 < D := by omega
    go_wp2_with (first | ((with_reducible refine lX ?_); first | refine aL hM rfl rfl ?_ | refine aM hM rfl rfl ?_) | ((with_reducible refine sX ?_); refine aS hM rfl rfl rfl ?_; clear hM; intro W hM) | ((with_reducible refine bX ?_); refine aB hM rfl rfl ?_; clear hM; intro g W hM) | ((with_reducible refine zX ?_); refine aN hM rfl rfl ?_; clear hM; intro g W hM))
    all_goals
     go_meet
     exact ⟨32400000, 2, true, rfl, rfl, .inl rfl, hide (by unfold foDir; rw [if_pos (by omega)]), hide (decide_eq_true (by omega)).symm, .inr ⟨rfl, rfl⟩, hM⟩
 case rest =>
 clear hM
 obtain ⟨q, b, right, rfl, rfl, qb, HF, HB, hbr, hM⟩ := hcut
 have w1 := IntWalk.i64_in (x.co + q) (by omega)
 obtain ⟨kx, ky, e1, hr1⟩ : ∃ kx ky e1, rayF x.bx x.b_y (x.co + q) rad = (kx, ky, e1) := ⟨_, _, _, rfl⟩
 have RY := fun W => ray_any x.bx x.b_y (x.co + q) rad (by unfold I64; omega) (by unfold I64; omega) W _ hr1.symm
 have HR1 := hide (show rayF x.bx x.b_y (foDir x.co D) rad = (kx, ky, e1) by rw [HF.out]; exact hr1)
 clear hr1
 go_upto_region 7 with (first | ((with_reducible refine lX ?_); first | refine aL hM rfl rfl ?_ | refine aM hM rfl rfl ?_) | ((with_reducible refine sX ?_); refine aS hM rfl rfl rfl ?_; clear hM; intro W hM) | ((with_reducible refine bX ?_); refine aB hM rfl rfl ?_; clear hM; intro g W hM) | ((with_reducible refine zX ?_); refine aN hM rfl rfl ?_; clear hM; intro g W hM))
 try simp only [pS, pN, sA, sB, sC]
 refine region_k [(gx, [.int .u8 x.k, .int .i64 x.ax, .int .i64 x.ay, .int .i64 x.bx, .int .i64 x.b_y, .int .i64 x.cx, .int .i64 x.cy, .int .i64 x.r, .int .i64 x.f, .int .i64 x.s, .int .i64 x.ci, .int .i64 x.co, .int .i64 x.len, .int .i64 x.n, .bool x.g], 77), (gd, dwC V d rad, 74)] hM (by kernel_rfl) ?_; (clear hM; intro W hM)
 refine dP 0 hM ?_
 try simp only [pS, pN, sA, sB, sC]
 first | refine dL 1 hM ?_ | refine dM 1 hM ?_
 try simp only [pS, pN, sA, sB, sC]
 refine dP 2 hM ?_
 try simp only [pS, pN, sA, sB, sC]
 first | refine dL 3 hM ?_ | refine dM 3 hM ?_
 try simp only [pS, pN, sA, sB, sC]
 refine dP 4 hM ?_
 try simp only [pS, pN, sA, sB, sC]
 refine dP 5 hM ?_
 try simp only [pS, pN, sA, sB, sC]
 refine dP 6 hM ?_
 try simp only [pS, pN, sA, sB, sC]
 refine dP 7 hM ?_
 try simp only [pS, pN, sA, sB, sC]
 refine dP 8 hM ?_
 try simp only [pS, pN, sA, sB, sC]
 first | refine dL 9 hM ?_ | refine dM 9 hM ?_
 try simp only [pS, pN, sA, sB, sC]
 refine dT 10 14 (fun K' hK' => ?_) (fun K' hK' => ?_)
 ·
  go_wp2_with (first | (go_at_call 71; (with_reducible refine cb hM (RY _) ?_); clear hM; intro W1 hM))
  refine hK_out hK' hM ?_
  clear hK' K'
  try simp only [pS, pN, sA, sB, sC]
  refine dP 11 hM ?_
  try simp only [pS, pN, sA, sB, sC]
  refine dP 12 hM ?_
  try simp only [pS, pN, sA, sB, sC]
  refine dP 13 hM ?_
  try simp only [pS, pN, sA, sB, sC]
  refine dC 14 (fun K' hK' => ?_)
  refine oN hM ?_
  clear hM; intro g10 W hM
  refine hK_out hK' hM ?_
  clear hK' K'
  try simp only [pS, pN, sA, sB, sC]
  refine dC 15 (fun K' hK' => ?_)
  refine oS hM ?_
  clear hM; intro W hM
  refine hK_out hK' hM ?_
  clear hK' K'
  try simp only [pS, pN, sA, sB, sC]
  refine dP 16 hM ?_
  try simp only [pS, pN, sA, sB, sC]
  refine tk_done (by kernel_rfl) ?_
  obtain ⟨gc, rfl⟩ : ∃ gc, gc = g10 := ⟨_, rfl⟩
  by_cases he1 : e1 = 0
  rotate_left 1
  · have hn : t = none := ht.out.trans (fo_ray HD.out h0 HR1.out he1)
    have he1' : (e1 != 0) = true := by simpa using he1
    clear he1 ht
    go_wp2_with (first | ((with_reducible refine lX ?_); first | refine aL hM rfl rfl ?_ | refine aM hM rfl rfl ?_) | ((with_reducible refine sX ?_); refine aS hM rfl rfl rfl ?_; clear hM; intro W hM) | ((with_reducible refine bX ?_); refine aB hM rfl rfl ?_; clear hM; intro g W hM) | ((with_reducible refine zX ?_); refine aN hM rfl rfl ?_; clear hM; intro g W hM))
    all_goals
     (go_ret; exact ⟨by rw [hn]; rfl, V, B, by rw [hn]; exact ⟨hO.out.1, Nat.le_trans hO.out.2 (by omega)⟩, by rw [hn]; exact mem_tl (mem_tl (hM))⟩)
  subst he1
  obtain ⟨tx, ty, e2, ht2⟩ : ∃ tx ty e2, tanF kx ky rad y.bx y.b_y right = (tx, ty, e2) := ⟨_, _, _, rfl⟩
  have TA := fun W => tan_s kx ky rad y.bx y.b_y b right hbr W tx ty e2 (hide ht2.symm)
  have HT2 := hide ht2
  clear ht2 RY
  go_upto_region 10 with (first | ((with_reducible refine lX ?_); first | refine aL hM rfl rfl ?_ | refine aM hM rfl rfl ?_) | ((with_reducible refine sX ?_); refine aS hM rfl rfl rfl ?_; clear hM; intro W hM) | ((with_reducible refine bX ?_); refine aB hM rfl rfl ?_; clear hM; intro g W hM) | ((with_reducible refine zX ?_); refine aN hM rfl rfl ?_; clear hM; intro g W hM))
  try simp only [pS, pN, sA, sB, sC]
  refine region_k [(gc, [.int .i64 kx, .int .i64 ky], 26), (gd, dwC V d rad, 74), (gT, pre ++ mid [.int .u8 y.k, .int .i64 y.ax, .int .i64 y.ay, .int .i64 y.bx, .int .i64 y.b_y, .int .i64 y.cx, .int .i64 y.cy, .int .i64 y.r, .int .i64 y.f, .int .i64 y.s, .int .i64 y.ci, .int .i64 y.co, .int .i64 y.len, .int .i64 y.n, .bool y.g] post, 77)] hM (by kernel_rfl) ?_; (clear hM; intro W hM)
  first | refine dL 0 hM ?_ | refine dM 0 hM ?_
  try simp only [pS, pN, sA, sB, sC]
  refine dP 1 hM ?_
  try simp only [pS, pN, sA, sB, sC]
  refine dP 2 hM ?_
  try simp only [pS, pN, sA, sB, sC]
  refine dP 3 hM ?_
  try simp only [pS, pN, sA, sB, sC]
  first | refine dL 4 hM ?_ | refine dM 4 hM ?_
  try simp only [pS, pN, sA, sB, sC]
  refine dP 5 hM ?_
  try simp only [pS, pN, sA, sB, sC]
  refine dP 6 hM ?_
  try simp only [pS, pN, sA, sB, sC]
  refine dP 7 hM ?_
  try simp only [pS, pN, sA, sB, sC]
  refine dP 8 hM ?_
  try simp only [pS, pN, sA, sB, sC]
  refine dM 9 hM ?_ (hC := part_row hpre.out (by ((repeat constructor) <;> fail)))
  try simp only [pS, pN, sA, sB, sC]
  refine dT 10 14 (fun K' hK' => ?_) (fun K' hK' => ?_)
  ·
   go_wp2_with (first | (go_at_call 122; (with_reducible refine cb hM (TA _) ?_); clear hM; intro W1 hM))
   refine hK_out hK' hM ?_
   clear hK' K'
   try simp only [pS, pN, sA, sB, sC]
   refine dP 11 hM ?_
   try simp only [pS, pN, sA, sB, sC]
   refine dP 12 hM ?_
   try simp only [pS, pN, sA, sB, sC]
   refine dP 13 hM ?_
   try simp only [pS, pN, sA, sB, sC]
   refine dC 14 (fun K' hK' => ?_)
   refine oN hM ?_
   clear hM; intro g12 W hM
   refine hK_out hK' hM ?_
   clear hK' K'
   try simp only [pS, pN, sA, sB, sC]
   refine dC 15 (fun K' hK' => ?_)
   refine oS hM ?_
   clear hM; intro W hM
   refine hK_out hK' hM ?_
   clear hK' K'
   try simp only [pS, pN, sA, sB, sC]
   refine dP 16 hM ?_
   try simp only [pS, pN, sA, sB, sC]
   refine tk_done (by kernel_rfl) ?_
   obtain ⟨gt, rfl⟩ : ∃ gt, gt = g12 := ⟨_, rfl⟩
   by_cases he2 : e2 = 0
   rotate_left 1
   · have hn : t = none := ht.out.trans (fo_tan HD.out HB.out h0 HR1.out HT2.out he2)
     have he2' : (e2 != 0) = true := by simpa using he2
     clear he2 ht
     go_wp2_with (first | ((with_reducible refine lX ?_); first | refine aL hM rfl rfl ?_ | refine aM hM rfl rfl ?_) | ((with_reducible refine sX ?_); refine aS hM rfl rfl rfl ?_; clear hM; intro W hM) | ((with_reducible refine bX ?_); refine aB hM rfl rfl ?_; clear hM; intro g W hM) | ((with_reducible refine zX ?_); refine aN hM rfl rfl ?_; clear hM; intro g W hM))
     all_goals
      (go_ret; exact ⟨by rw [hn]; rfl, V, B, by rw [hn]; exact ⟨hO.out.1, Nat.le_trans hO.out.2 (by omega)⟩, by rw [hn]; exact mem_tl (mem_tl (mem_tl (hM)))⟩)
   subst he2
   obtain ⟨v0, v1, v2, v3, v4, e3, ha3⟩ := ar_cells x.bx x.b_y kx ky tx ty right
   have AO := fun W => around_s x.bx x.b_y kx ky tx ty b right hbr W v0 v1 v2 v3 v4 e3 ha3.symm
   have HT := hide (ht.out.trans (fo_end HD.out HB.out h0 HR1.out HT2.out ha3))
   clear ha3 ht HD HB HR1 HT2 TA hbr HF
   by_cases he3 : e3 = 0
   rotate_left 1
   · have hn : t = none := by rw [HT.out, if_pos he3]
     have he3' : (e3 != 0) = true := by simpa using he3
     clear he3 HT
     go_wp2_with (first | (go_at_call 123; (with_reducible refine cb hM (AO _) ?_); clear hM; intro W1 hM) | ((with_reducible refine lX ?_); first | refine aL hM rfl rfl ?_ | refine aM hM rfl rfl ?_) | ((with_reducible refine sX ?_); refine aS hM rfl rfl rfl ?_; clear hM; intro W hM) | ((with_reducible refine bX ?_); refine aB hM rfl rfl ?_; clear hM; intro g W hM) | ((with_reducible refine zX ?_); refine aN hM rfl rfl ?_; clear hM; intro g W hM))
     all_goals
      (go_ret; exact ⟨by rw [hn]; rfl, V, B, by rw [hn]; exact ⟨hO.out.1, Nat.le_trans hO.out.2 (by omega)⟩, by rw [hn]; exact mem_tl (mem_tl (mem_tl (mem_tl (hM))))⟩)
   subst he3
   have HT3 := hide (HT.out.trans (if_neg (by simp)))
   clear HT
   go_upto_region 17 with (first | (go_at_call 123; (with_reducible refine cb hM (AO _) ?_); clear hM; intro W1 hM) | (go_at_call 24; (with_reducible refine cD hM (fun R' hM' => line_d x.bx x.b_y x.n hM' hO) ?_); clear hM hO; intro d1 V1 B1 W1 hd1 hO1 hM; simp only [List.cons_append, List.nil_append] at hM) | ((with_reducible refine lX ?_); first | refine aL hM rfl rfl ?_ | refine aM hM rfl rfl ?_) | ((with_reducible refine sX ?_); refine aS hM rfl rfl rfl ?_; clear hM; intro W hM) | ((with_reducible refine bX ?_); refine aB hM rfl rfl ?_; clear hM; intro g W hM) | ((with_reducible refine zX ?_); refine aN hM rfl rfl ?_; clear hM; intro g W hM))
   try simp only [pS, pN, sA, sB, sC]
   obtain ⟨ga, rfl⟩ : ∃ ga, ga = g := ⟨_, rfl⟩
   refine region_k [(ga, [.int .i64 v0, .int .i64 v1, .int .i64 v2, .int .i64 v3, .int .i64 v4], 46), (gt, [.int .i64 tx, .int .i64 ty], 26), (gT, pre ++ mid [.int .u8 y.k, .int .i64 y.ax, .int .i64 y.ay, .int .i64 y.bx, .int .i64 y.b_y, .int .i64 y.cx, .int .i64 y.cy, .int .i64 y.r, .int .i64 y.f, .int .i64 y.s, .int .i64 y.ci, .int .i64 y.co, .int .i64 y.len, .int .i64 y.n, .bool y.g] post, 77)] hM (by kernel_rfl) ?_; (clear hM; intro W hM)
   refine dP 0 hM ?_
   try simp only [pS, pN, sA, sB, sC]
   first | refine dL 1 hM ?_ | refine dM 1 hM ?_
   try simp only [pS, pN, sA, sB, sC]
   first | refine dL 2 hM ?_ | refine dM 2 hM ?_
   try simp only [pS, pN, sA, sB, sC]
   refine dP 3 hM ?_
   try simp only [pS, pN, sA, sB, sC]
   refine dP 4 hM ?_
   try simp only [pS, pN, sA, sB, sC]
   refine dP 5 hM ?_
   try simp only [pS, pN, sA, sB, sC]
   refine dL 6 hM ?_ (hv := row1 hpre.out rfl)
   try simp only [pS, pN, sA, sB, sC]
   refine dC 7 (fun K' hK' => ?_)
   go_wp2_with (first | (go_at_call 25; (with_reducible refine cD hM (fun R' hM' => arc_d v0 v1 v2 v3 v4 tx ty y.n hM' hO1) ?_); clear hM hO1; intro d2 V2 B2 W2 hd2 hO2 hM; simp only [List.cons_append, List.nil_append] at hM))
   refine hK_out hK' hM ?_
   clear hK' K'
   try simp only [pS, pN, sA, sB, sC]
   refine tk_done (by kernel_rfl) ?_
   go_upto_region 18 with (first | ((with_reducible refine lX ?_); first | refine aL hM rfl rfl ?_ | refine aM hM rfl rfl ?_) | ((with_reducible refine sX ?_); refine aS hM rfl rfl rfl ?_; clear hM; intro W hM) | ((with_reducible refine bX ?_); refine aB hM rfl rfl ?_; clear hM; intro g W hM) | ((with_reducible refine zX ?_); refine aN hM rfl rfl ?_; clear hM; intro g W hM))
   try simp only [pS, pN, sA, sB, sC]
   refine region_k [(gt, [.int .i64 tx, .int .i64 ty], 26)] hM (by kernel_rfl) ?_; (clear hM; intro W hM)
   refine dP 0 hM ?_
   try simp only [pS, pN, sA, sB, sC]
   refine dP 1 hM ?_
   try simp only [pS, pN, sA, sB, sC]
   refine dP 2 hM ?_
   try simp only [pS, pN, sA, sB, sC]
   first | refine dL 3 hM ?_ | refine dM 3 hM ?_
   try simp only [pS, pN, sA, sB, sC]
   refine dP 4 hM ?_
   try simp only [pS, pN, sA, sB, sC]
   refine dP 5 hM ?_
   try simp only [pS, pN, sA, sB, sC]
   refine dP 6 hM ?_
   try simp only [pS, pN, sA, sB, sC]
   refine dC 7 (fun K' hK' => ?_)
   refine oL hM ?_ (hv := row1 hpre.out rfl)
   refine hK_out hK' hM ?_
   clear hK' K'
   try simp only [pS, pN, sA, sB, sC]
   refine dP 8 hM ?_
   try simp only [pS, pN, sA, sB, sC]
   refine dP 9 hM ?_
   try simp only [pS, pN, sA, sB, sC]
   refine dC 10 (fun K' hK' => ?_)
   refine oS hM ?_ (hc := spl_row hpre.out (by ((repeat constructor) <;> fail)))
   clear hM; intro W hM
   refine hK_out hK' hM ?_
   clear hK' K'
   try simp only [pS, pN, sA, sB, sC]
   refine dP 11 hM ?_
   try simp only [pS, pN, sA, sB, sC]
   refine dP 12 hM ?_
   try simp only [pS, pN, sA, sB, sC]
   refine dC 13 (fun K' hK' => ?_)
   refine oS hM ?_ (hc := spl_row hpre.out (by ((repeat constructor) <;> fail)))
   clear hM; intro W hM
   refine hK_out hK' hM ?_
   clear hK' K'
   try simp only [pS, pN, sA, sB, sC]
   refine dP 14 hM ?_
   try simp only [pS, pN, sA, sB, sC]
   refine dP 15 hM ?_
   try simp only [pS, pN, sA, sB, sC]
   refine dC 16 (fun K' hK' => ?_)
   refine oS hM ?_ (hc := spl_row hpre.out (by ((repeat constructor) <;> fail)))
   clear hM; intro W hM
   refine hK_out hK' hM ?_
   clear hK' K'
   try simp only [pS, pN, sA, sB, sC]
   refine tk_done (by kernel_rfl) ?_
   go_upto_region 19 with (first | ((with_reducible refine lX ?_); first | refine aL hM rfl rfl ?_ | refine aM hM rfl rfl ?_) | ((with_reducible refine sX ?_); refine aS hM rfl rfl rfl ?_; clear hM; intro W hM) | ((with_reducible refine bX ?_); refine aB hM rfl rfl ?_; clear hM; intro g W hM) | ((with_reducible refine zX ?_); refine aN hM rfl rfl ?_; clear hM; intro g W hM))
   try simp only [pS, pN, sA, sB, sC]
   by_cases hq : tx = y.bx ∧ ty = y.b_y
   · have hq1 := hq.1
     have hq2 := hq.2
     refine region_k [(gt, [.int .i64 tx, .int .i64 ty], 26), (gT, pre ++ mid [.int .u8 y.k, .int .i64 tx, .int .i64 ty, .int .i64 y.bx, .int .i64 y.b_y, .int .i64 y.cx, .int .i64 y.cy, .int .i64 y.r, .int .i64 y.f, .int .i64 y.s, .int .i64 y.ci, .int .i64 y.ci, .int .i64 0, .int .i64 y.n, .bool y.g] post, 77)] hM (by kernel_rfl) ?_; (clear hM; intro W hM)
     first | refine dL 0 hM ?_ | refine dM 0 hM ?_
     try simp only [pS, pN, sA, sB, sC]
     refine dP 1 hM ?_
     try simp only [pS, pN, sA, sB, sC]
     refine dP 2 hM ?_
     try simp only [pS, pN, sA, sB, sC]
     refine dP 3 hM ?_
     try simp only [pS, pN, sA, sB, sC]
     refine dM 4 hM ?_ (hC := part_row hpre.out (by ((repeat constructor) <;> fail)))
     try simp only [pS, pN, sA, sB, sC]
     refine dP 5 (v := .bool false) hM ?_ (hv := by (intro W0; go_simp; (try rw [if_pos hq1, if_pos hq2])))
     try simp only [pS, pN, sA, sB, sC]
     refine tk_done (by kernel_rfl) ?_
     have HN := hide (show t = some (arcD (lineW d x.bx x.b_y x.n) v0 v1 v2 v3 v4 tx ty y.n, { y with ax := tx, ay := ty, co := y.ci, len := 0 }) by rw [HT3.out, if_pos hq])
     go_wp2_with (first | ((with_reducible refine lX ?_); first | refine aL hM rfl rfl ?_ | refine aM hM rfl rfl ?_) | ((with_reducible refine sX ?_); refine aS hM rfl rfl rfl ?_; clear hM; intro W hM) | ((with_reducible refine bX ?_); refine aB hM rfl rfl ?_; clear hM; intro g W hM) | ((with_reducible refine zX ?_); refine aN hM rfl rfl ?_; clear hM; intro g W hM))
     all_goals
      have e2 : (t.map (·.1)).getD d = d2 := by rw [HN.out, Option.map_some, Option.getD_some, hd1.out, hd2.out]
      have e3 : t.isSome = true := by rw [HN.out, Option.isSome_some]
      have e4 : ((t.map (·.2)).getD y).cells = [.int .u8 y.k, .int .i64 tx, .int .i64 ty, .int .i64 y.bx, .int .i64 y.b_y, .int .i64 y.cx, .int .i64 y.cy, .int .i64 y.r, .int .i64 y.f, .int .i64 y.s, .int .i64 y.ci, .int .i64 y.ci, .int .i64 0, .int .i64 y.n, .bool y.g] := by rw [HN.out, Option.map_some, Option.getD_some]; rfl
      (go_ret; exact ⟨by rw [e3]; rfl, V2, B2, by rw [e2]; exact hO2.out, by rw [e2, e4]; exact mem_tl (mem_tl (mem_tl (mem_tl hM)))⟩)
   · (
     refine region_k [(gt, [.int .i64 tx, .int .i64 ty], 26), (gT, pre ++ mid [.int .u8 y.k, .int .i64 tx, .int .i64 ty, .int .i64 y.bx, .int .i64 y.b_y, .int .i64 y.cx, .int .i64 y.cy, .int .i64 y.r, .int .i64 y.f, .int .i64 y.s, .int .i64 y.ci, .int .i64 y.ci, .int .i64 0, .int .i64 y.n, .bool y.g] post, 77)] hM (by kernel_rfl) ?_; (clear hM; intro W hM)
     first | refine dL 0 hM ?_ | refine dM 0 hM ?_
     try simp only [pS, pN, sA, sB, sC]
     refine dP 1 hM ?_
     try simp only [pS, pN, sA, sB, sC]
     refine dP 2 hM ?_
     try simp only [pS, pN, sA, sB, sC]
     refine dP 3 hM ?_
     try simp only [pS, pN, sA, sB, sC]
     refine dM 4 hM ?_ (hC := part_row hpre.out (by ((repeat constructor) <;> fail)))
     try simp only [pS, pN, sA, sB, sC]
     refine dP 5 (v := .bool true) hM ?_ (hv := by (intro W0; go_simp; exact fun h1 h2 => hq ⟨h1, h2⟩))
     try simp only [pS, pN, sA, sB, sC]
     refine tk_done (by kernel_rfl) ?_
     have CC := fun W => course_any tx ty y.bx y.b_y W
     have DC := fun W => dist_any tx ty y.bx y.b_y W
     obtain ⟨c1, hc1⟩ : ∃ c1, (courseF tx ty y.bx y.b_y).1 = c1 := ⟨_, rfl⟩
     obtain ⟨k1, hk1⟩ : ∃ k1, distF tx ty y.bx y.b_y = k1 := ⟨_, rfl⟩
     have HN := hide (show t = some (arcD (lineW d x.bx x.b_y x.n) v0 v1 v2 v3 v4 tx ty y.n, { y with ax := tx, ay := ty, ci := c1, co := c1, len := k1 }) by rw [HT3.out, if_neg hq, hc1, hk1])
     rw [hc1] at CC
     rw [hk1] at DC
     clear hc1 hk1 HT3 hq
     go_upto_region 20 with (first | ((with_reducible refine lX ?_); first | refine aL hM rfl rfl ?_ | refine aM hM rfl rfl ?_) | ((with_reducible refine sX ?_); refine aS hM rfl rfl rfl ?_; clear hM; intro W hM) | ((with_reducible refine bX ?_); refine aB hM rfl rfl ?_; clear hM; intro g W hM) | ((with_reducible refine zX ?_); refine aN hM rfl rfl ?_; clear hM; intro g W hM))
     try simp only [pS, pN, sA, sB, sC]
     refine region_k [(gt, [.int .i64 tx, .int .i64 ty], 26)] hM (by kernel_rfl) ?_; (clear hM; intro W hM)
     refine dP 0 hM ?_
     try simp only [pS, pN, sA, sB, sC]
     first | refine dL 1 hM ?_ | refine dM 1 hM ?_
     try simp only [pS, pN, sA, sB, sC]
     refine dP 2 hM ?_
     try simp only [pS, pN, sA, sB, sC]
     refine dP 3 hM ?_
     try simp only [pS, pN, sA, sB, sC]
     refine dP 4 hM ?_
     try simp only [pS, pN, sA, sB, sC]
     refine dC 5 (fun K' hK' => ?_)
     refine oM hM ?_ (hC := part_row hpre.out (by ((repeat constructor) <;> fail)))
     refine hK_out hK' hM ?_
     clear hK' K'
     try simp only [pS, pN, sA, sB, sC]
     refine dC 6 (fun K' hK' => ?_)
     go_wp2_with (first | (go_at_call 28; (with_reducible refine cb hM (CC _) ?_); clear hM; intro W1 hM))
     refine hK_out hK' hM ?_
     clear hK' K'
     try simp only [pS, pN, sA, sB, sC]
     refine dP 7 hM ?_
     try simp only [pS, pN, sA, sB, sC]
     refine dP 8 hM ?_
     try simp only [pS, pN, sA, sB, sC]
     refine dP 9 hM ?_
     try simp only [pS, pN, sA, sB, sC]
     refine dP 10 hM ?_
     try simp only [pS, pN, sA, sB, sC]
     refine dP 11 hM ?_
     try simp only [pS, pN, sA, sB, sC]
     refine dC 12 (fun K' hK' => ?_)
     refine oS hM ?_ (hc := spl_row hpre.out (by ((repeat constructor) <;> fail)))
     clear hM; intro W hM
     refine hK_out hK' hM ?_
     clear hK' K'
     try simp only [pS, pN, sA, sB, sC]
     refine tk_done (by kernel_rfl) ?_
     go_upto_region 21 with (first | ((with_reducible refine lX ?_); first | refine aL hM rfl rfl ?_ | refine aM hM rfl rfl ?_) | ((with_reducible refine sX ?_); refine aS hM rfl rfl rfl ?_; clear hM; intro W hM) | ((with_reducible refine bX ?_); refine aB hM rfl rfl ?_; clear hM; intro g W hM) | ((with_reducible refine zX ?_); refine aN hM rfl rfl ?_; clear hM; intro g W hM))
     try simp only [pS, pN, sA, sB, sC]
     refine region_k [(gt, [.int .i64 tx, .int .i64 ty], 26)] hM (by kernel_rfl) ?_; (clear hM; intro W hM)
     refine dP 0 hM ?_
     try simp only [pS, pN, sA, sB, sC]
     refine dP 1 hM ?_
     try simp only [pS, pN, sA, sB, sC]
     refine dP 2 hM ?_
     try simp only [pS, pN, sA, sB, sC]
     refine dP 3 hM ?_
     try simp only [pS, pN, sA, sB, sC]
     refine dP 4 hM ?_
     try simp only [pS, pN, sA, sB, sC]
     first | refine dL 6 hM ?_ | refine dM 6 hM ?_
     try simp only [pS, pN, sA, sB, sC]
     refine dP 7 hM ?_
     try simp only [pS, pN, sA, sB, sC]
     refine dP 8 hM ?_
     try simp only [pS, pN, sA, sB, sC]
     refine dP 9 hM ?_
     try simp only [pS, pN, sA, sB, sC]
     refine dT 5 10 (fun K' hK' => ?_) (fun K' hK' => ?_)
     ·
      refine oL hM ?_ (hv := row1 hpre.out rfl)
      refine hK_out hK' hM ?_
      clear hK' K'
      try simp only [pS, pN, sA, sB, sC]
      refine dC 10 (fun K' hK' => ?_)
      refine oM hM ?_ (hC := part_row hpre.out (by ((repeat constructor) <;> fail)))
      refine hK_out hK' hM ?_
      clear hK' K'
      try simp only [pS, pN, sA, sB, sC]
      refine dC 11 (fun K' hK' => ?_)
      go_wp2_with (first | (go_at_call 18; (with_reducible refine cb hM (DC _) ?_); clear hM; intro W1 hM))
      refine hK_out hK' hM ?_
      clear hK' K'
      try simp only [pS, pN, sA, sB, sC]
      refine dP 12 hM ?_
      try simp only [pS, pN, sA, sB, sC]
      refine dP 13 hM ?_
      try simp only [pS, pN, sA, sB, sC]
      refine dC 14 (fun K' hK' => ?_)
      refine oS hM ?_ (hc := spl_row hpre.out (by ((repeat constructor) <;> fail)))
      clear hM; intro W hM
      refine hK_out hK' hM ?_
      clear hK' K'
      try simp only [pS, pN, sA, sB, sC]
      refine dP 15 hM ?_
      try simp only [pS, pN, sA, sB, sC]
      refine dP 16 hM ?_
      try simp only [pS, pN, sA, sB, sC]
      refine dC 17 (fun K' hK' => ?_)
      refine oS hM ?_ (hc := spl_row hpre.out (by ((repeat constructor) <;> fail)))
      clear hM; intro W hM
      refine hK_out hK' hM ?_
      clear hK' K'
      try simp only [pS, pN, sA, sB, sC]
      refine tk_done (by kernel_rfl) ?_
      go_wp2_with (first | ((with_reducible refine lX ?_); first | refine aL hM rfl rfl ?_ | refine aM hM rfl rfl ?_) | ((with_reducible refine sX ?_); refine aS hM rfl rfl rfl ?_; clear hM; intro W hM) | ((with_reducible refine bX ?_); refine aB hM rfl rfl ?_; clear hM; intro g W hM) | ((with_reducible refine zX ?_); refine aN hM rfl rfl ?_; clear hM; intro g W hM))
      all_goals
       have e2 : (t.map (·.1)).getD d = d2 := by rw [HN.out, Option.map_some, Option.getD_some, hd1.out, hd2.out]
       have e3 : t.isSome = true := by rw [HN.out, Option.isSome_some]
       have e4 : ((t.map (·.2)).getD y).cells = [.int .u8 y.k, .int .i64 tx, .int .i64 ty, .int .i64 y.bx, .int .i64 y.b_y, .int .i64 y.cx, .int .i64 y.cy, .int .i64 y.r, .int .i64 y.f, .int .i64 y.s, .int .i64 c1, .int .i64 c1, .int .i64 k1, .int .i64 y.n, .bool y.g] := by rw [HN.out, Option.map_some, Option.getD_some]; rfl
       (go_ret; exact ⟨by rw [e3]; rfl, V2, B2, by rw [e2]; exact hO2.out, by rw [e2, e4]; exact mem_tl (mem_tl (mem_tl (mem_tl hM)))⟩)
     ·
      refine oM hM ?_ (hC := part_row hpre.out (by ((repeat constructor) <;> fail)))
      refine hK_out hK' hM ?_
      clear hK' K'
      try simp only [pS, pN, sA, sB, sC]
      refine dT 5 11 (fun K' hK' => ?_) (fun K' hK' => ?_)
      ·
       refine oL hM ?_ (hv := row1 hpre.out rfl)
       refine hK_out hK' hM ?_
       clear hK' K'
       try simp only [pS, pN, sA, sB, sC]
       refine dC 11 (fun K' hK' => ?_)
       go_wp2_with (first | (go_at_call 18; (with_reducible refine cb hM (DC _) ?_); clear hM; intro W1 hM))
       refine hK_out hK' hM ?_
       clear hK' K'
       try simp only [pS, pN, sA, sB, sC]
       refine dP 12 hM ?_
       try simp only [pS, pN, sA, sB, sC]
       refine dP 13 hM ?_
       try simp only [pS, pN, sA, sB, sC]
       refine dC 14 (fun K' hK' => ?_)
       refine oS hM ?_ (hc := spl_row hpre.out (by ((repeat constructor) <;> fail)))
       clear hM; intro W hM
       refine hK_out hK' hM ?_
       clear hK' K'
       try simp only [pS, pN, sA, sB, sC]
       refine dP 15 hM ?_
       try simp only [pS, pN, sA, sB, sC]
       refine dP 16 hM ?_
       try simp only [pS, pN, sA, sB, sC]
       refine dC 17 (fun K' hK' => ?_)
       refine oS hM ?_ (hc := spl_row hpre.out (by ((repeat constructor) <;> fail)))
       clear hM; intro W hM
       refine hK_out hK' hM ?_
       clear hK' K'
       try simp only [pS, pN, sA, sB, sC]
       refine tk_done (by kernel_rfl) ?_
       go_wp2_with (first | ((with_reducible refine lX ?_); first | refine aL hM rfl rfl ?_ | refine aM hM rfl rfl ?_) | ((with_reducible refine sX ?_); refine aS hM rfl rfl rfl ?_; clear hM; intro W hM) | ((with_reducible refine bX ?_); refine aB hM rfl rfl ?_; clear hM; intro g W hM) | ((with_reducible refine zX ?_); refine aN hM rfl rfl ?_; clear hM; intro g W hM))
       all_goals
        have e2 : (t.map (·.1)).getD d = d2 := by rw [HN.out, Option.map_some, Option.getD_some, hd1.out, hd2.out]
        have e3 : t.isSome = true := by rw [HN.out, Option.isSome_some]
        have e4 : ((t.map (·.2)).getD y).cells = [.int .u8 y.k, .int .i64 tx, .int .i64 ty, .int .i64 y.bx, .int .i64 y.b_y, .int .i64 y.cx, .int .i64 y.cy, .int .i64 y.r, .int .i64 y.f, .int .i64 y.s, .int .i64 c1, .int .i64 c1, .int .i64 k1, .int .i64 y.n, .bool y.g] := by rw [HN.out, Option.map_some, Option.getD_some]; rfl
        (go_ret; exact ⟨by rw [e3]; rfl, V2, B2, by rw [e2]; exact hO2.out, by rw [e2, e4]; exact mem_tl (mem_tl (mem_tl (mem_tl hM)))⟩)
      ·
       go_wp2_with (first | (go_at_call 18; (with_reducible refine cb hM (DC _) ?_); clear hM; intro W1 hM))
       refine hK_out hK' hM ?_
       clear hK' K'
       try simp only [pS, pN, sA, sB, sC]
       refine dC 5 (fun K' hK' => ?_)
       refine oL hM ?_ (hv := row1 hpre.out rfl)
       refine hK_out hK' hM ?_
       clear hK' K'
       try simp only [pS, pN, sA, sB, sC]
       refine dP 12 hM ?_
       try simp only [pS, pN, sA, sB, sC]
       refine dP 13 hM ?_
       try simp only [pS, pN, sA, sB, sC]
       refine dC 14 (fun K' hK' => ?_)
       refine oS hM ?_ (hc := spl_row hpre.out (by ((repeat constructor) <;> fail)))
       clear hM; intro W hM
       refine hK_out hK' hM ?_
       clear hK' K'
       try simp only [pS, pN, sA, sB, sC]
       refine dP 15 hM ?_
       try simp only [pS, pN, sA, sB, sC]
       refine dP 16 hM ?_
       try simp only [pS, pN, sA, sB, sC]
       refine dC 17 (fun K' hK' => ?_)
       refine oS hM ?_ (hc := spl_row hpre.out (by ((repeat constructor) <;> fail)))
       clear hM; intro W hM
       refine hK_out hK' hM ?_
       clear hK' K'
       try simp only [pS, pN, sA, sB, sC]
       refine tk_done (by kernel_rfl) ?_
       go_wp2_with (first | ((with_reducible refine lX ?_); first | refine aL hM rfl rfl ?_ | refine aM hM rfl rfl ?_) | ((with_reducible refine sX ?_); refine aS hM rfl rfl rfl ?_; clear hM; intro W hM) | ((with_reducible refine bX ?_); refine aB hM rfl rfl ?_; clear hM; intro g W hM) | ((with_reducible refine zX ?_); refine aN hM rfl rfl ?_; clear hM; intro g W hM))
       all_goals
        have e2 : (t.map (·.1)).getD d = d2 := by rw [HN.out, Option.map_some, Option.getD_some, hd1.out, hd2.out]
        have e3 : t.isSome = true := by rw [HN.out, Option.isSome_some]
        have e4 : ((t.map (·.2)).getD y).cells = [.int .u8 y.k, .int .i64 tx, .int .i64 ty, .int .i64 y.bx, .int .i64 y.b_y, .int .i64 y.cx, .int .i64 y.cy, .int .i64 y.r, .int .i64 y.f, .int .i64 y.s, .int .i64 c1, .int .i64 c1, .int .i64 k1, .int .i64 y.n, .bool y.g] := by rw [HN.out, Option.map_some, Option.getD_some]; rfl
        (go_ret; exact ⟨by rw [e3]; rfl, V2, B2, by rw [e2]; exact hO2.out, by rw [e2, e4]; exact mem_tl (mem_tl (mem_tl (mem_tl hM)))⟩)
     )
  ·
   refine oN hM ?_
   clear hM; intro g12 W hM
   refine hK_out hK' hM ?_
   clear hK' K'
   try simp only [pS, pN, sA, sB, sC]
   refine dC 10 (fun K' hK' => ?_)
   go_wp2_with (first | (go_at_call 122; (with_reducible refine cb hM (TA _) ?_); clear hM; intro W1 hM))
   refine hK_out hK' hM ?_
   clear hK' K'
   try simp only [pS, pN, sA, sB, sC]
   refine dP 11 hM ?_
   try simp only [pS, pN, sA, sB, sC]
   refine dP 12 hM ?_
   try simp only [pS, pN, sA, sB, sC]
   refine dP 13 hM ?_
   try simp only [pS, pN, sA, sB, sC]
   refine dC 15 (fun K' hK' => ?_)
   refine oS hM ?_
   clear hM; intro W hM
   refine hK_out hK' hM ?_
   clear hK' K'
   try simp only [pS, pN, sA, sB, sC]
   refine dP 16 hM ?_
   try simp only [pS, pN, sA, sB, sC]
   refine tk_done (by kernel_rfl) ?_
   obtain ⟨gt, rfl⟩ : ∃ gt, gt = g12 := ⟨_, rfl⟩
   by_cases he2 : e2 = 0
   rotate_left 1
   · have hn : t = none := ht.out.trans (fo_tan HD.out HB.out h0 HR1.out HT2.out he2)
     have he2' : (e2 != 0) = true := by simpa using he2
     clear he2 ht
     go_wp2_with (first | ((with_reducible refine lX ?_); first | refine aL hM rfl rfl ?_ | refine aM hM rfl rfl ?_) | ((with_reducible refine sX ?_); refine aS hM rfl rfl rfl ?_; clear hM; intro W hM) | ((with_reducible refine bX ?_); refine aB hM rfl rfl ?_; clear hM; intro g W hM) | ((with_reducible refine zX ?_); refine aN hM rfl rfl ?_; clear hM; intro g W hM))
     all_goals
      (go_ret; exact ⟨by rw [hn]; rfl, V, B, by rw [hn]; exact ⟨hO.out.1, Nat.le_trans hO.out.2 (by omega)⟩, by rw [hn]; exact mem_tl (mem_tl (mem_tl (hM)))⟩)
   subst he2
   obtain ⟨v0, v1, v2, v3, v4, e3, ha3⟩ := ar_cells x.bx x.b_y kx ky tx ty right
   have AO := fun W => around_s x.bx x.b_y kx ky tx ty b right hbr W v0 v1 v2 v3 v4 e3 ha3.symm
   have HT := hide (ht.out.trans (fo_end HD.out HB.out h0 HR1.out HT2.out ha3))
   clear ha3 ht HD HB HR1 HT2 TA hbr HF
   by_cases he3 : e3 = 0
   rotate_left 1
   · have hn : t = none := by rw [HT.out, if_pos he3]
     have he3' : (e3 != 0) = true := by simpa using he3
     clear he3 HT
     go_wp2_with (first | (go_at_call 123; (with_reducible refine cb hM (AO _) ?_); clear hM; intro W1 hM) | ((with_reducible refine lX ?_); first | refine aL hM rfl rfl ?_ | refine aM hM rfl rfl ?_) | ((with_reducible refine sX ?_); refine aS hM rfl rfl rfl ?_; clear hM; intro W hM) | ((with_reducible refine bX ?_); refine aB hM rfl rfl ?_; clear hM; intro g W hM) | ((with_reducible refine zX ?_); refine aN hM rfl rfl ?_; clear hM; intro g W hM))
     all_goals
      (go_ret; exact ⟨by rw [hn]; rfl, V, B, by rw [hn]; exact ⟨hO.out.1, Nat.le_trans hO.out.2 (by omega)⟩, by rw [hn]; exact mem_tl (mem_tl (mem_tl (mem_tl (hM))))⟩)
   subst he3
   have HT3 := hide (HT.out.trans (if_neg (by simp)))
   clear HT
   go_upto_region 17 with (first | (go_at_call 123; (with_reducible refine cb hM (AO _) ?_); clear hM; intro W1 hM) | (go_at_call 24; (with_reducible refine cD hM (fun R' hM' => line_d x.bx x.b_y x.n hM' hO) ?_); clear hM hO; intro d1 V1 B1 W1 hd1 hO1 hM; simp only [List.cons_append, List.nil_append] at hM) | ((with_reducible refine lX ?_); first | refine aL hM rfl rfl ?_ | refine aM hM rfl rfl ?_) | ((with_reducible refine sX ?_); refine aS hM rfl rfl rfl ?_; clear hM; intro W hM) | ((with_reducible refine bX ?_); refine aB hM rfl rfl ?_; clear hM; intro g W hM) | ((with_reducible refine zX ?_); refine aN hM rfl rfl ?_; clear hM; intro g W hM))
   try simp only [pS, pN, sA, sB, sC]
   obtain ⟨ga, rfl⟩ : ∃ ga, ga = g := ⟨_, rfl⟩
   refine region_k [(ga, [.int .i64 v0, .int .i64 v1, .int .i64 v2, .int .i64 v3, .int .i64 v4], 46), (gt, [.int .i64 tx, .int .i64 ty], 26), (gT, pre ++ mid [.int .u8 y.k, .int .i64 y.ax, .int .i64 y.ay, .int .i64 y.bx, .int .i64 y.b_y, .int .i64 y.cx, .int .i64 y.cy, .int .i64 y.r, .int .i64 y.f, .int .i64 y.s, .int .i64 y.ci, .int .i64 y.co, .int .i64 y.len, .int .i64 y.n, .bool y.g] post, 77)] hM (by kernel_rfl) ?_; (clear hM; intro W hM)
   refine dP 0 hM ?_
   try simp only [pS, pN, sA, sB, sC]
   first | refine dL 1 hM ?_ | refine dM 1 hM ?_
   try simp only [pS, pN, sA, sB, sC]
   first | refine dL 2 hM ?_ | refine dM 2 hM ?_
   try simp only [pS, pN, sA, sB, sC]
   refine dP 3 hM ?_
   try simp only [pS, pN, sA, sB, sC]
   refine dP 4 hM ?_
   try simp only [pS, pN, sA, sB, sC]
   refine dP 5 hM ?_
   try simp only [pS, pN, sA, sB, sC]
   refine dL 6 hM ?_ (hv := row1 hpre.out rfl)
   try simp only [pS, pN, sA, sB, sC]
   refine dC 7 (fun K' hK' => ?_)
   go_wp2_with (first | (go_at_call 25; (with_reducible refine cD hM (fun R' hM' => arc_d v0 v1 v2 v3 v4 tx ty y.n hM' hO1) ?_); clear hM hO1; intro d2 V2 B2 W2 hd2 hO2 hM; simp only [List.cons_append, List.nil_append] at hM))
   refine hK_out hK' hM ?_
   clear hK' K'
   try simp only [pS, pN, sA, sB, sC]
   refine tk_done (by kernel_rfl) ?_
   go_upto_region 18 with (first | ((with_reducible refine lX ?_); first | refine aL hM rfl rfl ?_ | refine aM hM rfl rfl ?_) | ((with_reducible refine sX ?_); refine aS hM rfl rfl rfl ?_; clear hM; intro W hM) | ((with_reducible refine bX ?_); refine aB hM rfl rfl ?_; clear hM; intro g W hM) | ((with_reducible refine zX ?_); refine aN hM rfl rfl ?_; clear hM; intro g W hM))
   try simp only [pS, pN, sA, sB, sC]
   refine region_k [(gt, [.int .i64 tx, .int .i64 ty], 26)] hM (by kernel_rfl) ?_; (clear hM; intro W hM)
   refine dP 0 hM ?_
   try simp only [pS, pN, sA, sB, sC]
   refine dP 1 hM ?_
   try simp only [pS, pN, sA, sB, sC]
   refine dP 2 hM ?_
   try simp only [pS, pN, sA, sB, sC]
   first | refine dL 3 hM ?_ | refine dM 3 hM ?_
   try simp only [pS, pN, sA, sB, sC]
   refine dP 4 hM ?_
   try simp only [pS, pN, sA, sB, sC]
   refine dP 5 hM ?_
   try simp only [pS, pN, sA, sB, sC]
   refine dP 6 hM ?_
   try simp only [pS, pN, sA, sB, sC]
   refine dC 7 (fun K' hK' => ?_)
   refine oL hM ?_ (hv := row1 hpre.out rfl)
   refine hK_out hK' hM ?_
   clear hK' K'
   try simp only [pS, pN, sA, sB, sC]
   refine dP 8 hM ?_
   try simp only [pS, pN, sA, sB, sC]
   refine dP 9 hM ?_
   try simp only [pS, pN, sA, sB, sC]
   refine dC 10 (fun K' hK' => ?_)
   refine oS hM ?_ (hc := spl_row hpre.out (by ((repeat constructor) <;> fail)))
   clear hM; intro W hM
   refine hK_out hK' hM ?_
   clear hK' K'
   try simp only [pS, pN, sA, sB, sC]
   refine dP 11 hM ?_
   try simp only [pS, pN, sA, sB, sC]
   refine dP 12 hM ?_
   try simp only [pS, pN, sA, sB, sC]
   refine dC 13 (fun K' hK' => ?_)
   refine oS hM ?_ (hc := spl_row hpre.out (by ((repeat constructor) <;> fail)))
   clear hM; intro W hM
   refine hK_out hK' hM ?_
   clear hK' K'
   try simp only [pS, pN, sA, sB, sC]
   refine dP 14 hM ?_
   try simp only [pS, pN, sA, sB, sC]
   refine dP 15 hM ?_
   try simp only [pS, pN, sA, sB, sC]
   refine dC 16 (fun K' hK' => ?_)
   refine oS hM ?_ (hc := spl_row hpre.out (by ((repeat constructor) <;> fail)))
   clear hM; intro W hM
   refine hK_out hK' hM ?_
   clear hK' K'
   try simp only [pS, pN, sA, sB, sC]
   refine tk_done (by kernel_rfl) ?_
   go_upto_region 19 with (first | ((with_reducible refine lX ?_); first | refine aL hM rfl rfl ?_ | refine aM hM rfl rfl ?_) | ((with_reducible refine sX ?_); refine aS hM rfl rfl rfl ?_; clear hM; intro W hM) | ((with_reducible refine bX ?_); refine aB hM rfl rfl ?_; clear hM; intro g W hM) | ((with_reducible refine zX ?_); refine aN hM rfl rfl ?_; clear hM; intro g W hM))
   try simp only [pS, pN, sA, sB, sC]
   by_cases hq : tx = y.bx ∧ ty = y.b_y
   · have hq1 := hq.1
     have hq2 := hq.2
     refine region_k [(gt, [.int .i64 tx, .int .i64 ty], 26), (gT, pre ++ mid [.int .u8 y.k, .int .i64 tx, .int .i64 ty, .int .i64 y.bx, .int .i64 y.b_y, .int .i64 y.cx, .int .i64 y.cy, .int .i64 y.r, .int .i64 y.f, .int .i64 y.s, .int .i64 y.ci, .int .i64 y.ci, .int .i64 0, .int .i64 y.n, .bool y.g] post, 77)] hM (by kernel_rfl) ?_; (clear hM; intro W hM)
     first | refine dL 0 hM ?_ | refine dM 0 hM ?_
     try simp only [pS, pN, sA, sB, sC]
     refine dP 1 hM ?_
     try simp only [pS, pN, sA, sB, sC]
     refine dP 2 hM ?_
     try simp only [pS, pN, sA, sB, sC]
     refine dP 3 hM ?_
     try simp only [pS, pN, sA, sB, sC]
     refine dM 4 hM ?_ (hC := part_row hpre.out (by ((repeat constructor) <;> fail)))
     try simp only [pS, pN, sA, sB, sC]
     refine dP 5 (v := .bool false) hM ?_ (hv := by (intro W0; go_simp; (try rw [if_pos hq1, if_pos hq2])))
     try simp only [pS, pN, sA, sB, sC]
     refine tk_done (by kernel_rfl) ?_
     have HN := hide (show t = some (arcD (lineW d x.bx x.b_y x.n) v0 v1 v2 v3 v4 tx ty y.n, { y with ax := tx, ay := ty, co := y.ci, len := 0 }) by rw [HT3.out, if_pos hq])
     go_wp2_with (first | ((with_reducible refine lX ?_); first | refine aL hM rfl rfl ?_ | refine aM hM rfl rfl ?_) | ((with_reducible refine sX ?_); refine aS hM rfl rfl rfl ?_; clear hM; intro W hM) | ((with_reducible refine bX ?_); refine aB hM rfl rfl ?_; clear hM; intro g W hM) | ((with_reducible refine zX ?_); refine aN hM rfl rfl ?_; clear hM; intro g W hM))
     all_goals
      have e2 : (t.map (·.1)).getD d = d2 := by rw [HN.out, Option.map_some, Option.getD_some, hd1.out, hd2.out]
      have e3 : t.isSome = true := by rw [HN.out, Option.isSome_some]
      have e4 : ((t.map (·.2)).getD y).cells = [.int .u8 y.k, .int .i64 tx, .int .i64 ty, .int .i64 y.bx, .int .i64 y.b_y, .int .i64 y.cx, .int .i64 y.cy, .int .i64 y.r, .int .i64 y.f, .int .i64 y.s, .int .i64 y.ci, .int .i64 y.ci, .int .i64 0, .int .i64 y.n, .bool y.g] := by rw [HN.out, Option.map_some, Option.getD_some]; rfl
      (go_ret; exact ⟨by rw [e3]; rfl, V2, B2, by rw [e2]; exact hO2.out, by rw [e2, e4]; exact mem_tl (mem_tl (mem_tl (mem_tl hM)))⟩)
   · (
     refine region_k [(gt, [.int .i64 tx, .int .i64 ty], 26), (gT, pre ++ mid [.int .u8 y.k, .int .i64 tx, .int .i64 ty, .int .i64 y.bx, .int .i64 y.b_y, .int .i64 y.cx, .int .i64 y.cy, .int .i64 y.r, .int .i64 y.f, .int .i64 y.s, .int .i64 y.ci, .int .i64 y.ci, .int .i64 0, .int .i64 y.n, .bool y.g] post, 77)] hM (by kernel_rfl) ?_; (clear hM; intro W hM)
     first | refine dL 0 hM ?_ | refine dM 0 hM ?_
     try simp only [pS, pN, sA, sB, sC]
     refine dP 1 hM ?_
     try simp only [pS, pN, sA, sB, sC]
     refine dP 2 hM ?_
     try simp only [pS, pN, sA, sB, sC]
     refine dP 3 hM ?_
     try simp only [pS, pN, sA, sB, sC]
     refine dM 4 hM ?_ (hC := part_row hpre.out (by ((repeat constructor) <;> fail)))
     try simp only [pS, pN, sA, sB, sC]
     refine dP 5 (v := .bool true) hM ?_ (hv := by (intro W0; go_simp; exact fun h1 h2 => hq ⟨h1, h2⟩))
     try simp only [pS, pN, sA, sB, sC]
     refine tk_done (by kernel_rfl) ?_
     have CC := fun W => course_any tx ty y.bx y.b_y W
     have DC := fun W => dist_any tx ty y.bx y.b_y W
     obtain ⟨c1, hc1⟩ : ∃ c1, (courseF tx ty y.bx y.b_y).1 = c1 := ⟨_, rfl⟩
     obtain ⟨k1, hk1⟩ : ∃ k1, distF tx ty y.bx y.b_y = k1 := ⟨_, rfl⟩
     have HN := hide (show t = some (arcD (lineW d x.bx x.b_y x.n) v0 v1 v2 v3 v4 tx ty y.n, { y with ax := tx, ay := ty, ci := c1, co := c1, len := k1 }) by rw [HT3.out, if_neg hq, hc1, hk1])
     rw [hc1] at CC
     rw [hk1] at DC
     clear hc1 hk1 HT3 hq
     go_upto_region 20 with (first | ((with_reducible refine lX ?_); first | refine aL hM rfl rfl ?_ | refine aM hM rfl rfl ?_) | ((with_reducible refine sX ?_); refine aS hM rfl rfl rfl ?_; clear hM; intro W hM) | ((with_reducible refine bX ?_); refine aB hM rfl rfl ?_; clear hM; intro g W hM) | ((with_reducible refine zX ?_); refine aN hM rfl rfl ?_; clear hM; intro g W hM))
     try simp only [pS, pN, sA, sB, sC]
     refine region_k [(gt, [.int .i64 tx, .int .i64 ty], 26)] hM (by kernel_rfl) ?_; (clear hM; intro W hM)
     refine dP 0 hM ?_
     try simp only [pS, pN, sA, sB, sC]
     first | refine dL 1 hM ?_ | refine dM 1 hM ?_
     try simp only [pS, pN, sA, sB, sC]
     refine dP 2 hM ?_
     try simp only [pS, pN, sA, sB, sC]
     refine dP 3 hM ?_
     try simp only [pS, pN, sA, sB, sC]
     refine dP 4 hM ?_
     try simp only [pS, pN, sA, sB, sC]
     refine dC 5 (fun K' hK' => ?_)
     refine oM hM ?_ (hC := part_row hpre.out (by ((repeat constructor) <;> fail)))
     refine hK_out hK' hM ?_
     clear hK' K'
     try simp only [pS, pN, sA, sB, sC]
     refine dC 6 (fun K' hK' => ?_)
     go_wp2_with (first | (go_at_call 28; (with_reducible refine cb hM (CC _) ?_); clear hM; intro W1 hM))
     refine hK_out hK' hM ?_
     clear hK' K'
     try simp only [pS, pN, sA, sB, sC]
     refine dP 7 hM ?_
     try simp only [pS, pN, sA, sB, sC]
     refine dP 8 hM ?_
     try simp only [pS, pN, sA, sB, sC]
     refine dP 9 hM ?_
     try simp only [pS, pN, sA, sB, sC]
     refine dP 10 hM ?_
     try simp only [pS, pN, sA, sB, sC]
     refine dP 11 hM ?_
     try simp only [pS, pN, sA, sB, sC]
     refine dC 12 (fun K' hK' => ?_)
     refine oS hM ?_ (hc := spl_row hpre.out (by ((repeat constructor) <;> fail)))
     clear hM; intro W hM
     refine hK_out hK' hM ?_
     clear hK' K'
     try simp only [pS, pN, sA, sB, sC]
     refine tk_done (by kernel_rfl) ?_
     go_upto_region 21 with (first | ((with_reducible refine lX ?_); first | refine aL hM rfl rfl ?_ | refine aM hM rfl rfl ?_) | ((with_reducible refine sX ?_); refine aS hM rfl rfl rfl ?_; clear hM; intro W hM) | ((with_reducible refine bX ?_); refine aB hM rfl rfl ?_; clear hM; intro g W hM) | ((with_reducible refine zX ?_); refine aN hM rfl rfl ?_; clear hM; intro g W hM))
     try simp only [pS, pN, sA, sB, sC]
     refine region_k [(gt, [.int .i64 tx, .int .i64 ty], 26)] hM (by kernel_rfl) ?_; (clear hM; intro W hM)
     refine dP 0 hM ?_
     try simp only [pS, pN, sA, sB, sC]
     refine dP 1 hM ?_
     try simp only [pS, pN, sA, sB, sC]
     refine dP 2 hM ?_
     try simp only [pS, pN, sA, sB, sC]
     refine dP 3 hM ?_
     try simp only [pS, pN, sA, sB, sC]
     refine dP 4 hM ?_
     try simp only [pS, pN, sA, sB, sC]
     first | refine dL 6 hM ?_ | refine dM 6 hM ?_
     try simp only [pS, pN, sA, sB, sC]
     refine dP 7 hM ?_
     try simp only [pS, pN, sA, sB, sC]
     refine dP 8 hM ?_
     try simp only [pS, pN, sA, sB, sC]
     refine dP 9 hM ?_
     try simp only [pS, pN, sA, sB, sC]
     refine dT 5 10 (fun K' hK' => ?_) (fun K' hK' => ?_)
     ·
      refine oL hM ?_ (hv := row1 hpre.out rfl)
      refine hK_out hK' hM ?_
      clear hK' K'
      try simp only [pS, pN, sA, sB, sC]
      refine dC 10 (fun K' hK' => ?_)
      refine oM hM ?_ (hC := part_row hpre.out (by ((repeat constructor) <;> fail)))
      refine hK_out hK' hM ?_
      clear hK' K'
      try simp only [pS, pN, sA, sB, sC]
      refine dC 11 (fun K' hK' => ?_)
      go_wp2_with (first | (go_at_call 18; (with_reducible refine cb hM (DC _) ?_); clear hM; intro W1 hM))
      refine hK_out hK' hM ?_
      clear hK' K'
      try simp only [pS, pN, sA, sB, sC]
      refine dP 12 hM ?_
      try simp only [pS, pN, sA, sB, sC]
      refine dP 13 hM ?_
      try simp only [pS, pN, sA, sB, sC]
      refine dC 14 (fun K' hK' => ?_)
      refine oS hM ?_ (hc := spl_row hpre.out (by ((repeat constructor) <;> fail)))
      clear hM; intro W hM
      refine hK_out hK' hM ?_
      clear hK' K'
      try simp only [pS, pN, sA, sB, sC]
      refine dP 15 hM ?_
      try simp only [pS, pN, sA, sB, sC]
      refine dP 16 hM ?_
      try simp only [pS, pN, sA, sB, sC]
      refine dC 17 (fun K' hK' => ?_)
      refine oS hM ?_ (hc := spl_row hpre.out (by ((repeat constructor) <;> fail)))
      clear hM; intro W hM
      refine hK_out hK' hM ?_
      clear hK' K'
      try simp only [pS, pN, sA, sB, sC]
      refine tk_done (by kernel_rfl) ?_
      go_wp2_with (first | ((with_reducible refine lX ?_); first | refine aL hM rfl rfl ?_ | refine aM hM rfl rfl ?_) | ((with_reducible refine sX ?_); refine aS hM rfl rfl rfl ?_; clear hM; intro W hM) | ((with_reducible refine bX ?_); refine aB hM rfl rfl ?_; clear hM; intro g W hM) | ((with_reducible refine zX ?_); refine aN hM rfl rfl ?_; clear hM; intro g W hM))
      all_goals
       have e2 : (t.map (·.1)).getD d = d2 := by rw [HN.out, Option.map_some, Option.getD_some, hd1.out, hd2.out]
       have e3 : t.isSome = true := by rw [HN.out, Option.isSome_some]
       have e4 : ((t.map (·.2)).getD y).cells = [.int .u8 y.k, .int .i64 tx, .int .i64 ty, .int .i64 y.bx, .int .i64 y.b_y, .int .i64 y.cx, .int .i64 y.cy, .int .i64 y.r, .int .i64 y.f, .int .i64 y.s, .int .i64 c1, .int .i64 c1, .int .i64 k1, .int .i64 y.n, .bool y.g] := by rw [HN.out, Option.map_some, Option.getD_some]; rfl
       (go_ret; exact ⟨by rw [e3]; rfl, V2, B2, by rw [e2]; exact hO2.out, by rw [e2, e4]; exact mem_tl (mem_tl (mem_tl (mem_tl hM)))⟩)
     ·
      refine oM hM ?_ (hC := part_row hpre.out (by ((repeat constructor) <;> fail)))
      refine hK_out hK' hM ?_
      clear hK' K'
      try simp only [pS, pN, sA, sB, sC]
      refine dT 5 11 (fun K' hK' => ?_) (fun K' hK' => ?_)
      ·
       refine oL hM ?_ (hv := row1 hpre.out rfl)
       refine hK_out hK' hM ?_
       clear hK' K'
       try simp only [pS, pN, sA, sB, sC]
       refine dC 11 (fun K' hK' => ?_)
       go_wp2_with (first | (go_at_call 18; (with_reducible refine cb hM (DC _) ?_); clear hM; intro W1 hM))
       refine hK_out hK' hM ?_
       clear hK' K'
       try simp only [pS, pN, sA, sB, sC]
       refine dP 12 hM ?_
       try simp only [pS, pN, sA, sB, sC]
       refine dP 13 hM ?_
       try simp only [pS, pN, sA, sB, sC]
       refine dC 14 (fun K' hK' => ?_)
       refine oS hM ?_ (hc := spl_row hpre.out (by ((repeat constructor) <;> fail)))
       clear hM; intro W hM
       refine hK_out hK' hM ?_
       clear hK' K'
       try simp only [pS, pN, sA, sB, sC]
       refine dP 15 hM ?_
       try simp only [pS, pN, sA, sB, sC]
       refine dP 16 hM ?_
       try simp only [pS, pN, sA, sB, sC]
       refine dC 17 (fun K' hK' => ?_)
       refine oS hM ?_ (hc := spl_row hpre.out (by ((repeat constructor) <;> fail)))
       clear hM; intro W hM
       refine hK_out hK' hM ?_
       clear hK' K'
       try simp only [pS, pN, sA, sB, sC]
       refine tk_done (by kernel_rfl) ?_
       go_wp2_with (first | ((with_reducible refine lX ?_); first | refine aL hM rfl rfl ?_ | refine aM hM rfl rfl ?_) | ((with_reducible refine sX ?_); refine aS hM rfl rfl rfl ?_; clear hM; intro W hM) | ((with_reducible refine bX ?_); refine aB hM rfl rfl ?_; clear hM; intro g W hM) | ((with_reducible refine zX ?_); refine aN hM rfl rfl ?_; clear hM; intro g W hM))
       all_goals
        have e2 : (t.map (·.1)).getD d = d2 := by rw [HN.out, Option.map_some, Option.getD_some, hd1.out, hd2.out]
        have e3 : t.isSome = true := by rw [HN.out, Option.isSome_some]
        have e4 : ((t.map (·.2)).getD y).cells = [.int .u8 y.k, .int .i64 tx, .int .i64 ty, .int .i64 y.bx, .int .i64 y.b_y, .int .i64 y.cx, .int .i64 y.cy, .int .i64 y.r, .int .i64 y.f, .int .i64 y.s, .int .i64 c1, .int .i64 c1, .int .i64 k1, .int .i64 y.n, .bool y.g] := by rw [HN.out, Option.map_some, Option.getD_some]; rfl
        (go_ret; exact ⟨by rw [e3]; rfl, V2, B2, by rw [e2]; exact hO2.out, by rw [e2, e4]; exact mem_tl (mem_tl (mem_tl (mem_tl hM)))⟩)
      ·
       go_wp2_with (first | (go_at_call 18; (with_reducible refine cb hM (DC _) ?_); clear hM; intro W1 hM))
       refine hK_out hK' hM ?_
       clear hK' K'
       try simp only [pS, pN, sA, sB, sC]
       refine dC 5 (fun K' hK' => ?_)
       refine oL hM ?_ (hv := row1 hpre.out rfl)
       refine hK_out hK' hM ?_
       clear hK' K'
       try simp only [pS, pN, sA, sB, sC]
       refine dP 12 hM ?_
       try simp only [pS, pN, sA, sB, sC]
       refine dP 13 hM ?_
       try simp only [pS, pN, sA, sB, sC]
       refine dC 14 (fun K' hK' => ?_)
       refine oS hM ?_ (hc := spl_row hpre.out (by ((repeat constructor) <;> fail)))
       clear hM; intro W hM
       refine hK_out hK' hM ?_
       clear hK' K'
       try simp only [pS, pN, sA, sB, sC]
       refine dP 15 hM ?_
       try simp only [pS, pN, sA, sB, sC]
       refine dP 16 hM ?_
       try simp only [pS, pN, sA, sB, sC]
       refine dC 17 (fun K' hK' => ?_)
       refine oS hM ?_ (hc := spl_row hpre.out (by ((repeat constructor) <;> fail)))
       clear hM; intro W hM
       refine hK_out hK' hM ?_
       clear hK' K'
       try simp only [pS, pN, sA, sB, sC]
       refine tk_done (by kernel_rfl) ?_
       go_wp2_with (first | ((with_reducible refine lX ?_); first | refine aL hM rfl rfl ?_ | refine aM hM rfl rfl ?_) | ((with_reducible refine sX ?_); refine aS hM rfl rfl rfl ?_; clear hM; intro W hM) | ((with_reducible refine bX ?_); refine aB hM rfl rfl ?_; clear hM; intro g W hM) | ((with_reducible refine zX ?_); refine aN hM rfl rfl ?_; clear hM; intro g W hM))
       all_goals
        have e2 : (t.map (·.1)).getD d = d2 := by rw [HN.out, Option.map_some, Option.getD_some, hd1.out, hd2.out]
        have e3 : t.isSome = true := by rw [HN.out, Option.isSome_some]
        have e4 : ((t.map (·.2)).getD y).cells = [.int .u8 y.k, .int .i64 tx, .int .i64 ty, .int .i64 y.bx, .int .i64 y.b_y, .int .i64 y.cx, .int .i64 y.cy, .int .i64 y.r, .int .i64 y.f, .int .i64 y.s, .int .i64 c1, .int .i64 c1, .int .i64 k1, .int .i64 y.n, .bool y.g] := by rw [HN.out, Option.map_some, Option.getD_some]; rfl
        (go_ret; exact ⟨by rw [e3]; rfl, V2, B2, by rw [e2]; exact hO2.out, by rw [e2, e4]; exact mem_tl (mem_tl (mem_tl (mem_tl hM)))⟩)
     )
 ·
  refine oN hM ?_
  clear hM; intro g10 W hM
  refine hK_out hK' hM ?_
  clear hK' K'
  try simp only [pS, pN, sA, sB, sC]
  refine dC 10 (fun K' hK' => ?_)
  go_wp2_with (first | (go_at_call 71; (with_reducible refine cb hM (RY _) ?_); clear hM; intro W1 hM))
  refine hK_out hK' hM ?_
  clear hK' K'
  try simp only [pS, pN, sA, sB, sC]
  refine dP 11 hM ?_
  try simp only [pS, pN, sA, sB, sC]
  refine dP 12 hM ?_
  try simp only [pS, pN, sA, sB, sC]
  refine dP 13 hM ?_
  try simp only [pS, pN, sA, sB, sC]
  refine dC 15 (fun K' hK' => ?_)
  refine oS hM ?_
  clear hM; intro W hM
  refine hK_out hK' hM ?_
  clear hK' K'
  try simp only [pS, pN, sA, sB, sC]
  refine dP 16 hM ?_
  try simp only [pS, pN, sA, sB, sC]
  refine tk_done (by kernel_rfl) ?_
  obtain ⟨gc, rfl⟩ : ∃ gc, gc = g10 := ⟨_, rfl⟩
  by_cases he1 : e1 = 0
  rotate_left 1
  · have hn : t = none := ht.out.trans (fo_ray HD.out h0 HR1.out he1)
    have he1' : (e1 != 0) = true := by simpa using he1
    clear he1 ht
    go_wp2_with (first | ((with_reducible refine lX ?_); first | refine aL hM rfl rfl ?_ | refine aM hM rfl rfl ?_) | ((with_reducible refine sX ?_); refine aS hM rfl rfl rfl ?_; clear hM; intro W hM) | ((with_reducible refine bX ?_); refine aB hM rfl rfl ?_; clear hM; intro g W hM) | ((with_reducible refine zX ?_); refine aN hM rfl rfl ?_; clear hM; intro g W hM))
    all_goals
     (go_ret; exact ⟨by rw [hn]; rfl, V, B, by rw [hn]; exact ⟨hO.out.1, Nat.le_trans hO.out.2 (by omega)⟩, by rw [hn]; exact mem_tl (mem_tl (hM))⟩)
  subst he1
  obtain ⟨tx, ty, e2, ht2⟩ : ∃ tx ty e2, tanF kx ky rad y.bx y.b_y right = (tx, ty, e2) := ⟨_, _, _, rfl⟩
  have TA := fun W => tan_s kx ky rad y.bx y.b_y b right hbr W tx ty e2 (hide ht2.symm)
  have HT2 := hide ht2
  clear ht2 RY
  go_upto_region 10 with (first | ((with_reducible refine lX ?_); first | refine aL hM rfl rfl ?_ | refine aM hM rfl rfl ?_) | ((with_reducible refine sX ?_); refine aS hM rfl rfl rfl ?_; clear hM; intro W hM) | ((with_reducible refine bX ?_); refine aB hM rfl rfl ?_; clear hM; intro g W hM) | ((with_reducible refine zX ?_); refine aN hM rfl rfl ?_; clear hM; intro g W hM))
  try simp only [pS, pN, sA, sB, sC]
  refine region_k [(gc, [.int .i64 kx, .int .i64 ky], 26), (gd, dwC V d rad, 74), (gT, pre ++ mid [.int .u8 y.k, .int .i64 y.ax, .int .i64 y.ay, .int .i64 y.bx, .int .i64 y.b_y, .int .i64 y.cx, .int .i64 y.cy, .int .i64 y.r, .int .i64 y.f, .int .i64 y.s, .int .i64 y.ci, .int .i64 y.co, .int .i64 y.len, .int .i64 y.n, .bool y.g] post, 77)] hM (by kernel_rfl) ?_; (clear hM; intro W hM)
  first | refine dL 0 hM ?_ | refine dM 0 hM ?_
  try simp only [pS, pN, sA, sB, sC]
  refine dP 1 hM ?_
  try simp only [pS, pN, sA, sB, sC]
  refine dP 2 hM ?_
  try simp only [pS, pN, sA, sB, sC]
  refine dP 3 hM ?_
  try simp only [pS, pN, sA, sB, sC]
  first | refine dL 4 hM ?_ | refine dM 4 hM ?_
  try simp only [pS, pN, sA, sB, sC]
  refine dP 5 hM ?_
  try simp only [pS, pN, sA, sB, sC]
  refine dP 6 hM ?_
  try simp only [pS, pN, sA, sB, sC]
  refine dP 7 hM ?_
  try simp only [pS, pN, sA, sB, sC]
  refine dP 8 hM ?_
  try simp only [pS, pN, sA, sB, sC]
  refine dM 9 hM ?_ (hC := part_row hpre.out (by ((repeat constructor) <;> fail)))
  try simp only [pS, pN, sA, sB, sC]
  refine dT 10 14 (fun K' hK' => ?_) (fun K' hK' => ?_)
  ·
   go_wp2_with (first | (go_at_call 122; (with_reducible refine cb hM (TA _) ?_); clear hM; intro W1 hM))
   refine hK_out hK' hM ?_
   clear hK' K'
   try simp only [pS, pN, sA, sB, sC]
   refine dP 11 hM ?_
   try simp only [pS, pN, sA, sB, sC]
   refine dP 12 hM ?_
   try simp only [pS, pN, sA, sB, sC]
   refine dP 13 hM ?_
   try simp only [pS, pN, sA, sB, sC]
   refine dC 14 (fun K' hK' => ?_)
   refine oN hM ?_
   clear hM; intro g12 W hM
   refine hK_out hK' hM ?_
   clear hK' K'
   try simp only [pS, pN, sA, sB, sC]
   refine dC 15 (fun K' hK' => ?_)
   refine oS hM ?_
   clear hM; intro W hM
   refine hK_out hK' hM ?_
   clear hK' K'
   try simp only [pS, pN, sA, sB, sC]
   refine dP 16 hM ?_
   try simp only [pS, pN, sA, sB, sC]
   refine tk_done (by kernel_rfl) ?_
   obtain ⟨gt, rfl⟩ : ∃ gt, gt = g12 := ⟨_, rfl⟩
   by_cases he2 : e2 = 0
   rotate_left 1
   · have hn : t = none := ht.out.trans (fo_tan HD.out HB.out h0 HR1.out HT2.out he2)
     have he2' : (e2 != 0) = true := by simpa using he2
     clear he2 ht
     go_wp2_with (first | ((with_reducible refine lX ?_); first | refine aL hM rfl rfl ?_ | refine aM hM rfl rfl ?_) | ((with_reducible refine sX ?_); refine aS hM rfl rfl rfl ?_; clear hM; intro W hM) | ((with_reducible refine bX ?_); refine aB hM rfl rfl ?_; clear hM; intro g W hM) | ((with_reducible refine zX ?_); refine aN hM rfl rfl ?_; clear hM; intro g W hM))
     all_goals
      (go_ret; exact ⟨by rw [hn]; rfl, V, B, by rw [hn]; exact ⟨hO.out.1, Nat.le_trans hO.out.2 (by omega)⟩, by rw [hn]; exact mem_tl (mem_tl (mem_tl (hM)))⟩)
   subst he2
   obtain ⟨v0, v1, v2, v3, v4, e3, ha3⟩ := ar_cells x.bx x.b_y kx ky tx ty right
   have AO := fun W => around_s x.bx x.b_y kx ky tx ty b right hbr W v0 v1 v2 v3 v4 e3 ha3.symm
   have HT := hide (ht.out.trans (fo_end HD.out HB.out h0 HR1.out HT2.out ha3))
   clear ha3 ht HD HB HR1 HT2 TA hbr HF
   by_cases he3 : e3 = 0
   rotate_left 1
   · have hn : t = none := by rw [HT.out, if_pos he3]
     have he3' : (e3 != 0) = true := by simpa using he3
     clear he3 HT
     go_wp2_with (first | (go_at_call 123; (with_reducible refine cb hM (AO _) ?_); clear hM; intro W1 hM) | ((with_reducible refine lX ?_); first | refine aL hM rfl rfl ?_ | refine aM hM rfl rfl ?_) | ((with_reducible refine sX ?_); refine aS hM rfl rfl rfl ?_; clear hM; intro W hM) | ((with_reducible refine bX ?_); refine aB hM rfl rfl ?_; clear hM; intro g W hM) | ((with_reducible refine zX ?_); refine aN hM rfl rfl ?_; clear hM; intro g W hM))
     all_goals
      (go_ret; exact ⟨by rw [hn]; rfl, V, B, by rw [hn]; exact ⟨hO.out.1, Nat.le_trans hO.out.2 (by omega)⟩, by rw [hn]; exact mem_tl (mem_tl (mem_tl (mem_tl (hM))))⟩)
   subst he3
   have HT3 := hide (HT.out.trans (if_neg (by simp)))
   clear HT
   go_upto_region 17 with (first | (go_at_call 123; (with_reducible refine cb hM (AO _) ?_); clear hM; intro W1 hM) | (go_at_call 24; (with_reducible refine cD hM (fun R' hM' => line_d x.bx x.b_y x.n hM' hO) ?_); clear hM hO; intro d1 V1 B1 W1 hd1 hO1 hM; simp only [List.cons_append, List.nil_append] at hM) | ((with_reducible refine lX ?_); first | refine aL hM rfl rfl ?_ | refine aM hM rfl rfl ?_) | ((with_reducible refine sX ?_); refine aS hM rfl rfl rfl ?_; clear hM; intro W hM) | ((with_reducible refine bX ?_); refine aB hM rfl rfl ?_; clear hM; intro g W hM) | ((with_reducible refine zX ?_); refine aN hM rfl rfl ?_; clear hM; intro g W hM))
   try simp only [pS, pN, sA, sB, sC]
   obtain ⟨ga, rfl⟩ : ∃ ga, ga = g := ⟨_, rfl⟩
   refine region_k [(ga, [.int .i64 v0, .int .i64 v1, .int .i64 v2, .int .i64 v3, .int .i64 v4], 46), (gt, [.int .i64 tx, .int .i64 ty], 26), (gT, pre ++ mid [.int .u8 y.k, .int .i64 y.ax, .int .i64 y.ay, .int .i64 y.bx, .int .i64 y.b_y, .int .i64 y.cx, .int .i64 y.cy, .int .i64 y.r, .int .i64 y.f, .int .i64 y.s, .int .i64 y.ci, .int .i64 y.co, .int .i64 y.len, .int .i64 y.n, .bool y.g] post, 77)] hM (by kernel_rfl) ?_; (clear hM; intro W hM)
   refine dP 0 hM ?_
   try simp only [pS, pN, sA, sB, sC]
   first | refine dL 1 hM ?_ | refine dM 1 hM ?_
   try simp only [pS, pN, sA, sB, sC]
   first | refine dL 2 hM ?_ | refine dM 2 hM ?_
   try simp only [pS, pN, sA, sB, sC]
   refine dP 3 hM ?_
   try simp only [pS, pN, sA, sB, sC]
   refine dP 4 hM ?_
   try simp only [pS, pN, sA, sB, sC]
   refine dP 5 hM ?_
   try simp only [pS, pN, sA, sB, sC]
   refine dL 6 hM ?_ (hv := row1 hpre.out rfl)
   try simp only [pS, pN, sA, sB, sC]
   refine dC 7 (fun K' hK' => ?_)
   go_wp2_with (first | (go_at_call 25; (with_reducible refine cD hM (fun R' hM' => arc_d v0 v1 v2 v3 v4 tx ty y.n hM' hO1) ?_); clear hM hO1; intro d2 V2 B2 W2 hd2 hO2 hM; simp only [List.cons_append, List.nil_append] at hM))
   refine hK_out hK' hM ?_
   clear hK' K'
   try simp only [pS, pN, sA, sB, sC]
   refine tk_done (by kernel_rfl) ?_
   go_upto_region 18 with (first | ((with_reducible refine lX ?_); first | refine aL hM rfl rfl ?_ | refine aM hM rfl rfl ?_) | ((with_reducible refine sX ?_); refine aS hM rfl rfl rfl ?_; clear hM; intro W hM) | ((with_reducible refine bX ?_); refine aB hM rfl rfl ?_; clear hM; intro g W hM) | ((with_reducible refine zX ?_); refine aN hM rfl rfl ?_; clear hM; intro g W hM))
   try simp only [pS, pN, sA, sB, sC]
   refine region_k [(gt, [.int .i64 tx, .int .i64 ty], 26)] hM (by kernel_rfl) ?_; (clear hM; intro W hM)
   refine dP 0 hM ?_
   try simp only [pS, pN, sA, sB, sC]
   refine dP 1 hM ?_
   try simp only [pS, pN, sA, sB, sC]
   refine dP 2 hM ?_
   try simp only [pS, pN, sA, sB, sC]
   first | refine dL 3 hM ?_ | refine dM 3 hM ?_
   try simp only [pS, pN, sA, sB, sC]
   refine dP 4 hM ?_
   try simp only [pS, pN, sA, sB, sC]
   refine dP 5 hM ?_
   try simp only [pS, pN, sA, sB, sC]
   refine dP 6 hM ?_
   try simp only [pS, pN, sA, sB, sC]
   refine dC 7 (fun K' hK' => ?_)
   refine oL hM ?_ (hv := row1 hpre.out rfl)
   refine hK_out hK' hM ?_
   clear hK' K'
   try simp only [pS, pN, sA, sB, sC]
   refine dP 8 hM ?_
   try simp only [pS, pN, sA, sB, sC]
   refine dP 9 hM ?_
   try simp only [pS, pN, sA, sB, sC]
   refine dC 10 (fun K' hK' => ?_)
   refine oS hM ?_ (hc := spl_row hpre.out (by ((repeat constructor) <;> fail)))
   clear hM; intro W hM
   refine hK_out hK' hM ?_
   clear hK' K'
   try simp only [pS, pN, sA, sB, sC]
   refine dP 11 hM ?_
   try simp only [pS, pN, sA, sB, sC]
   refine dP 12 hM ?_
   try simp only [pS, pN, sA, sB, sC]
   refine dC 13 (fun K' hK' => ?_)
   refine oS hM ?_ (hc := spl_row hpre.out (by ((repeat constructor) <;> fail)))
   clear hM; intro W hM
   refine hK_out hK' hM ?_
   clear hK' K'
   try simp only [pS, pN, sA, sB, sC]
   refine dP 14 hM ?_
   try simp only [pS, pN, sA, sB, sC]
   refine dP 15 hM ?_
   try simp only [pS, pN, sA, sB, sC]
   refine dC 16 (fun K' hK' => ?_)
   refine oS hM ?_ (hc := spl_row hpre.out (by ((repeat constructor) <;> fail)))
   clear hM; intro W hM
   refine hK_out hK' hM ?_
   clear hK' K'
   try simp only [pS, pN, sA, sB, sC]
   refine tk_done (by kernel_rfl) ?_
   go_upto_region 19 with (first | ((with_reducible refine lX ?_); first | refine aL hM rfl rfl ?_ | refine aM hM rfl rfl ?_) | ((with_reducible refine sX ?_); refine aS hM rfl rfl rfl ?_; clear hM; intro W hM) | ((with_reducible refine bX ?_); refine aB hM rfl rfl ?_; clear hM; intro g W hM) | ((with_reducible refine zX ?_); refine aN hM rfl rfl ?_; clear hM; intro g W hM))
   try simp only [pS, pN, sA, sB, sC]
   by_cases hq : tx = y.bx ∧ ty = y.b_y
   · have hq1 := hq.1
     have hq2 := hq.2
     refine region_k [(gt, [.int .i64 tx, .int .i64 ty], 26), (gT, pre ++ mid [.int .u8 y.k, .int .i64 tx, .int .i64 ty, .int .i64 y.bx, .int .i64 y.b_y, .int .i64 y.cx, .int .i64 y.cy, .int .i64 y.r, .int .i64 y.f, .int .i64 y.s, .int .i64 y.ci, .int .i64 y.ci, .int .i64 0, .int .i64 y.n, .bool y.g] post, 77)] hM (by kernel_rfl) ?_; (clear hM; intro W hM)
     first | refine dL 0 hM ?_ | refine dM 0 hM ?_
     try simp only [pS, pN, sA, sB, sC]
     refine dP 1 hM ?_
     try simp only [pS, pN, sA, sB, sC]
     refine dP 2 hM ?_
     try simp only [pS, pN, sA, sB, sC]
     refine dP 3 hM ?_
     try simp only [pS, pN, sA, sB, sC]
     refine dM 4 hM ?_ (hC := part_row hpre.out (by ((repeat constructor) <;> fail)))
     try simp only [pS, pN, sA, sB, sC]
     refine dP 5 (v := .bool false) hM ?_ (hv := by (intro W0; go_simp; (try rw [if_pos hq1, if_pos hq2])))
     try simp only [pS, pN, sA, sB, sC]
     refine tk_done (by kernel_rfl) ?_
     have HN := hide (show t = some (arcD (lineW d x.bx x.b_y x.n) v0 v1 v2 v3 v4 tx ty y.n, { y with ax := tx, ay := ty, co := y.ci, len := 0 }) by rw [HT3.out, if_pos hq])
     go_wp2_with (first | ((with_reducible refine lX ?_); first | refine aL hM rfl rfl ?_ | refine aM hM rfl rfl ?_) | ((with_reducible refine sX ?_); refine aS hM rfl rfl rfl ?_; clear hM; intro W hM) | ((with_reducible refine bX ?_); refine aB hM rfl rfl ?_; clear hM; intro g W hM) | ((with_reducible refine zX ?_); refine aN hM rfl rfl ?_; clear hM; intro g W hM))
     all_goals
      have e2 : (t.map (·.1)).getD d = d2 := by rw [HN.out, Option.map_some, Option.getD_some, hd1.out, hd2.out]
      have e3 : t.isSome = true := by rw [HN.out, Option.isSome_some]
      have e4 : ((t.map (·.2)).getD y).cells = [.int .u8 y.k, .int .i64 tx, .int .i64 ty, .int .i64 y.bx, .int .i64 y.b_y, .int .i64 y.cx, .int .i64 y.cy, .int .i64 y.r, .int .i64 y.f, .int .i64 y.s, .int .i64 y.ci, .int .i64 y.ci, .int .i64 0, .int .i64 y.n, .bool y.g] := by rw [HN.out, Option.map_some, Option.getD_some]; rfl
      (go_ret; exact ⟨by rw [e3]; rfl, V2, B2, by rw [e2]; exact hO2.out, by rw [e2, e4]; exact mem_tl (mem_tl (mem_tl (mem_tl hM)))⟩)
   · (
     refine region_k [(gt, [.int .i64 tx, .int .i64 ty], 26), (gT, pre ++ mid [.int .u8 y.k, .int .i64 tx, .int .i64 ty, .int .i64 y.bx, .int .i64 y.b_y, .int .i64 y.cx, .int .i64 y.cy, .int .i64 y.r, .int .i64 y.f, .int .i64 y.s, .int .i64 y.ci, .int .i64 y.ci, .int .i64 0, .int .i64 y.n, .bool y.g] post, 77)] hM (by kernel_rfl) ?_; (clear hM; intro W hM)
     first | refine dL 0 hM ?_ | refine dM 0 hM ?_
     try simp only [pS, pN, sA, sB, sC]
     refine dP 1 hM ?_
     try simp only [pS, pN, sA, sB, sC]
     refine dP 2 hM ?_
     try simp only [pS, pN, sA, sB, sC]
     refine dP 3 hM ?_
     try simp only [pS, pN, sA, sB, sC]
     refine dM 4 hM ?_ (hC := part_row hpre.out (by ((repeat constructor) <;> fail)))
     try simp only [pS, pN, sA, sB, sC]
     refine dP 5 (v := .bool true) hM ?_ (hv := by (intro W0; go_simp; exact fun h1 h2 => hq ⟨h1, h2⟩))
     try simp only [pS, pN, sA, sB, sC]
     refine tk_done (by kernel_rfl) ?_
     have CC := fun W => course_any tx ty y.bx y.b_y W
     have DC := fun W => dist_any tx ty y.bx y.b_y W
     obtain ⟨c1, hc1⟩ : ∃ c1, (courseF tx ty y.bx y.b_y).1 = c1 := ⟨_, rfl⟩
     obtain ⟨k1, hk1⟩ : ∃ k1, distF tx ty y.bx y.b_y = k1 := ⟨_, rfl⟩
     have HN := hide (show t = some (arcD (lineW d x.bx x.b_y x.n) v0 v1 v2 v3 v4 tx ty y.n, { y with ax := tx, ay := ty, ci := c1, co := c1, len := k1 }) by rw [HT3.out, if_neg hq, hc1, hk1])
     rw [hc1] at CC
     rw [hk1] at DC
     clear hc1 hk1 HT3 hq
     go_upto_region 20 with (first | ((with_reducible refine lX ?_); first | refine aL hM rfl rfl ?_ | refine aM hM rfl rfl ?_) | ((with_reducible refine sX ?_); refine aS hM rfl rfl rfl ?_; clear hM; intro W hM) | ((with_reducible refine bX ?_); refine aB hM rfl rfl ?_; clear hM; intro g W hM) | ((with_reducible refine zX ?_); refine aN hM rfl rfl ?_; clear hM; intro g W hM))
     try simp only [pS, pN, sA, sB, sC]
     refine region_k [(gt, [.int .i64 tx, .int .i64 ty], 26)] hM (by kernel_rfl) ?_; (clear hM; intro W hM)
     refine dP 0 hM ?_
     try simp only [pS, pN, sA, sB, sC]
     first | refine dL 1 hM ?_ | refine dM 1 hM ?_
     try simp only [pS, pN, sA, sB, sC]
     refine dP 2 hM ?_
     try simp only [pS, pN, sA, sB, sC]
     refine dP 3 hM ?_
     try simp only [pS, pN, sA, sB, sC]
     refine dP 4 hM ?_
     try simp only [pS, pN, sA, sB, sC]
     refine dC 5 (fun K' hK' => ?_)
     refine oM hM ?_ (hC := part_row hpre.out (by ((repeat constructor) <;> fail)))
     refine hK_out hK' hM ?_
     clear hK' K'
     try simp only [pS, pN, sA, sB, sC]
     refine dC 6 (fun K' hK' => ?_)
     go_wp2_with (first | (go_at_call 28; (with_reducible refine cb hM (CC _) ?_); clear hM; intro W1 hM))
     refine hK_out hK' hM ?_
     clear hK' K'
     try simp only [pS, pN, sA, sB, sC]
     refine dP 7 hM ?_
     try simp only [pS, pN, sA, sB, sC]
     refine dP 8 hM ?_
     try simp only [pS, pN, sA, sB, sC]
     refine dP 9 hM ?_
     try simp only [pS, pN, sA, sB, sC]
     refine dP 10 hM ?_
     try simp only [pS, pN, sA, sB, sC]
     refine dP 11 hM ?_
     try simp only [pS, pN, sA, sB, sC]
     refine dC 12 (fun K' hK' => ?_)
     refine oS hM ?_ (hc := spl_row hpre.out (by ((repeat constructor) <;> fail)))
     clear hM; intro W hM
     refine hK_out hK' hM ?_
     clear hK' K'
     try simp only [pS, pN, sA, sB, sC]
     refine tk_done (by kernel_rfl) ?_
     go_upto_region 21 with (first | ((with_reducible refine lX ?_); first | refine aL hM rfl rfl ?_ | refine aM hM rfl rfl ?_) | ((with_reducible refine sX ?_); refine aS hM rfl rfl rfl ?_; clear hM; intro W hM) | ((with_reducible refine bX ?_); refine aB hM rfl rfl ?_; clear hM; intro g W hM) | ((with_reducible refine zX ?_); refine aN hM rfl rfl ?_; clear hM; intro g W hM))
     try simp only [pS, pN, sA, sB, sC]
     refine region_k [(gt, [.int .i64 tx, .int .i64 ty], 26)] hM (by kernel_rfl) ?_; (clear hM; intro W hM)
     refine dP 0 hM ?_
     try simp only [pS, pN, sA, sB, sC]
     refine dP 1 hM ?_
     try simp only [pS, pN, sA, sB, sC]
     refine dP 2 hM ?_
     try simp only [pS, pN, sA, sB, sC]
     refine dP 3 hM ?_
     try simp only [pS, pN, sA, sB, sC]
     refine dP 4 hM ?_
     try simp only [pS, pN, sA, sB, sC]
     first | refine dL 6 hM ?_ | refine dM 6 hM ?_
     try simp only [pS, pN, sA, sB, sC]
     refine dP 7 hM ?_
     try simp only [pS, pN, sA, sB, sC]
     refine dP 8 hM ?_
     try simp only [pS, pN, sA, sB, sC]
     refine dP 9 hM ?_
     try simp only [pS, pN, sA, sB, sC]
     refine dT 5 10 (fun K' hK' => ?_) (fun K' hK' => ?_)
     ·
      refine oL hM ?_ (hv := row1 hpre.out rfl)
      refine hK_out hK' hM ?_
      clear hK' K'
      try simp only [pS, pN, sA, sB, sC]
      refine dC 10 (fun K' hK' => ?_)
      refine oM hM ?_ (hC := part_row hpre.out (by ((repeat constructor) <;> fail)))
      refine hK_out hK' hM ?_
      clear hK' K'
      try simp only [pS, pN, sA, sB, sC]
      refine dC 11 (fun K' hK' => ?_)
      go_wp2_with (first | (go_at_call 18; (with_reducible refine cb hM (DC _) ?_); clear hM; intro W1 hM))
      refine hK_out hK' hM ?_
      clear hK' K'
      try simp only [pS, pN, sA, sB, sC]
      refine dP 12 hM ?_
      try simp only [pS, pN, sA, sB, sC]
      refine dP 13 hM ?_
      try simp only [pS, pN, sA, sB, sC]
      refine dC 14 (fun K' hK' => ?_)
      refine oS hM ?_ (hc := spl_row hpre.out (by ((repeat constructor) <;> fail)))
      clear hM; intro W hM
      refine hK_out hK' hM ?_
      clear hK' K'
      try simp only [pS, pN, sA, sB, sC]
      refine dP 15 hM ?_
      try simp only [pS, pN, sA, sB, sC]
      refine dP 16 hM ?_
      try simp only [pS, pN, sA, sB, sC]
      refine dC 17 (fun K' hK' => ?_)
      refine oS hM ?_ (hc := spl_row hpre.out (by ((repeat constructor) <;> fail)))
      clear hM; intro W hM
      refine hK_out hK' hM ?_
      clear hK' K'
      try simp only [pS, pN, sA, sB, sC]
      refine tk_done (by kernel_rfl) ?_
      go_wp2_with (first | ((with_reducible refine lX ?_); first | refine aL hM rfl rfl ?_ | refine aM hM rfl rfl ?_) | ((with_reducible refine sX ?_); refine aS hM rfl rfl rfl ?_; clear hM; intro W hM) | ((with_reducible refine bX ?_); refine aB hM rfl rfl ?_; clear hM; intro g W hM) | ((with_reducible refine zX ?_); refine aN hM rfl rfl ?_; clear hM; intro g W hM))
      all_goals
       have e2 : (t.map (·.1)).getD d = d2 := by rw [HN.out, Option.map_some, Option.getD_some, hd1.out, hd2.out]
       have e3 : t.isSome = true := by rw [HN.out, Option.isSome_some]
       have e4 : ((t.map (·.2)).getD y).cells = [.int .u8 y.k, .int .i64 tx, .int .i64 ty, .int .i64 y.bx, .int .i64 y.b_y, .int .i64 y.cx, .int .i64 y.cy, .int .i64 y.r, .int .i64 y.f, .int .i64 y.s, .int .i64 c1, .int .i64 c1, .int .i64 k1, .int .i64 y.n, .bool y.g] := by rw [HN.out, Option.map_some, Option.getD_some]; rfl
       (go_ret; exact ⟨by rw [e3]; rfl, V2, B2, by rw [e2]; exact hO2.out, by rw [e2, e4]; exact mem_tl (mem_tl (mem_tl (mem_tl hM)))⟩)
     ·
      refine oM hM ?_ (hC := part_row hpre.out (by ((repeat constructor) <;> fail)))
      refine hK_out hK' hM ?_
      clear hK' K'
      try simp only [pS, pN, sA, sB, sC]
      refine dT 5 11 (fun K' hK' => ?_) (fun K' hK' => ?_)
      ·
       refine oL hM ?_ (hv := row1 hpre.out rfl)
       refine hK_out hK' hM ?_
       clear hK' K'
       try simp only [pS, pN, sA, sB, sC]
       refine dC 11 (fun K' hK' => ?_)
       go_wp2_with (first | (go_at_call 18; (with_reducible refine cb hM (DC _) ?_); clear hM; intro W1 hM))
       refine hK_out hK' hM ?_
       clear hK' K'
       try simp only [pS, pN, sA, sB, sC]
       refine dP 12 hM ?_
       try simp only [pS, pN, sA, sB, sC]
       refine dP 13 hM ?_
       try simp only [pS, pN, sA, sB, sC]
       refine dC 14 (fun K' hK' => ?_)
       refine oS hM ?_ (hc := spl_row hpre.out (by ((repeat constructor) <;> fail)))
       clear hM; intro W hM
       refine hK_out hK' hM ?_
       clear hK' K'
       try simp only [pS, pN, sA, sB, sC]
       refine dP 15 hM ?_
       try simp only [pS, pN, sA, sB, sC]
       refine dP 16 hM ?_
       try simp only [pS, pN, sA, sB, sC]
       refine dC 17 (fun K' hK' => ?_)
       refine oS hM ?_ (hc := spl_row hpre.out (by ((repeat constructor) <;> fail)))
       clear hM; intro W hM
       refine hK_out hK' hM ?_
       clear hK' K'
       try simp only [pS, pN, sA, sB, sC]
       refine tk_done (by kernel_rfl) ?_
       go_wp2_with (first | ((with_reducible refine lX ?_); first | refine aL hM rfl rfl ?_ | refine aM hM rfl rfl ?_) | ((with_reducible refine sX ?_); refine aS hM rfl rfl rfl ?_; clear hM; intro W hM) | ((with_reducible refine bX ?_); refine aB hM rfl rfl ?_; clear hM; intro g W hM) | ((with_reducible refine zX ?_); refine aN hM rfl rfl ?_; clear hM; intro g W hM))
       all_goals
        have e2 : (t.map (·.1)).getD d = d2 := by rw [HN.out, Option.map_some, Option.getD_some, hd1.out, hd2.out]
        have e3 : t.isSome = true := by rw [HN.out, Option.isSome_some]
        have e4 : ((t.map (·.2)).getD y).cells = [.int .u8 y.k, .int .i64 tx, .int .i64 ty, .int .i64 y.bx, .int .i64 y.b_y, .int .i64 y.cx, .int .i64 y.cy, .int .i64 y.r, .int .i64 y.f, .int .i64 y.s, .int .i64 c1, .int .i64 c1, .int .i64 k1, .int .i64 y.n, .bool y.g] := by rw [HN.out, Option.map_some, Option.getD_some]; rfl
        (go_ret; exact ⟨by rw [e3]; rfl, V2, B2, by rw [e2]; exact hO2.out, by rw [e2, e4]; exact mem_tl (mem_tl (mem_tl (mem_tl hM)))⟩)
      ·
       go_wp2_with (first | (go_at_call 18; (with_reducible refine cb hM (DC _) ?_); clear hM; intro W1 hM))
       refine hK_out hK' hM ?_
       clear hK' K'
       try simp only [pS, pN, sA, sB, sC]
       refine dC 5 (fun K' hK' => ?_)
       refine oL hM ?_ (hv := row1 hpre.out rfl)
       refine hK_out hK' hM ?_
       clear hK' K'
       try simp only [pS, pN, sA, sB, sC]
       refine dP 12 hM ?_
       try simp only [pS, pN, sA, sB, sC]
       refine dP 13 hM ?_
       try simp only [pS, pN, sA, sB, sC]
       refine dC 14 (fun K' hK' => ?_)
       refine oS hM ?_ (hc := spl_row hpre.out (by ((repeat constructor) <;> fail)))
       clear hM; intro W hM
       refine hK_out hK' hM ?_
       clear hK' K'
       try simp only [pS, pN, sA, sB, sC]
       refine dP 15 hM ?_
       try simp only [pS, pN, sA, sB, sC]
       refine dP 16 hM ?_
       try simp only [pS, pN, sA, sB, sC]
       refine dC 17 (fun K' hK' => ?_)
       refine oS hM ?_ (hc := spl_row hpre.out (by ((repeat constructor) <;> fail)))
       clear hM; intro W hM
       refine hK_out hK' hM ?_
       clear hK' K'
       try simp only [pS, pN, sA, sB, sC]
       refine tk_done (by kernel_rfl) ?_
       go_wp2_with (first | ((with_reducible refine lX ?_); first | refine aL hM rfl rfl ?_ | refine aM hM rfl rfl ?_) | ((with_reducible refine sX ?_); refine aS hM rfl rfl rfl ?_; clear hM; intro W hM) | ((with_reducible refine bX ?_); refine aB hM rfl rfl ?_; clear hM; intro g W hM) | ((with_reducible refine zX ?_); refine aN hM rfl rfl ?_; clear hM; intro g W hM))
       all_goals
        have e2 : (t.map (·.1)).getD d = d2 := by rw [HN.out, Option.map_some, Option.getD_some, hd1.out, hd2.out]
        have e3 : t.isSome = true := by rw [HN.out, Option.isSome_some]
        have e4 : ((t.map (·.2)).getD y).cells = [.int .u8 y.k, .int .i64 tx, .int .i64 ty, .int .i64 y.bx, .int .i64 y.b_y, .int .i64 y.cx, .int .i64 y.cy, .int .i64 y.r, .int .i64 y.f, .int .i64 y.s, .int .i64 c1, .int .i64 c1, .int .i64 k1, .int .i64 y.n, .bool y.g] := by rw [HN.out, Option.map_some, Option.getD_some]; rfl
        (go_ret; exact ⟨by rw [e3]; rfl, V2, B2, by rw [e2]; exact hO2.out, by rw [e2, e4]; exact mem_tl (mem_tl (mem_tl (mem_tl hM)))⟩)
     )
  ·
   refine oN hM ?_
   clear hM; intro g12 W hM
   refine hK_out hK' hM ?_
   clear hK' K'
   try simp only [pS, pN, sA, sB, sC]
   refine dC 10 (fun K' hK' => ?_)
   go_wp2_with (first | (go_at_call 122; (with_reducible refine cb hM (TA _) ?_); clear hM; intro W1 hM))
   refine hK_out hK' hM ?_
   clear hK' K'
   try simp only [pS, pN, sA, sB, sC]
   refine dP 11 hM ?_
   try simp only [pS, pN, sA, sB, sC]
   refine dP 12 hM ?_
   try simp only [pS, pN, sA, sB, sC]
   refine dP 13 hM ?_
   try simp only [pS, pN, sA, sB, sC]
   refine dC 15 (fun K' hK' => ?_)
   refine oS hM ?_
   clear hM; intro W hM
   refine hK_out hK' hM ?_
   clear hK' K'
   try simp only [pS, pN, sA, sB, sC]
   refine dP 16 hM ?_
   try simp only [pS, pN, sA, sB, sC]
   refine tk_done (by kernel_rfl) ?_
   obtain ⟨gt, rfl⟩ : ∃ gt, gt = g12 := ⟨_, rfl⟩
   by_cases he2 : e2 = 0
   rotate_left 1
   · have hn : t = none := ht.out.trans (fo_tan HD.out HB.out h0 HR1.out HT2.out he2)
     have he2' : (e2 != 0) = true := by simpa using he2
     clear he2 ht
     go_wp2_with (first | ((with_reducible refine lX ?_); first | refine aL hM rfl rfl ?_ | refine aM hM rfl rfl ?_) | ((with_reducible refine sX ?_); refine aS hM rfl rfl rfl ?_; clear hM; intro W hM) | ((with_reducible refine bX ?_); refine aB hM rfl rfl ?_; clear hM; intro g W hM) | ((with_reducible refine zX ?_); refine aN hM rfl rfl ?_; clear hM; intro g W hM))
     all_goals
      (go_ret; exact ⟨by rw [hn]; rfl, V, B, by rw [hn]; exact ⟨hO.out.1, Nat.le_trans hO.out.2 (by omega)⟩, by rw [hn]; exact mem_tl (mem_tl (mem_tl (hM)))⟩)
   subst he2
   obtain ⟨v0, v1, v2, v3, v4, e3, ha3⟩ := ar_cells x.bx x.b_y kx ky tx ty right
   have AO := fun W => around_s x.bx x.b_y kx ky tx ty b right hbr W v0 v1 v2 v3 v4 e3 ha3.symm
   have HT := hide (ht.out.trans (fo_end HD.out HB.out h0 HR1.out HT2.out ha3))
   clear ha3 ht HD HB HR1 HT2 TA hbr HF
   by_cases he3 : e3 = 0
   rotate_left 1
   · have hn : t = none := by rw [HT.out, if_pos he3]
     have he3' : (e3 != 0) = true := by simpa using he3
     clear he3 HT
     go_wp2_with (first | (go_at_call 123; (with_reducible refine cb hM (AO _) ?_); clear hM; intro W1 hM) | ((with_reducible refine lX ?_); first | refine aL hM rfl rfl ?_ | refine aM hM rfl rfl ?_) | ((with_reducible refine sX ?_); refine aS hM rfl rfl rfl ?_; clear hM; intro W hM) | ((with_reducible refine bX ?_); refine aB hM rfl rfl ?_; clear hM; intro g W hM) | ((with_reducible refine zX ?_); refine aN hM rfl rfl ?_; clear hM; intro g W hM))
     all_goals
      (go_ret; exact ⟨by rw [hn]; rfl, V, B, by rw [hn]; exact ⟨hO.out.1, Nat.le_trans hO.out.2 (by omega)⟩, by rw [hn]; exact mem_tl (mem_tl (mem_tl (mem_tl (hM))))⟩)
   subst he3
   have HT3 := hide (HT.out.trans (if_neg (by simp)))
   clear HT
   go_upto_region 17 with (first | (go_at_call 123; (with_reducible refine cb hM (AO _) ?_); clear hM; intro W1 hM) | (go_at_call 24; (with_reducible refine cD hM (fun R' hM' => line_d x.bx x.b_y x.n hM' hO) ?_); clear hM hO; intro d1 V1 B1 W1 hd1 hO1 hM; simp only [List.cons_append, List.nil_append] at hM) | ((with_reducible refine lX ?_); first | refine aL hM rfl rfl ?_ | refine aM hM rfl rfl ?_) | ((with_reducible refine sX ?_); refine aS hM rfl rfl rfl ?_; clear hM; intro W hM) | ((with_reducible refine bX ?_); refine aB hM rfl rfl ?_; clear hM; intro g W hM) | ((with_reducible refine zX ?_); refine aN hM rfl rfl ?_; clear hM; intro g W hM))
   try simp only [pS, pN, sA, sB, sC]
   obtain ⟨ga, rfl⟩ : ∃ ga, ga = g := ⟨_, rfl⟩
   refine region_k [(ga, [.int .i64 v0, .int .i64 v1, .int .i64 v2, .int .i64 v3, .int .i64 v4], 46), (gt, [.int .i64 tx, .int .i64 ty], 26), (gT, pre ++ mid [.int .u8 y.k, .int .i64 y.ax, .int .i64 y.ay, .int .i64 y.bx, .int .i64 y.b_y, .int .i64 y.cx, .int .i64 y.cy, .int .i64 y.r, .int .i64 y.f, .int .i64 y.s, .int .i64 y.ci, .int .i64 y.co, .int .i64 y.len, .int .i64 y.n, .bool y.g] post, 77)] hM (by kernel_rfl) ?_; (clear hM; intro W hM)
   refine dP 0 hM ?_
   try simp only [pS, pN, sA, sB, sC]
   first | refine dL 1 hM ?_ | refine dM 1 hM ?_
   try simp only [pS, pN, sA, sB, sC]
   first | refine dL 2 hM ?_ | refine dM 2 hM ?_
   try simp only [pS, pN, sA, sB, sC]
   refine dP 3 hM ?_
   try simp only [pS, pN, sA, sB, sC]
   refine dP 4 hM ?_
   try simp only [pS, pN, sA, sB, sC]
   refine dP 5 hM ?_
   try simp only [pS, pN, sA, sB, sC]
   refine dL 6 hM ?_ (hv := row1 hpre.out rfl)
   try simp only [pS, pN, sA, sB, sC]
   refine dC 7 (fun K' hK' => ?_)
   go_wp2_with (first | (go_at_call 25; (with_reducible refine cD hM (fun R' hM' => arc_d v0 v1 v2 v3 v4 tx ty y.n hM' hO1) ?_); clear hM hO1; intro d2 V2 B2 W2 hd2 hO2 hM; simp only [List.cons_append, List.nil_append] at hM))
   refine hK_out hK' hM ?_
   clear hK' K'
   try simp only [pS, pN, sA, sB, sC]
   refine tk_done (by kernel_rfl) ?_
   go_upto_region 18 with (first | ((with_reducible refine lX ?_); first | refine aL hM rfl rfl ?_ | refine aM hM rfl rfl ?_) | ((with_reducible refine sX ?_); refine aS hM rfl rfl rfl ?_; clear hM; intro W hM) | ((with_reducible refine bX ?_); refine aB hM rfl rfl ?_; clear hM; intro g W hM) | ((with_reducible refine zX ?_); refine aN hM rfl rfl ?_; clear hM; intro g W hM))
   try simp only [pS, pN, sA, sB, sC]
   refine region_k [(gt, [.int .i64 tx, .int .i64 ty], 26)] hM (by kernel_rfl) ?_; (clear hM; intro W hM)
   refine dP 0 hM ?_
   try simp only [pS, pN, sA, sB, sC]
   refine dP 1 hM ?_
   try simp only [pS, pN, sA, sB, sC]
   refine dP 2 hM ?_
   try simp only [pS, pN, sA, sB, sC]
   first | refine dL 3 hM ?_ | refine dM 3 hM ?_
   try simp only [pS, pN, sA, sB, sC]
   refine dP 4 hM ?_
   try simp only [pS, pN, sA, sB, sC]
   refine dP 5 hM ?_
   try simp only [pS, pN, sA, sB, sC]
   refine dP 6 hM ?_
   try simp only [pS, pN, sA, sB, sC]
   refine dC 7 (fun K' hK' => ?_)
   refine oL hM ?_ (hv := row1 hpre.out rfl)
   refine hK_out hK' hM ?_
   clear hK' K'
   try simp only [pS, pN, sA, sB, sC]
   refine dP 8 hM ?_
   try simp only [pS, pN, sA, sB, sC]
   refine dP 9 hM ?_
   try simp only [pS, pN, sA, sB, sC]
   refine dC 10 (fun K' hK' => ?_)
   refine oS hM ?_ (hc := spl_row hpre.out (by ((repeat constructor) <;> fail)))
   clear hM; intro W hM
   refine hK_out hK' hM ?_
   clear hK' K'
   try simp only [pS, pN, sA, sB, sC]
   refine dP 11 hM ?_
   try simp only [pS, pN, sA, sB, sC]
   refine dP 12 hM ?_
   try simp only [pS, pN, sA, sB, sC]
   refine dC 13 (fun K' hK' => ?_)
   refine oS hM ?_ (hc := spl_row hpre.out (by ((repeat constructor) <;> fail)))
   clear hM; intro W hM
   refine hK_out hK' hM ?_
   clear hK' K'
   try simp only [pS, pN, sA, sB, sC]
   refine dP 14 hM ?_
   try simp only [pS, pN, sA, sB, sC]
   refine dP 15 hM ?_
   try simp only [pS, pN, sA, sB, sC]
   refine dC 16 (fun K' hK' => ?_)
   refine oS hM ?_ (hc := spl_row hpre.out (by ((repeat constructor) <;> fail)))
   clear hM; intro W hM
   refine hK_out hK' hM ?_
   clear hK' K'
   try simp only [pS, pN, sA, sB, sC]
   refine tk_done (by kernel_rfl) ?_
   go_upto_region 19 with (first | ((with_reducible refine lX ?_); first | refine aL hM rfl rfl ?_ | refine aM hM rfl rfl ?_) | ((with_reducible refine sX ?_); refine aS hM rfl rfl rfl ?_; clear hM; intro W hM) | ((with_reducible refine bX ?_); refine aB hM rfl rfl ?_; clear hM; intro g W hM) | ((with_reducible refine zX ?_); refine aN hM rfl rfl ?_; clear hM; intro g W hM))
   try simp only [pS, pN, sA, sB, sC]
   by_cases hq : tx = y.bx ∧ ty = y.b_y
   · have hq1 := hq.1
     have hq2 := hq.2
     refine region_k [(gt, [.int .i64 tx, .int .i64 ty], 26), (gT, pre ++ mid [.int .u8 y.k, .int .i64 tx, .int .i64 ty, .int .i64 y.bx, .int .i64 y.b_y, .int .i64 y.cx, .int .i64 y.cy, .int .i64 y.r, .int .i64 y.f, .int .i64 y.s, .int .i64 y.ci, .int .i64 y.ci, .int .i64 0, .int .i64 y.n, .bool y.g] post, 77)] hM (by kernel_rfl) ?_; (clear hM; intro W hM)
     first | refine dL 0 hM ?_ | refine dM 0 hM ?_
     try simp only [pS, pN, sA, sB, sC]
     refine dP 1 hM ?_
     try simp only [pS, pN, sA, sB, sC]
     refine dP 2 hM ?_
     try simp only [pS, pN, sA, sB, sC]
     refine dP 3 hM ?_
     try simp only [pS, pN, sA, sB, sC]
     refine dM 4 hM ?_ (hC := part_row hpre.out (by ((repeat constructor) <;> fail)))
     try simp only [pS, pN, sA, sB, sC]
     refine dP 5 (v := .bool false) hM ?_ (hv := by (intro W0; go_simp; (try rw [if_pos hq1, if_pos hq2])))
     try simp only [pS, pN, sA, sB, sC]
     refine tk_done (by kernel_rfl) ?_
     have HN := hide (show t = some (arcD (lineW d x.bx x.b_y x.n) v0 v1 v2 v3 v4 tx ty y.n, { y with ax := tx, ay := ty, co := y.ci, len := 0 }) by rw [HT3.out, if_pos hq])
     go_wp2_with (first | ((with_reducible refine lX ?_); first | refine aL hM rfl rfl ?_ | refine aM hM rfl rfl ?_) | ((with_reducible refine sX ?_); refine aS hM rfl rfl rfl ?_; clear hM; intro W hM) | ((with_reducible refine bX ?_); refine aB hM rfl rfl ?_; clear hM; intro g W hM) | ((with_reducible refine zX ?_); refine aN hM rfl rfl ?_; clear hM; intro g W hM))
     all_goals
      have e2 : (t.map (·.1)).getD d = d2 := by rw [HN.out, Option.map_some, Option.getD_some, hd1.out, hd2.out]
      have e3 : t.isSome = true := by rw [HN.out, Option.isSome_some]
      have e4 : ((t.map (·.2)).getD y).cells = [.int .u8 y.k, .int .i64 tx, .int .i64 ty, .int .i64 y.bx, .int .i64 y.b_y, .int .i64 y.cx, .int .i64 y.cy, .int .i64 y.r, .int .i64 y.f, .int .i64 y.s, .int .i64 y.ci, .int .i64 y.ci, .int .i64 0, .int .i64 y.n, .bool y.g] := by rw [HN.out, Option.map_some, Option.getD_some]; rfl
      (go_ret; exact ⟨by rw [e3]; rfl, V2, B2, by rw [e2]; exact hO2.out, by rw [e2, e4]; exact mem_tl (mem_tl (mem_tl (mem_tl hM)))⟩)
   · (
     refine region_k [(gt, [.int .i64 tx, .int .i64 ty], 26), (gT, pre ++ mid [.int .u8 y.k, .int .i64 tx, .int .i64 ty, .int .i64 y.bx, .int .i64 y.b_y, .int .i64 y.cx, .int .i64 y.cy, .int .i64 y.r, .int .i64 y.f, .int .i64 y.s, .int .i64 y.ci, .int .i64 y.ci, .int .i64 0, .int .i64 y.n, .bool y.g] post, 77)] hM (by kernel_rfl) ?_; (clear hM; intro W hM)
     first | refine dL 0 hM ?_ | refine dM 0 hM ?_
     try simp only [pS, pN, sA, sB, sC]
     refine dP 1 hM ?_
     try simp only [pS, pN, sA, sB, sC]
     refine dP 2 hM ?_
     try simp only [pS, pN, sA, sB, sC]
     refine dP 3 hM ?_
     try simp only [pS, pN, sA, sB, sC]
     refine dM 4 hM ?_ (hC := part_row hpre.out (by ((repeat constructor) <;> fail)))
     try simp only [pS, pN, sA, sB, sC]
     refine dP 5 (v := .bool true) hM ?_ (hv := by (intro W0; go_simp; exact fun h1 h2 => hq ⟨h1, h2⟩))
     try simp only [pS, pN, sA, sB, sC]
     refine tk_done (by kernel_rfl) ?_
     have CC := fun W => course_any tx ty y.bx y.b_y W
     have DC := fun W => dist_any tx ty y.bx y.b_y W
     obtain ⟨c1, hc1⟩ : ∃ c1, (courseF tx ty y.bx y.b_y).1 = c1 := ⟨_, rfl⟩
     obtain ⟨k1, hk1⟩ : ∃ k1, distF tx ty y.bx y.b_y = k1 := ⟨_, rfl⟩
     have HN := hide (show t = some (arcD (lineW d x.bx x.b_y x.n) v0 v1 v2 v3 v4 tx ty y.n, { y with ax := tx, ay := ty, ci := c1, co := c1, len := k1 }) by rw [HT3.out, if_neg hq, hc1, hk1])
     rw [hc1] at CC
     rw [hk1] at DC
     clear hc1 hk1 HT3 hq
     go_upto_region 20 with (first | ((with_reducible refine lX ?_); first | refine aL hM rfl rfl ?_ | refine aM hM rfl rfl ?_) | ((with_reducible refine sX ?_); refine aS hM rfl rfl rfl ?_; clear hM; intro W hM) | ((with_reducible refine bX ?_); refine aB hM rfl rfl ?_; clear hM; intro g W hM) | ((with_reducible refine zX ?_); refine aN hM rfl rfl ?_; clear hM; intro g W hM))
     try simp only [pS, pN, sA, sB, sC]
     refine region_k [(gt, [.int .i64 tx, .int .i64 ty], 26)] hM (by kernel_rfl) ?_; (clear hM; intro W hM)
     refine dP 0 hM ?_
     try simp only [pS, pN, sA, sB, sC]
     first | refine dL 1 hM ?_ | refine dM 1 hM ?_
     try simp only [pS, pN, sA, sB, sC]
     refine dP 2 hM ?_
     try simp only [pS, pN, sA, sB, sC]
     refine dP 3 hM ?_
     try simp only [pS, pN, sA, sB, sC]
     refine dP 4 hM ?_
     try simp only [pS, pN, sA, sB, sC]
     refine dC 5 (fun K' hK' => ?_)
     refine oM hM ?_ (hC := part_row hpre.out (by ((repeat constructor) <;> fail)))
     refine hK_out hK' hM ?_
     clear hK' K'
     try simp only [pS, pN, sA, sB, sC]
     refine dC 6 (fun K' hK' => ?_)
     go_wp2_with (first | (go_at_call 28; (with_reducible refine cb hM (CC _) ?_); clear hM; intro W1 hM))
     refine hK_out hK' hM ?_
     clear hK' K'
     try simp only [pS, pN, sA, sB, sC]
     refine dP 7 hM ?_
     try simp only [pS, pN, sA, sB, sC]
     refine dP 8 hM ?_
     try simp only [pS, pN, sA, sB, sC]
     refine dP 9 hM ?_
     try simp only [pS, pN, sA, sB, sC]
     refine dP 10 hM ?_
     try simp only [pS, pN, sA, sB, sC]
     refine dP 11 hM ?_
     try simp only [pS, pN, sA, sB, sC]
     refine dC 12 (fun K' hK' => ?_)
     refine oS hM ?_ (hc := spl_row hpre.out (by ((repeat constructor) <;> fail)))
     clear hM; intro W hM
     refine hK_out hK' hM ?_
     clear hK' K'
     try simp only [pS, pN, sA, sB, sC]
     refine tk_done (by kernel_rfl) ?_
     go_upto_region 21 with (first | ((with_reducible refine lX ?_); first | refine aL hM rfl rfl ?_ | refine aM hM rfl rfl ?_) | ((with_reducible refine sX ?_); refine aS hM rfl rfl rfl ?_; clear hM; intro W hM) | ((with_reducible refine bX ?_); refine aB hM rfl rfl ?_; clear hM; intro g W hM) | ((with_reducible refine zX ?_); refine aN hM rfl rfl ?_; clear hM; intro g W hM))
     try simp only [pS, pN, sA, sB, sC]
     refine region_k [(gt, [.int .i64 tx, .int .i64 ty], 26)] hM (by kernel_rfl) ?_; (clear hM; intro W hM)
     refine dP 0 hM ?_
     try simp only [pS, pN, sA, sB, sC]
     refine dP 1 hM ?_
     try simp only [pS, pN, sA, sB, sC]
     refine dP 2 hM ?_
     try simp only [pS, pN, sA, sB, sC]
     refine dP 3 hM ?_
     try simp only [pS, pN, sA, sB, sC]
     refine dP 4 hM ?_
     try simp only [pS, pN, sA, sB, sC]
     first | refine dL 6 hM ?_ | refine dM 6 hM ?_
     try simp only [pS, pN, sA, sB, sC]
     refine dP 7 hM ?_
     try simp only [pS, pN, sA, sB, sC]
     refine dP 8 hM ?_
     try simp only [pS, pN, sA, sB, sC]
     refine dP 9 hM ?_
     try simp only [pS, pN, sA, sB, sC]
     refine dT 5 10 (fun K' hK' => ?_) (fun K' hK' => ?_)
     ·
      refine oL hM ?_ (hv := row1 hpre.out rfl)
      refine hK_out hK' hM ?_
      clear hK' K'
      try simp only [pS, pN, sA, sB, sC]
      refine dC 10 (fun K' hK' => ?_)
      refine oM hM ?_ (hC := part_row hpre.out (by ((repeat constructor) <;> fail)))
      refine hK_out hK' hM ?_
      clear hK' K'
      try simp only [pS, pN, sA, sB, sC]
      refine dC 11 (fun K' hK' => ?_)
      go_wp2_with (first | (go_at_call 18; (with_reducible refine cb hM (DC _) ?_); clear hM; intro W1 hM))
      refine hK_out hK' hM ?_
      clear hK' K'
      try simp only [pS, pN, sA, sB, sC]
      refine dP 12 hM ?_
      try simp only [pS, pN, sA, sB, sC]
      refine dP 13 hM ?_
      try simp only [pS, pN, sA, sB, sC]
      refine dC 14 (fun K' hK' => ?_)
      refine oS hM ?_ (hc := spl_row hpre.out (by ((repeat constructor) <;> fail)))
      clear hM; intro W hM
      refine hK_out hK' hM ?_
      clear hK' K'
      try simp only [pS, pN, sA, sB, sC]
      refine dP 15 hM ?_
      try simp only [pS, pN, sA, sB, sC]
      refine dP 16 hM ?_
      try simp only [pS, pN, sA, sB, sC]
      refine dC 17 (fun K' hK' => ?_)
      refine oS hM ?_ (hc := spl_row hpre.out (by ((repeat constructor) <;> fail)))
      clear hM; intro W hM
      refine hK_out hK' hM ?_
      clear hK' K'
      try simp only [pS, pN, sA, sB, sC]
      refine tk_done (by kernel_rfl) ?_
      go_wp2_with (first | ((with_reducible refine lX ?_); first | refine aL hM rfl rfl ?_ | refine aM hM rfl rfl ?_) | ((with_reducible refine sX ?_); refine aS hM rfl rfl rfl ?_; clear hM; intro W hM) | ((with_reducible refine bX ?_); refine aB hM rfl rfl ?_; clear hM; intro g W hM) | ((with_reducible refine zX ?_); refine aN hM rfl rfl ?_; clear hM; intro g W hM))
      all_goals
       have e2 : (t.map (·.1)).getD d = d2 := by rw [HN.out, Option.map_some, Option.getD_some, hd1.out, hd2.out]
       have e3 : t.isSome = true := by rw [HN.out, Option.isSome_some]
       have e4 : ((t.map (·.2)).getD y).cells = [.int .u8 y.k, .int .i64 tx, .int .i64 ty, .int .i64 y.bx, .int .i64 y.b_y, .int .i64 y.cx, .int .i64 y.cy, .int .i64 y.r, .int .i64 y.f, .int .i64 y.s, .int .i64 c1, .int .i64 c1, .int .i64 k1, .int .i64 y.n, .bool y.g] := by rw [HN.out, Option.map_some, Option.getD_some]; rfl
       (go_ret; exact ⟨by rw [e3]; rfl, V2, B2, by rw [e2]; exact hO2.out, by rw [e2, e4]; exact mem_tl (mem_tl (mem_tl (mem_tl hM)))⟩)
     ·
      refine oM hM ?_ (hC := part_row hpre.out (by ((repeat constructor) <;> fail)))
      refine hK_out hK' hM ?_
      clear hK' K'
      try simp only [pS, pN, sA, sB, sC]
      refine dT 5 11 (fun K' hK' => ?_) (fun K' hK' => ?_)
      ·
       refine oL hM ?_ (hv := row1 hpre.out rfl)
       refine hK_out hK' hM ?_
       clear hK' K'
       try simp only [pS, pN, sA, sB, sC]
       refine dC 11 (fun K' hK' => ?_)
       go_wp2_with (first | (go_at_call 18; (with_reducible refine cb hM (DC _) ?_); clear hM; intro W1 hM))
       refine hK_out hK' hM ?_
       clear hK' K'
       try simp only [pS, pN, sA, sB, sC]
       refine dP 12 hM ?_
       try simp only [pS, pN, sA, sB, sC]
       refine dP 13 hM ?_
       try simp only [pS, pN, sA, sB, sC]
       refine dC 14 (fun K' hK' => ?_)
       refine oS hM ?_ (hc := spl_row hpre.out (by ((repeat constructor) <;> fail)))
       clear hM; intro W hM
       refine hK_out hK' hM ?_
       clear hK' K'
       try simp only [pS, pN, sA, sB, sC]
       refine dP 15 hM ?_
       try simp only [pS, pN, sA, sB, sC]
       refine dP 16 hM ?_
       try simp only [pS, pN, sA, sB, sC]
       refine dC 17 (fun K' hK' => ?_)
       refine oS hM ?_ (hc := spl_row hpre.out (by ((repeat constructor) <;> fail)))
       clear hM; intro W hM
       refine hK_out hK' hM ?_
       clear hK' K'
       try simp only [pS, pN, sA, sB, sC]
       refine tk_done (by kernel_rfl) ?_
       go_wp2_with (first | ((with_reducible refine lX ?_); first | refine aL hM rfl rfl ?_ | refine aM hM rfl rfl ?_) | ((with_reducible refine sX ?_); refine aS hM rfl rfl rfl ?_; clear hM; intro W hM) | ((with_reducible refine bX ?_); refine aB hM rfl rfl ?_; clear hM; intro g W hM) | ((with_reducible refine zX ?_); refine aN hM rfl rfl ?_; clear hM; intro g W hM))
       all_goals
        have e2 : (t.map (·.1)).getD d = d2 := by rw [HN.out, Option.map_some, Option.getD_some, hd1.out, hd2.out]
        have e3 : t.isSome = true := by rw [HN.out, Option.isSome_some]
        have e4 : ((t.map (·.2)).getD y).cells = [.int .u8 y.k, .int .i64 tx, .int .i64 ty, .int .i64 y.bx, .int .i64 y.b_y, .int .i64 y.cx, .int .i64 y.cy, .int .i64 y.r, .int .i64 y.f, .int .i64 y.s, .int .i64 c1, .int .i64 c1, .int .i64 k1, .int .i64 y.n, .bool y.g] := by rw [HN.out, Option.map_some, Option.getD_some]; rfl
        (go_ret; exact ⟨by rw [e3]; rfl, V2, B2, by rw [e2]; exact hO2.out, by rw [e2, e4]; exact mem_tl (mem_tl (mem_tl (mem_tl hM)))⟩)
      ·
       go_wp2_with (first | (go_at_call 18; (with_reducible refine cb hM (DC _) ?_); clear hM; intro W1 hM))
       refine hK_out hK' hM ?_
       clear hK' K'
       try simp only [pS, pN, sA, sB, sC]
       refine dC 5 (fun K' hK' => ?_)
       refine oL hM ?_ (hv := row1 hpre.out rfl)
       refine hK_out hK' hM ?_
       clear hK' K'
       try simp only [pS, pN, sA, sB, sC]
       refine dP 12 hM ?_
       try simp only [pS, pN, sA, sB, sC]
       refine dP 13 hM ?_
       try simp only [pS, pN, sA, sB, sC]
       refine dC 14 (fun K' hK' => ?_)
       refine oS hM ?_ (hc := spl_row hpre.out (by ((repeat constructor) <;> fail)))
       clear hM; intro W hM
       refine hK_out hK' hM ?_
       clear hK' K'
       try simp only [pS, pN, sA, sB, sC]
       refine dP 15 hM ?_
       try simp only [pS, pN, sA, sB, sC]
       refine dP 16 hM ?_
       try simp only [pS, pN, sA, sB, sC]
       refine dC 17 (fun K' hK' => ?_)
       refine oS hM ?_ (hc := spl_row hpre.out (by ((repeat constructor) <;> fail)))
       clear hM; intro W hM
       refine hK_out hK' hM ?_
       clear hK' K'
       try simp only [pS, pN, sA, sB, sC]
       refine tk_done (by kernel_rfl) ?_
       go_wp2_with (first | ((with_reducible refine lX ?_); first | refine aL hM rfl rfl ?_ | refine aM hM rfl rfl ?_) | ((with_reducible refine sX ?_); refine aS hM rfl rfl rfl ?_; clear hM; intro W hM) | ((with_reducible refine bX ?_); refine aB hM rfl rfl ?_; clear hM; intro g W hM) | ((with_reducible refine zX ?_); refine aN hM rfl rfl ?_; clear hM; intro g W hM))
       all_goals
        have e2 : (t.map (·.1)).getD d = d2 := by rw [HN.out, Option.map_some, Option.getD_some, hd1.out, hd2.out]
        have e3 : t.isSome = true := by rw [HN.out, Option.isSome_some]
        have e4 : ((t.map (·.2)).getD y).cells = [.int .u8 y.k, .int .i64 tx, .int .i64 ty, .int .i64 y.bx, .int .i64 y.b_y, .int .i64 y.cx, .int .i64 y.cy, .int .i64 y.r, .int .i64 y.f, .int .i64 y.s, .int .i64 c1, .int .i64 c1, .int .i64 k1, .int .i64 y.n, .bool y.g] := by rw [HN.out, Option.map_some, Option.getD_some]; rfl
        (go_ret; exact ⟨by rw [e3]; rfl, V2, B2, by rw [e2]; exact hO2.out, by rw [e2, e4]; exact mem_tl (mem_tl (mem_tl (mem_tl hM)))⟩)
     )
end Go.Proofs.YtbhpklpkcgcmfaaGreatDoor
