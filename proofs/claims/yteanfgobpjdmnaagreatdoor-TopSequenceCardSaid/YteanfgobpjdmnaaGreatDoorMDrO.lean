/-
  The turn of a waypoint that is flown over, by boxes.
-/
import Derived.Test.YteanfgobpjdmnaaGreatDoorMAroM
import Derived.Test.YteanfgobpjdmnaaGreatDoorMDrM
import Derived.Test.YteanfgobpjdmnaaGreatDoorMMemR
import Derived.Test.YteanfgobpjdmnaaGreatDoorMTanM
namespace Go.Proofs.YteanfgobpjdmnaaGreatDoor
open Go.RowKit
set_option linter.unusedVariables false
set_option linter.unusedSimpArgs false
theorem Wy {rad D : Int} {d : Dw} {x y : Tk} (hD : zw x.co y.ci = D) (h : D = 0) : Zp rad d x y = none := by unfold Zp; dsimp only; rw [hD, if_pos h]
theorem Mt {rad D kx ky e : Int} {d : Dw} {x y : Tk} (hD : zw x.co y.ci = D) (h : ¬ D = 0) (hr : zi x.bx x.b_y (JX x.co D) rad = (kx, ky, e)) (he : e ≠ 0) : Zp rad d x y = none := by unfold Zp; dsimp only; rw [hD, if_neg h, hr, if_pos he]
theorem Mu {rad D kx ky tx ty e : Int} {d : Dw} {x y : Tk} {b : Bool} (hD : zw x.co y.ci = D) (hb : b = decide (0 < D)) (h : ¬ D = 0) (hr : zi x.bx x.b_y (JX x.co D) rad = (kx, ky, 0)) (ht : xX kx ky rad y.bx y.b_y b = (tx, ty, e)) (he : e ≠ 0) : Zp rad d x y = none := by
 subst hb; unfold Zp; dsimp only; rw [hD, if_neg h, hr, if_neg (by simp), ht, if_pos he]
theorem Mv {rad D kx ky tx ty v0 v1 v2 v3 v4 e : Int} {d : Dw} {x y : Tk} {b : Bool} (hD : zw x.co y.ci = D) (hb : b = decide (0 < D)) (h : ¬ D = 0) (hr : zi x.bx x.b_y (JX x.co D) rad = (kx, ky, 0)) (ht : xX kx ky rad y.bx y.b_y b = (tx, ty, 0)) (ha : jh x.bx x.b_y kx ky tx ty b = ([v0, v1, v2, v3, v4], e)) :
 Zp rad d x y = if e ≠ 0 then none else some (yu (zJ d x.bx x.b_y x.n) v0 v1 v2 v3 v4 tx ty y.n, if tx = y.bx ∧ ty = y.b_y then { y with ax := tx, ay := ty, co := y.ci, len := 0 } else { y with ax := tx, ay := ty, ci := (qF tx ty y.bx y.b_y).1, co := (qF tx ty y.bx y.b_y).1, len := qJ tx ty y.bx y.b_y }) := by
 subst hb; unfold Zp; dsimp only; rw [hD, if_neg h, hr, if_neg (by simp), ht, if_neg (by simp), ha]
theorem sI (ax ay cx cy bx b_y : Int) (right : Bool) : ∃ v0 v1 v2 v3 v4 e0 : Int, jh ax ay cx cy bx b_y right = ([v0, v1, v2, v3, v4], e0) := by
 unfold jh
 split
 · exact ⟨_, _, _, _, _, _, rfl⟩
 split
 · exact ⟨_, _, _, _, _, _, rfl⟩
 exact ⟨_, _, _, _, _, _, rfl⟩
set_option maxRecDepth 100000 in
set_option maxHeartbeats 8000000 in
theorem cG {w0 w : World} {gd : Nat} {rad : Int} {V : Value} {d : Dw} {B R : List zz} {m gT o : Nat} {pre post : List Value} (x y : Tk) (t : Option (Dw × Tk)) (ht : Hid (t = Zp rad d x y)) (hr : 1 ≤ rad) (hr8 : rad ≤ 8000000) (hx : -129600000 ≤ x.co ∧ x.co ≤ 259200000) (hy : -129600000 ≤ y.ci ∧ y.ci ≤ 259200000) (hpre : Hid (pre.length = o))
 (hM : qQ w0 w ((gd, uq V d rad, 66) :: (B ++ ((gT, pre ++ mid [.int .u8 y.k, .int .i64 y.ax, .int .i64 y.ay, .int .i64 y.bx, .int .i64 y.b_y, .int .i64 y.cx, .int .i64 y.cy, .int .i64 y.r, .int .i64 y.f, .int .i64 y.s, .int .i64 y.ci, .int .i64 y.co, .int .i64 y.len, .int .i64 y.n, .bool y.g] post, 69) :: R)))) (hO : Hid (bG V d.els B m)) (hm : m ≤ 90000 := by omega) :
 Calls Tryz.prog 38 #[.pointer (some ⟨gd, 0, none⟩), .agg #[.int .u8 x.k, .int .i64 x.ax, .int .i64 x.ay, .int .i64 x.bx, .int .i64 x.b_y, .int .i64 x.cx, .int .i64 x.cy, .int .i64 x.r, .int .i64 x.f, .int .i64 x.s, .int .i64 x.ci, .int .i64 x.co, .int .i64 x.len, .int .i64 x.n, .bool x.g], .pointer (some ⟨gT, o, none⟩)] w fun e w' => e = .returned (.bool t.isSome) ∧ ∃ V' B', bG V' ((t.map (·.1)).getD d).els B' (m + 2) ∧ qQ w0 w' ((gd, uq V' ((t.map (·.1)).getD d) rad, 66) :: (B' ++ ((gT, pre ++ mid ((t.map (·.2)).getD y).cells post, 69) :: R))) := by
 have db := ZX x.co y.ci
 have DF := fun W => Km x.co y.ci (by unfold qH; omega) (by unfold qH; omega) W
 obtain ⟨D, hD⟩ : ∃ D, zw x.co y.ci = D := ⟨_, rfl⟩
 rw [hD] at DF db
 have HD := hide hD
 clear hD
 go_enter Tryz.func38, Tryz.ntmps38
 go_upto_region 0 with fail
 try simp only [pS, pN, sA, sB, sC]
 go_cut [4] (fun s4 wx => ∃ gx : Nat, s4 = .pointer (some ⟨gx, 0, none⟩) ∧ qQ w0 wx ((gx, [.int .u8 x.k, .int .i64 x.ax, .int .i64 x.ay, .int .i64 x.bx, .int .i64 x.b_y, .int .i64 x.cx, .int .i64 x.cy, .int .i64 x.r, .int .i64 x.f, .int .i64 x.s, .int .i64 x.ci, .int .i64 x.co, .int .i64 x.len, .int .i64 x.n, .bool x.g], 69) :: ((gd, uq V d rad, 66) :: (B ++ ((gT, pre ++ mid [.int .u8 y.k, .int .i64 y.ax, .int .i64 y.ay, .int .i64 y.bx, .int .i64 y.b_y, .int .i64 y.cx, .int .i64 y.cy, .int .i64 y.r, .int .i64 y.f, .int .i64 y.s, .int .i64 y.ci, .int .i64 y.co, .int .i64 y.len, .int .i64 y.n, .bool y.g] post, 69) :: R)))))
 case first =>
  go_wp2_with (first | ((with_reducible refine lX ?_); refine mL ?_) | ((with_reducible refine sX ?_); refine mS ?_; clear hM; intro W hM) | ((with_reducible refine bX ?_); refine mB ?_; clear hM; intro g W hM) | ((with_reducible refine zX ?_); refine mB ?_; clear hM; intro g W hM))
  all_goals
   go_meet
   exact ⟨_, rfl, hM⟩
 case rest =>
 clear hM
 obtain ⟨gx, rfl, hM⟩ := hcut
 go_upto_region 1 with (first | ((with_reducible refine lX ?_); refine mL ?_) | ((with_reducible refine sX ?_); refine mS ?_; clear hM; intro W hM) | ((with_reducible refine zX ?_); refine mB ?_; clear hM; intro g W hM))
 try simp only [pS, pN, sA, sB, sC]
 refine qW [(gx, [.int .u8 x.k, .int .i64 x.ax, .int .i64 x.ay, .int .i64 x.bx, .int .i64 x.b_y, .int .i64 x.cx, .int .i64 x.cy, .int .i64 x.r, .int .i64 x.f, .int .i64 x.s, .int .i64 x.ci, .int .i64 x.co, .int .i64 x.len, .int .i64 x.n, .bool x.g], 69), (gT, pre ++ mid [.int .u8 y.k, .int .i64 y.ax, .int .i64 y.ay, .int .i64 y.bx, .int .i64 y.b_y, .int .i64 y.cx, .int .i64 y.cy, .int .i64 y.r, .int .i64 y.f, .int .i64 y.s, .int .i64 y.ci, .int .i64 y.co, .int .i64 y.len, .int .i64 y.n, .bool y.g] post, 69)] hM (by kernel_rfl) ?_; (clear hM; intro W hM)
 refine rD 0 ?_
 refine rD 1 ?_
 refine rD 2 ?_
 refine rD 3 ?_
 refine rD 4 ?_
 refine dL 5 hM ?_ (hv := QK hpre.out rfl)
 try simp only [pS, pN, sA, sB, sC]
 refine dC 6 (fun K' hK' => ?_)
 go_wp2_with (first | (go_at_call 74; (with_reducible refine (DF _).mono ?_); rintro e W1 ⟨rfl, rfl⟩))
 refine rK hK' hM ?_; clear hK' K'
 refine rD 7 ?_
 refine qE (by kernel_rfl) ?_
 by_cases h0 : D = 0
 · have hn : t = none := ht.out.trans (Wy HD.out h0)
   have hz : (D == 0) = true := by simpa using h0
   clear h0 ht
   go_wp2_with (first | ((with_reducible refine lX ?_); refine mL ?_) | ((with_reducible refine sX ?_); refine mS ?_; clear hM; intro W hM) | ((with_reducible refine zX ?_); refine mB ?_; clear hM; intro g W hM))
   all_goals
    (go_ret; (try rw [hn]); exact ⟨rfl, V, B, ⟨hO.out.1, Nat.le_trans hO.out.2 (by omega)⟩, qz (hM)⟩)
 have hz : (D == 0) = false := by simpa using h0
 go_upto_if 24 with (first | ((with_reducible refine lX ?_); refine mL ?_) | ((with_reducible refine sX ?_); refine mS ?_; clear hM; intro W hM) | ((with_reducible refine zX ?_); refine mB ?_; clear hM; intro g W hM))
 try simp only [pS, pN, sA, sB, sC]
 go_cut [8, 9] (fun s8 s9 wx => ∃ q b : Int, ∃ right : Bool, s8 = .int .u8 b ∧ s9 = .int .i64 q ∧ (q = 32400000 ∨ q = -32400000) ∧ Hid (JX x.co D = x.co + q) ∧ Hid (right = decide (0 < D)) ∧ (b = 1 ∧ right = false ∨ b = 2 ∧ right = true) ∧ qQ w0 wx ((gx, [.int .u8 x.k, .int .i64 x.ax, .int .i64 x.ay, .int .i64 x.bx, .int .i64 x.b_y, .int .i64 x.cx, .int .i64 x.cy, .int .i64 x.r, .int .i64 x.f, .int .i64 x.s, .int .i64 x.ci, .int .i64 x.co, .int .i64 x.len, .int .i64 x.n, .bool x.g], 69) :: ((gd, uq V d rad, 66) :: (B ++ ((gT, pre ++ mid [.int .u8 y.k, .int .i64 y.ax, .int .i64 y.ay, .int .i64 y.bx, .int .i64 y.b_y, .int .i64 y.cx, .int .i64 y.cy, .int .i64 y.r, .int .i64 y.f, .int .i64 y.s, .int .i64 y.ci, .int .i64 y.co, .int .i64 y.len, .int .i64 y.n, .bool y.g] post, 69) :: R)))))
 case first =>
  by_cases hlt : D < 0
  · have h1 : ¬ 0 < D := by omega
    go_wp2_with (first | ((with_reducible refine lX ?_); refine mL ?_) | ((with_reducible refine sX ?_); refine mS ?_; clear hM; intro W hM) | ((with_reducible refine zX ?_); refine mB ?_; clear hM; intro g W hM))
    all_goals
     go_meet
     exact ⟨-32400000, 1, false, rfl, rfl, .inr rfl, hide (by unfold JX; rw [if_neg (by omega)]), hide (decide_eq_false (by omega)).symm, .inl ⟨rfl, rfl⟩, hM⟩
  · have h1 : 0 < D := by omega
    go_wp2_with (first | ((with_reducible refine lX ?_); refine mL ?_) | ((with_reducible refine sX ?_); refine mS ?_; clear hM; intro W hM) | ((with_reducible refine zX ?_); refine mB ?_; clear hM; intro g W hM))
    all_goals
     go_meet
     exact ⟨32400000, 2, true, rfl, rfl, .inl rfl, hide (by unfold JX; rw [if_pos (by omega)]), hide (decide_eq_true (by omega)).symm, .inr ⟨rfl, rfl⟩, hM⟩
 case rest =>
 clear hM
 obtain ⟨q, b, right, rfl, rfl, qb, HF, HB, hbr, hM⟩ := hcut
 have w1 := IntWalk.i64_in (x.co + q) (by omega)
 obtain ⟨kx, ky, e1, hr1⟩ : ∃ kx ky e1, zi x.bx x.b_y (x.co + q) rad = (kx, ky, e1) := ⟨_, _, _, rfl⟩
 have RY := fun W => jp x.bx x.b_y (x.co + q) rad (by unfold qH; omega) (by unfold qH; omega) W _ hr1.symm
 have HR1 := hide (show zi x.bx x.b_y (JX x.co D) rad = (kx, ky, e1) by rw [HF.out]; exact hr1)
 clear hr1
 go_upto_region 7 with (first | ((with_reducible refine lX ?_); refine mL ?_) | ((with_reducible refine sX ?_); refine mS ?_; clear hM; intro W hM) | ((with_reducible refine zX ?_); refine mB ?_; clear hM; intro g W hM))
 try simp only [pS, pN, sA, sB, sC]
 go_cut [10, 11] (fun s10 s11 wx => ∃ gc : Nat, s10 = .pointer (some ⟨gc, 0, none⟩) ∧ s11 = .int .i64 e1 ∧ qQ w0 wx ((gc, [.int .i64 kx, .int .i64 ky], 26) :: ((gx, [.int .u8 x.k, .int .i64 x.ax, .int .i64 x.ay, .int .i64 x.bx, .int .i64 x.b_y, .int .i64 x.cx, .int .i64 x.cy, .int .i64 x.r, .int .i64 x.f, .int .i64 x.s, .int .i64 x.ci, .int .i64 x.co, .int .i64 x.len, .int .i64 x.n, .bool x.g], 69) :: ((gd, uq V d rad, 66) :: (B ++ ((gT, pre ++ mid [.int .u8 y.k, .int .i64 y.ax, .int .i64 y.ay, .int .i64 y.bx, .int .i64 y.b_y, .int .i64 y.cx, .int .i64 y.cy, .int .i64 y.r, .int .i64 y.f, .int .i64 y.s, .int .i64 y.ci, .int .i64 y.co, .int .i64 y.len, .int .i64 y.n, .bool y.g] post, 69) :: R))))))
 case first =>
  refine qW [(gx, [.int .u8 x.k, .int .i64 x.ax, .int .i64 x.ay, .int .i64 x.bx, .int .i64 x.b_y, .int .i64 x.cx, .int .i64 x.cy, .int .i64 x.r, .int .i64 x.f, .int .i64 x.s, .int .i64 x.ci, .int .i64 x.co, .int .i64 x.len, .int .i64 x.n, .bool x.g], 69), (gd, uq V d rad, 66)] hM (by kernel_rfl) ?_; (clear hM; intro W hM)
  refine rD 0 ?_
  refine rD 1 ?_
  refine rD 2 ?_
  refine rD 3 ?_
  refine rD 4 ?_
  refine rD 5 ?_
  refine rD 6 ?_
  refine rD 7 ?_
  refine rD 8 ?_
  refine rD 9 ?_
  refine dT 10 14 (fun K' hK' => ?_) (fun K' hK' => ?_)
  ·
   go_wp2_with (first | (go_at_call 70; (with_reducible refine cb hM (RY _) ?_); clear hM; intro W1 hM))
   refine rK hK' hM ?_; clear hK' K'
   refine rD 11 ?_
   refine rD 12 ?_
   refine rD 13 ?_
   refine dC 14 (fun K' hK' => ?_)
   refine oN hM ?_
   clear hM; intro g10 W hM
   refine rK hK' hM ?_; clear hK' K'
   refine dC 15 (fun K' hK' => ?_)
   refine oS hM ?_
   clear hM; intro W hM
   refine rK hK' hM ?_; clear hK' K'
   refine rD 16 ?_
   refine qE (by kernel_rfl) ?_
   go_wp2_with fail
   all_goals
    go_meet
    exact ⟨_, rfl, rfl, hM⟩
  ·
   refine oN hM ?_
   clear hM; intro g10 W hM
   refine rK hK' hM ?_; clear hK' K'
   refine dC 10 (fun K' hK' => ?_)
   go_wp2_with (first | (go_at_call 70; (with_reducible refine cb hM (RY _) ?_); clear hM; intro W1 hM))
   refine rK hK' hM ?_; clear hK' K'
   refine rD 11 ?_
   refine rD 12 ?_
   refine rD 13 ?_
   refine dC 15 (fun K' hK' => ?_)
   refine oS hM ?_
   clear hM; intro W hM
   refine rK hK' hM ?_; clear hK' K'
   refine rD 16 ?_
   refine qE (by kernel_rfl) ?_
   go_wp2_with fail
   all_goals
    go_meet
    exact ⟨_, rfl, rfl, hM⟩
 case rest =>
 clear hM
 obtain ⟨gc, rfl, rfl, hM⟩ := hcut
 by_cases he1 : e1 = 0
 rotate_left 1
 · have hn : t = none := ht.out.trans (Mt HD.out h0 HR1.out he1)
   have he1' : (e1 != 0) = true := by simpa using he1
   clear he1 ht
   go_wp2_with (first | ((with_reducible refine lX ?_); refine mL ?_) | ((with_reducible refine sX ?_); refine mS ?_; clear hM; intro W hM) | ((with_reducible refine zX ?_); refine mB ?_; clear hM; intro g W hM))
   all_goals
    (go_ret; (try rw [hn]); exact ⟨rfl, V, B, ⟨hO.out.1, Nat.le_trans hO.out.2 (by omega)⟩, qz (qz (hM))⟩)
 subst he1
 obtain ⟨tx, ty, e2, ht2⟩ : ∃ tx ty e2, xX kx ky rad y.bx y.b_y right = (tx, ty, e2) := ⟨_, _, _, rfl⟩
 have TA := fun W => Ft kx ky rad y.bx y.b_y b right hbr W tx ty e2 (hide ht2.symm)
 have HT2 := hide ht2
 clear ht2 RY
 go_upto_region 10 with (first | ((with_reducible refine lX ?_); refine mL ?_) | ((with_reducible refine sX ?_); refine mS ?_; clear hM; intro W hM) | ((with_reducible refine zX ?_); refine mB ?_; clear hM; intro g W hM))
 try simp only [pS, pN, sA, sB, sC]
 go_cut [12, 11] (fun s12 s11 wx => ∃ gt : Nat, s12 = .pointer (some ⟨gt, 0, none⟩) ∧ s11 = .int .i64 e2 ∧ qQ w0 wx ((gt, [.int .i64 tx, .int .i64 ty], 26) :: ((gc, [.int .i64 kx, .int .i64 ky], 26) :: ((gx, [.int .u8 x.k, .int .i64 x.ax, .int .i64 x.ay, .int .i64 x.bx, .int .i64 x.b_y, .int .i64 x.cx, .int .i64 x.cy, .int .i64 x.r, .int .i64 x.f, .int .i64 x.s, .int .i64 x.ci, .int .i64 x.co, .int .i64 x.len, .int .i64 x.n, .bool x.g], 69) :: ((gd, uq V d rad, 66) :: (B ++ ((gT, pre ++ mid [.int .u8 y.k, .int .i64 y.ax, .int .i64 y.ay, .int .i64 y.bx, .int .i64 y.b_y, .int .i64 y.cx, .int .i64 y.cy, .int .i64 y.r, .int .i64 y.f, .int .i64 y.s, .int .i64 y.ci, .int .i64 y.co, .int .i64 y.len, .int .i64 y.n, .bool y.g] post, 69) :: R)))))))
 case first =>
  refine qW [(gc, [.int .i64 kx, .int .i64 ky], 26), (gd, uq V d rad, 66), (gT, pre ++ mid [.int .u8 y.k, .int .i64 y.ax, .int .i64 y.ay, .int .i64 y.bx, .int .i64 y.b_y, .int .i64 y.cx, .int .i64 y.cy, .int .i64 y.r, .int .i64 y.f, .int .i64 y.s, .int .i64 y.ci, .int .i64 y.co, .int .i64 y.len, .int .i64 y.n, .bool y.g] post, 69)] hM (by kernel_rfl) ?_; (clear hM; intro W hM)
  refine rD 0 ?_
  refine rD 1 ?_
  refine rD 2 ?_
  refine rD 3 ?_
  refine rD 4 ?_
  refine rD 5 ?_
  refine rD 6 ?_
  refine rD 7 ?_
  refine rD 8 ?_
  refine dM 9 hM ?_ (hC := vG hpre.out (by ((repeat constructor) <;> fail)))
  try simp only [pS, pN, sA, sB, sC]
  refine dT 10 14 (fun K' hK' => ?_) (fun K' hK' => ?_)
  ·
   go_wp2_with (first | (go_at_call 75; (with_reducible refine cb hM (TA _) ?_); clear hM; intro W1 hM))
   refine rK hK' hM ?_; clear hK' K'
   refine rD 11 ?_
   refine rD 12 ?_
   refine rD 13 ?_
   refine dC 14 (fun K' hK' => ?_)
   refine oN hM ?_
   clear hM; intro g12 W hM
   refine rK hK' hM ?_; clear hK' K'
   refine dC 15 (fun K' hK' => ?_)
   refine oS hM ?_
   clear hM; intro W hM
   refine rK hK' hM ?_; clear hK' K'
   refine rD 16 ?_
   refine qE (by kernel_rfl) ?_
   go_wp2_with fail
   all_goals
    go_meet
    exact ⟨_, rfl, rfl, hM⟩
  ·
   refine oN hM ?_
   clear hM; intro g12 W hM
   refine rK hK' hM ?_; clear hK' K'
   refine dC 10 (fun K' hK' => ?_)
   go_wp2_with (first | (go_at_call 75; (with_reducible refine cb hM (TA _) ?_); clear hM; intro W1 hM))
   refine rK hK' hM ?_; clear hK' K'
   refine rD 11 ?_
   refine rD 12 ?_
   refine rD 13 ?_
   refine dC 15 (fun K' hK' => ?_)
   refine oS hM ?_
   clear hM; intro W hM
   refine rK hK' hM ?_; clear hK' K'
   refine rD 16 ?_
   refine qE (by kernel_rfl) ?_
   go_wp2_with fail
   all_goals
    go_meet
    exact ⟨_, rfl, rfl, hM⟩
 case rest =>
 clear hM
 obtain ⟨gt, rfl, rfl, hM⟩ := hcut
 by_cases he2 : e2 = 0
 rotate_left 1
 · have hn : t = none := ht.out.trans (Mu HD.out HB.out h0 HR1.out HT2.out he2)
   have he2' : (e2 != 0) = true := by simpa using he2
   clear he2 ht
   go_wp2_with (first | ((with_reducible refine lX ?_); refine mL ?_) | ((with_reducible refine sX ?_); refine mS ?_; clear hM; intro W hM) | ((with_reducible refine zX ?_); refine mB ?_; clear hM; intro g W hM))
   all_goals
    (go_ret; (try rw [hn]); exact ⟨rfl, V, B, ⟨hO.out.1, Nat.le_trans hO.out.2 (by omega)⟩, qz (qz (qz (hM)))⟩)
 subst he2
 obtain ⟨v0, v1, v2, v3, v4, e3, ha3⟩ := sI x.bx x.b_y kx ky tx ty right
 have AO := fun W => YU x.bx x.b_y kx ky tx ty b right hbr W v0 v1 v2 v3 v4 e3 ha3.symm
 have HT := hide (ht.out.trans (Mv HD.out HB.out h0 HR1.out HT2.out ha3))
 clear ha3 ht HD HB HR1 HT2 TA hbr HF
 by_cases he3 : e3 = 0
 rotate_left 1
 · have hn : t = none := by rw [HT.out, if_pos he3]
   have he3' : (e3 != 0) = true := by simpa using he3
   clear he3 HT
   go_wp2_with (first | (go_at_call 76; (with_reducible refine cb hM (AO _) ?_); clear hM; intro W1 hM) | ((with_reducible refine lX ?_); refine mL ?_) | ((with_reducible refine sX ?_); refine mS ?_; clear hM; intro W hM) | ((with_reducible refine zX ?_); refine mB ?_; clear hM; intro g W hM))
   all_goals
    (go_ret; (try rw [hn]); exact ⟨rfl, V, B, ⟨hO.out.1, Nat.le_trans hO.out.2 (by omega)⟩, qz (qz (qz (qz (hM))))⟩)
 subst he3
 have HT3 := hide (HT.out.trans (if_neg (by simp)))
 clear HT
 go_upto_region 17 with (first | (go_at_call 76; (with_reducible refine cb hM (AO _) ?_); clear hM; intro W1 hM) | (go_at_call 11; (with_reducible refine cD hM (fun R' hM' => QY x.bx x.b_y x.n hM' hO) ?_); clear hM hO; intro d1 V1 B1 W1 hd1 hO1 hM; simp only [List.cons_append, List.nil_append] at hM) | ((with_reducible refine lX ?_); refine mL ?_) | ((with_reducible refine sX ?_); refine mS ?_; clear hM; intro W hM) | ((with_reducible refine zX ?_); refine mB ?_; clear hM; intro g W hM))
 try simp only [pS, pN, sA, sB, sC]
 obtain ⟨ga, rfl⟩ : ∃ ga, ga = g := ⟨_, rfl⟩
 refine qW [(ga, [.int .i64 v0, .int .i64 v1, .int .i64 v2, .int .i64 v3, .int .i64 v4], 47), (gt, [.int .i64 tx, .int .i64 ty], 26), (gT, pre ++ mid [.int .u8 y.k, .int .i64 y.ax, .int .i64 y.ay, .int .i64 y.bx, .int .i64 y.b_y, .int .i64 y.cx, .int .i64 y.cy, .int .i64 y.r, .int .i64 y.f, .int .i64 y.s, .int .i64 y.ci, .int .i64 y.co, .int .i64 y.len, .int .i64 y.n, .bool y.g] post, 69)] hM (by kernel_rfl) ?_; (clear hM; intro W hM)
 refine rD 0 ?_
 refine rD 1 ?_
 refine rD 2 ?_
 refine rD 3 ?_
 refine rD 4 ?_
 refine rD 5 ?_
 refine dL 6 hM ?_ (hv := QK hpre.out rfl)
 try simp only [pS, pN, sA, sB, sC]
 refine dC 7 (fun K' hK' => ?_)
 go_wp2_with (first | (go_at_call 12; (with_reducible refine cD hM (fun R' hM' => mG v0 v1 v2 v3 v4 tx ty y.n hM' hO1) ?_); clear hM hO1; intro d2 V2 B2 W2 hd2 hO2 hM; simp only [List.cons_append, List.nil_append] at hM))
 refine rK hK' hM ?_; clear hK' K'
 refine qE (by kernel_rfl) ?_
 go_upto_region 18 with (first | ((with_reducible refine lX ?_); refine mL ?_) | ((with_reducible refine sX ?_); refine mS ?_; clear hM; intro W hM) | ((with_reducible refine zX ?_); refine mB ?_; clear hM; intro g W hM))
 try simp only [pS, pN, sA, sB, sC]
 refine qW [(gt, [.int .i64 tx, .int .i64 ty], 26)] hM (by kernel_rfl) ?_; (clear hM; intro W hM)
 refine rD 0 ?_
 refine rD 1 ?_
 refine rD 2 ?_
 refine rD 3 ?_
 refine rD 4 ?_
 refine rD 5 ?_
 refine rD 6 ?_
 refine dC 7 (fun K' hK' => ?_)
 refine oL hM ?_ (hv := QK hpre.out rfl)
 refine rK hK' hM ?_; clear hK' K'
 refine rD 8 ?_
 refine rD 9 ?_
 refine dC 10 (fun K' hK' => ?_)
 refine oS hM ?_ (hc := kI hpre.out (by ((repeat constructor) <;> fail)))
 clear hM; intro W hM
 refine rK hK' hM ?_; clear hK' K'
 refine rD 11 ?_
 refine rD 12 ?_
 refine dC 13 (fun K' hK' => ?_)
 refine oS hM ?_ (hc := kI hpre.out (by ((repeat constructor) <;> fail)))
 clear hM; intro W hM
 refine rK hK' hM ?_; clear hK' K'
 refine rD 14 ?_
 refine rD 15 ?_
 refine dC 16 (fun K' hK' => ?_)
 refine oS hM ?_ (hc := kI hpre.out (by ((repeat constructor) <;> fail)))
 clear hM; intro W hM
 refine rK hK' hM ?_; clear hK' K'
 refine qE (by kernel_rfl) ?_
 go_upto_region 19 with (first | ((with_reducible refine lX ?_); refine mL ?_) | ((with_reducible refine sX ?_); refine mS ?_; clear hM; intro W hM) | ((with_reducible refine zX ?_); refine mB ?_; clear hM; intro g W hM))
 try simp only [pS, pN, sA, sB, sC]
 by_cases hq : tx = y.bx ∧ ty = y.b_y
 · have hq1 := hq.1
   have hq2 := hq.2
   refine qW [(gt, [.int .i64 tx, .int .i64 ty], 26), (gT, pre ++ mid [.int .u8 y.k, .int .i64 tx, .int .i64 ty, .int .i64 y.bx, .int .i64 y.b_y, .int .i64 y.cx, .int .i64 y.cy, .int .i64 y.r, .int .i64 y.f, .int .i64 y.s, .int .i64 y.ci, .int .i64 y.ci, .int .i64 0, .int .i64 y.n, .bool y.g] post, 69)] hM (by kernel_rfl) ?_; (clear hM; intro W hM)
   refine rD 0 ?_
   refine rD 1 ?_
   refine rD 2 ?_
   refine rD 3 ?_
   refine dM 4 hM ?_ (hC := vG hpre.out (by ((repeat constructor) <;> fail)))
   try simp only [pS, pN, sA, sB, sC]
   refine dP 5 (v := .bool false) hM ?_ (hv := by (intro W0; go_simp; (try rw [if_pos hq1, if_pos hq2])))
   try simp only [pS, pN, sA, sB, sC]
   refine qE (by kernel_rfl) ?_
   have HN := hide (show t = some (yu (zJ d x.bx x.b_y x.n) v0 v1 v2 v3 v4 tx ty y.n, { y with ax := tx, ay := ty, co := y.ci, len := 0 }) by rw [HT3.out, if_pos hq])
   go_wp2_with (first | ((with_reducible refine lX ?_); refine mL ?_) | ((with_reducible refine sX ?_); refine mS ?_; clear hM; intro W hM) | ((with_reducible refine zX ?_); refine mB ?_; clear hM; intro g W hM))
   all_goals
    have e2 : (t.map (·.1)).getD d = d2 := by rw [HN.out, Option.map_some, Option.getD_some, hd1.out, hd2.out]
    have e3 : t.isSome = true := by rw [HN.out, Option.isSome_some]
    have e4 : ((t.map (·.2)).getD y).cells = [.int .u8 y.k, .int .i64 tx, .int .i64 ty, .int .i64 y.bx, .int .i64 y.b_y, .int .i64 y.cx, .int .i64 y.cy, .int .i64 y.r, .int .i64 y.f, .int .i64 y.s, .int .i64 y.ci, .int .i64 y.ci, .int .i64 0, .int .i64 y.n, .bool y.g] := by rw [HN.out, Option.map_some, Option.getD_some]; rfl
    (go_ret; exact ⟨by rw [e3]; rfl, V2, B2, by rw [e2]; exact hO2.out, by rw [e2, e4]; exact qz (qz (qz (qz hM)))⟩)
 · (
   refine qW [(gt, [.int .i64 tx, .int .i64 ty], 26), (gT, pre ++ mid [.int .u8 y.k, .int .i64 tx, .int .i64 ty, .int .i64 y.bx, .int .i64 y.b_y, .int .i64 y.cx, .int .i64 y.cy, .int .i64 y.r, .int .i64 y.f, .int .i64 y.s, .int .i64 y.ci, .int .i64 y.ci, .int .i64 0, .int .i64 y.n, .bool y.g] post, 69)] hM (by kernel_rfl) ?_; (clear hM; intro W hM)
   refine rD 0 ?_
   refine rD 1 ?_
   refine rD 2 ?_
   refine rD 3 ?_
   refine dM 4 hM ?_ (hC := vG hpre.out (by ((repeat constructor) <;> fail)))
   try simp only [pS, pN, sA, sB, sC]
   refine dP 5 (v := .bool true) hM ?_ (hv := by (intro W0; go_simp; exact fun h1 h2 => hq ⟨h1, h2⟩))
   try simp only [pS, pN, sA, sB, sC]
   refine qE (by kernel_rfl) ?_
   have CC := fun W => yd tx ty y.bx y.b_y W
   have DC := fun W => jJ tx ty y.bx y.b_y W
   obtain ⟨c1, hc1⟩ : ∃ c1, (qF tx ty y.bx y.b_y).1 = c1 := ⟨_, rfl⟩
   obtain ⟨k1, hk1⟩ : ∃ k1, qJ tx ty y.bx y.b_y = k1 := ⟨_, rfl⟩
   have HN := hide (show t = some (yu (zJ d x.bx x.b_y x.n) v0 v1 v2 v3 v4 tx ty y.n, { y with ax := tx, ay := ty, ci := c1, co := c1, len := k1 }) by rw [HT3.out, if_neg hq, hc1, hk1])
   rw [hc1] at CC
   rw [hk1] at DC
   clear hc1 hk1 HT3 hq
   go_upto_region 20 with (first | ((with_reducible refine lX ?_); refine mL ?_) | ((with_reducible refine sX ?_); refine mS ?_; clear hM; intro W hM) | ((with_reducible refine zX ?_); refine mB ?_; clear hM; intro g W hM))
   try simp only [pS, pN, sA, sB, sC]
   refine qW [(gt, [.int .i64 tx, .int .i64 ty], 26)] hM (by kernel_rfl) ?_; (clear hM; intro W hM)
   refine rD 0 ?_
   refine rD 1 ?_
   refine rD 2 ?_
   refine rD 3 ?_
   refine rD 4 ?_
   refine dC 5 (fun K' hK' => ?_)
   refine oM hM ?_ (hC := vG hpre.out (by ((repeat constructor) <;> fail)))
   refine rK hK' hM ?_; clear hK' K'
   refine dC 6 (fun K' hK' => ?_)
   go_wp2_with (first | (go_at_call 8; (with_reducible refine cb hM (CC _) ?_); clear hM; intro W1 hM))
   refine rK hK' hM ?_; clear hK' K'
   refine rD 7 ?_
   refine rD 8 ?_
   refine rD 9 ?_
   refine rD 10 ?_
   refine rD 11 ?_
   refine dC 12 (fun K' hK' => ?_)
   refine oS hM ?_ (hc := kI hpre.out (by ((repeat constructor) <;> fail)))
   clear hM; intro W hM
   refine rK hK' hM ?_; clear hK' K'
   refine qE (by kernel_rfl) ?_
   go_upto_region 21 with (first | ((with_reducible refine lX ?_); refine mL ?_) | ((with_reducible refine sX ?_); refine mS ?_; clear hM; intro W hM) | ((with_reducible refine zX ?_); refine mB ?_; clear hM; intro g W hM))
   try simp only [pS, pN, sA, sB, sC]
   refine qW [(gt, [.int .i64 tx, .int .i64 ty], 26)] hM (by kernel_rfl) ?_; (clear hM; intro W hM)
   refine rD 0 ?_
   refine rD 1 ?_
   refine rD 2 ?_
   refine rD 3 ?_
   refine rD 4 ?_
   refine rD 6 ?_
   refine rD 7 ?_
   refine rD 8 ?_
   refine rD 9 ?_
   refine dT 5 10 (fun K' hK' => ?_) (fun K' hK' => ?_)
   ·
    refine oL hM ?_ (hv := QK hpre.out rfl)
    refine rK hK' hM ?_; clear hK' K'
    refine dC 10 (fun K' hK' => ?_)
    refine oM hM ?_ (hC := vG hpre.out (by ((repeat constructor) <;> fail)))
    refine rK hK' hM ?_; clear hK' K'
    refine dC 11 (fun K' hK' => ?_)
    go_wp2_with (first | (go_at_call 32; (with_reducible refine cb hM (DC _) ?_); clear hM; intro W1 hM))
    refine rK hK' hM ?_; clear hK' K'
    refine rD 12 ?_
    refine rD 13 ?_
    refine dC 14 (fun K' hK' => ?_)
    refine oS hM ?_ (hc := kI hpre.out (by ((repeat constructor) <;> fail)))
    clear hM; intro W hM
    refine rK hK' hM ?_; clear hK' K'
    refine rD 15 ?_
    refine rD 16 ?_
    refine dC 17 (fun K' hK' => ?_)
    refine oS hM ?_ (hc := kI hpre.out (by ((repeat constructor) <;> fail)))
    clear hM; intro W hM
    refine rK hK' hM ?_; clear hK' K'
    refine qE (by kernel_rfl) ?_
    go_wp2_with (first | ((with_reducible refine lX ?_); refine mL ?_) | ((with_reducible refine sX ?_); refine mS ?_; clear hM; intro W hM) | ((with_reducible refine zX ?_); refine mB ?_; clear hM; intro g W hM))
    all_goals
     have e2 : (t.map (·.1)).getD d = d2 := by rw [HN.out, Option.map_some, Option.getD_some, hd1.out, hd2.out]
     have e3 : t.isSome = true := by rw [HN.out, Option.isSome_some]
     have e4 : ((t.map (·.2)).getD y).cells = [.int .u8 y.k, .int .i64 tx, .int .i64 ty, .int .i64 y.bx, .int .i64 y.b_y, .int .i64 y.cx, .int .i64 y.cy, .int .i64 y.r, .int .i64 y.f, .int .i64 y.s, .int .i64 c1, .int .i64 c1, .int .i64 k1, .int .i64 y.n, .bool y.g] := by rw [HN.out, Option.map_some, Option.getD_some]; rfl
     (go_ret; exact ⟨by rw [e3]; rfl, V2, B2, by rw [e2]; exact hO2.out, by rw [e2, e4]; exact qz (qz (qz (qz hM)))⟩)
   ·
    refine oM hM ?_ (hC := vG hpre.out (by ((repeat constructor) <;> fail)))
    refine rK hK' hM ?_; clear hK' K'
    refine dT 5 11 (fun K' hK' => ?_) (fun K' hK' => ?_)
    ·
     refine oL hM ?_ (hv := QK hpre.out rfl)
     refine rK hK' hM ?_; clear hK' K'
     refine dC 11 (fun K' hK' => ?_)
     go_wp2_with (first | (go_at_call 32; (with_reducible refine cb hM (DC _) ?_); clear hM; intro W1 hM))
     refine rK hK' hM ?_; clear hK' K'
     refine rD 12 ?_
     refine rD 13 ?_
     refine dC 14 (fun K' hK' => ?_)
     refine oS hM ?_ (hc := kI hpre.out (by ((repeat constructor) <;> fail)))
     clear hM; intro W hM
     refine rK hK' hM ?_; clear hK' K'
     refine rD 15 ?_
     refine rD 16 ?_
     refine dC 17 (fun K' hK' => ?_)
     refine oS hM ?_ (hc := kI hpre.out (by ((repeat constructor) <;> fail)))
     clear hM; intro W hM
     refine rK hK' hM ?_; clear hK' K'
     refine qE (by kernel_rfl) ?_
     go_wp2_with (first | ((with_reducible refine lX ?_); refine mL ?_) | ((with_reducible refine sX ?_); refine mS ?_; clear hM; intro W hM) | ((with_reducible refine zX ?_); refine mB ?_; clear hM; intro g W hM))
     all_goals
      have e2 : (t.map (·.1)).getD d = d2 := by rw [HN.out, Option.map_some, Option.getD_some, hd1.out, hd2.out]
      have e3 : t.isSome = true := by rw [HN.out, Option.isSome_some]
      have e4 : ((t.map (·.2)).getD y).cells = [.int .u8 y.k, .int .i64 tx, .int .i64 ty, .int .i64 y.bx, .int .i64 y.b_y, .int .i64 y.cx, .int .i64 y.cy, .int .i64 y.r, .int .i64 y.f, .int .i64 y.s, .int .i64 c1, .int .i64 c1, .int .i64 k1, .int .i64 y.n, .bool y.g] := by rw [HN.out, Option.map_some, Option.getD_some]; rfl
      (go_ret; exact ⟨by rw [e3]; rfl, V2, B2, by rw [e2]; exact hO2.out, by rw [e2, e4]; exact qz (qz (qz (qz hM)))⟩)
    ·
     go_wp2_with (first | (go_at_call 32; (with_reducible refine cb hM (DC _) ?_); clear hM; intro W1 hM))
     refine rK hK' hM ?_; clear hK' K'
     refine dC 5 (fun K' hK' => ?_)
     refine oL hM ?_ (hv := QK hpre.out rfl)
     refine rK hK' hM ?_; clear hK' K'
     refine rD 12 ?_
     refine rD 13 ?_
     refine dC 14 (fun K' hK' => ?_)
     refine oS hM ?_ (hc := kI hpre.out (by ((repeat constructor) <;> fail)))
     clear hM; intro W hM
     refine rK hK' hM ?_; clear hK' K'
     refine rD 15 ?_
     refine rD 16 ?_
     refine dC 17 (fun K' hK' => ?_)
     refine oS hM ?_ (hc := kI hpre.out (by ((repeat constructor) <;> fail)))
     clear hM; intro W hM
     refine rK hK' hM ?_; clear hK' K'
     refine qE (by kernel_rfl) ?_
     go_wp2_with (first | ((with_reducible refine lX ?_); refine mL ?_) | ((with_reducible refine sX ?_); refine mS ?_; clear hM; intro W hM) | ((with_reducible refine zX ?_); refine mB ?_; clear hM; intro g W hM))
     all_goals
      have e2 : (t.map (·.1)).getD d = d2 := by rw [HN.out, Option.map_some, Option.getD_some, hd1.out, hd2.out]
      have e3 : t.isSome = true := by rw [HN.out, Option.isSome_some]
      have e4 : ((t.map (·.2)).getD y).cells = [.int .u8 y.k, .int .i64 tx, .int .i64 ty, .int .i64 y.bx, .int .i64 y.b_y, .int .i64 y.cx, .int .i64 y.cy, .int .i64 y.r, .int .i64 y.f, .int .i64 y.s, .int .i64 c1, .int .i64 c1, .int .i64 k1, .int .i64 y.n, .bool y.g] := by rw [HN.out, Option.map_some, Option.getD_some]; rfl
      (go_ret; exact ⟨by rw [e3]; rfl, V2, B2, by rw [e2]; exact hO2.out, by rw [e2, e4]; exact qz (qz (qz (qz hM)))⟩)
   )
end Go.Proofs.YteanfgobpjdmnaaGreatDoor
