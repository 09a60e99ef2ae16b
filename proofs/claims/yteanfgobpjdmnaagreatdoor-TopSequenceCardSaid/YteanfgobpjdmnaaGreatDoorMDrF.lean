/-
  The turn of a waypoint that is flown by, by boxes.
-/
import Derived.Test.YteanfgobpjdmnaaGreatDoorMAroM
import Derived.Test.YteanfgobpjdmnaaGreatDoorMBuildV
import Derived.Test.YteanfgobpjdmnaaGreatDoorMDrM
import Derived.Test.YteanfgobpjdmnaaGreatDoorMFlyM
import Derived.Test.YteanfgobpjdmnaaGreatDoorMTurnM
namespace Go.Proofs.YteanfgobpjdmnaaGreatDoor
open Go.RowKit
set_option linter.unusedVariables false
set_option linter.unusedSimpArgs false
theorem Wv {rad D lim : Int} (h : D = 0 ∨ 54000000 < (D.natAbs : Int)) : gW rad D lim = none := if_pos h
theorem Mp {rad D lim l : Int} (h : ¬ (D = 0 ∨ 54000000 < (D.natAbs : Int))) (hl : zT rad D = l) (h2 : lim < l) (h3 : rad * lim / l < 600) : gW rad D lim = none := by unfold gW; rw [if_neg h, hl, if_pos h2, if_pos h3]
theorem Ww {rad D lim l : Int} (h : ¬ (D = 0 ∨ 54000000 < (D.natAbs : Int))) (hl : zT rad D = l) (h2 : lim < l) (h3 : ¬ rad * lim / l < 600) : gW rad D lim = some (rad * lim / l) := by unfold gW; rw [if_neg h, hl, if_pos h2, if_neg h3]
theorem Mq {rad D lim l : Int} (h : ¬ (D = 0 ∨ 54000000 < (D.natAbs : Int))) (hl : zT rad D = l) (h2 : ¬ lim < l) : gW rad D lim = some rad := by unfold gW; rw [if_neg h, hl, if_neg h2]
theorem Mr {rad D : Int} {d : Dw} {x y : Tk} (hD : zw (qF x.ax x.ay x.bx x.b_y).1 (qF y.ax y.ay y.bx y.b_y).1 = D) : Kw rad d x y = (match gW rad D (US x y) with
 | none => none
 | some r => if (vV x.ax x.ay x.bx x.b_y y.bx y.b_y r).2 ≠ 0 ∨ (vV x.ax x.ay x.bx x.b_y y.bx y.b_y r).1.getD 9 0 = 0 ∨ US x y < (vV x.ax x.ay x.bx x.b_y y.bx y.b_y r).1.getD 9 0 then none else vk d x.n y.n (vV x.ax x.ay x.bx x.b_y y.bx y.b_y r).1) := by unfold Kw; rw [hD]; rfl
theorem uu {e : Int} : ∃ v0 v1 v2 v3 v4 v5 v6 v7 v8 v9 e0 : Int, ([v0, v1, v2, v3, v4, v5, v6, v7, v8, v9], e0) = (jV, e) := ⟨_, _, _, _, _, _, _, _, _, _, _, rfl⟩
theorem Ms (ax ay bx b_y cx cy r : Int) : ∃ v0 v1 v2 v3 v4 v5 v6 v7 v8 v9 e0 : Int, ([v0, v1, v2, v3, v4, v5, v6, v7, v8, v9], e0) = vV ax ay bx b_y cx cy r := by
 unfold vV
 split
 · exact uu
 split
 · exact uu
 split
 · exact uu
 unfold gi
 split
 · exact uu
 split
 · exact uu
 split
 · exact uu
 split
 · exact uu
 split
 · exact uu
 exact ⟨_, _, _, _, _, _, _, _, _, _, _, rfl⟩
theorem mF {a : Int} (h : 1 ≤ a) (h2 : a ≤ 8000000) : 0 ≤ a.tdiv 2 ∧ a.tdiv 2 ≤ 4000000 := by
 rw [Int.tdiv_eq_ediv_of_nonneg (by omega)]
 omega
set_option maxRecDepth 100000 in
set_option maxHeartbeats 8000000 in
theorem Wx {w0 w : World} {gd : Nat} {rad : Int} {V : Value} {d : Dw} {B R : List zz} {m : Nat} (x y : Tk) (t : Option Dw) (ht : Hid (t = Kw rad d x y)) (hr : 1 ≤ rad) (hr8 : rad ≤ 8000000) (hx : 1 ≤ x.len) (hx2 : x.len ≤ 8000000) (hy : 1 ≤ y.len) (hy2 : y.len ≤ 8000000) (hM : qQ w0 w ((gd, uq V d rad, 66) :: (B ++ R))) (hO : Hid (bG V d.els B m)) (hm : m ≤ 90000 := by omega) :
 Calls Tryz.prog 39 #[.pointer (some ⟨gd, 0, none⟩), .agg #[.int .u8 x.k, .int .i64 x.ax, .int .i64 x.ay, .int .i64 x.bx, .int .i64 x.b_y, .int .i64 x.cx, .int .i64 x.cy, .int .i64 x.r, .int .i64 x.f, .int .i64 x.s, .int .i64 x.ci, .int .i64 x.co, .int .i64 x.len, .int .i64 x.n, .bool x.g], .agg #[.int .u8 y.k, .int .i64 y.ax, .int .i64 y.ay, .int .i64 y.bx, .int .i64 y.b_y, .int .i64 y.cx, .int .i64 y.cy, .int .i64 y.r, .int .i64 y.f, .int .i64 y.s, .int .i64 y.ci, .int .i64 y.co, .int .i64 y.len, .int .i64 y.n, .bool y.g]] w fun e w' => e = .returned (.bool t.isSome) ∧ ∃ V' B', bG V' (t.getD d).els B' (m + 3) ∧ qQ w0 w' ((gd, uq V' (t.getD d) rad, 66) :: (B' ++ R)) := by
 have CA := fun W => yd x.ax x.ay x.bx x.b_y W
 have CB := fun W => yd y.ax y.ay y.bx y.b_y W
 have ix := Qk x.ax x.ay x.bx x.b_y
 have iy := Qk y.ax y.ay y.bx y.b_y
 obtain ⟨D, hD⟩ : ∃ D, zw (qF x.ax x.ay x.bx x.b_y).1 (qF y.ax y.ay y.bx y.b_y).1 = D := ⟨_, rfl⟩
 have DF := fun W => Km _ _ ix iy W
 have db := ZX (qF x.ax x.ay x.bx x.b_y).1 (qF y.ax y.ay y.bx y.b_y).1
 rw [hD] at DF db
 have HF := hide (ht.out.trans (Mr hD))
 generalize (qF x.ax x.ay x.bx x.b_y).1 = x1 at *
 generalize (qF y.ax y.ay y.bx y.b_y).1 = y1 at *
 generalize (qF x.ax x.ay x.bx x.b_y).2 = x2 at *
 generalize (qF y.ax y.ay y.bx y.b_y).2 = y2 at *
 clear hD ht ix iy
 have AB := fun W => kr D (by unfold qH; omega) (by omega) W
 obtain ⟨A, hA⟩ : ∃ A : Int, (D.natAbs : Int) = A := ⟨_, rfl⟩
 rw [hA] at AB
 have bA : 0 ≤ A ∧ A ≤ 64800000 := by omega
 have lx := mF hx hx2
 have ly := mF hy hy2
 obtain ⟨lim, hlim⟩ : ∃ lim, US x y = lim := ⟨_, rfl⟩
 have hlim2 : min (x.len.tdiv 2) (y.len.tdiv 2) = lim := hlim
 rw [hlim] at HF
 have bl : 0 ≤ lim ∧ lim ≤ 4000000 := by rw [← hlim2]; omega
 clear hlim
 go_enter Tryz.func39, Tryz.ntmps39
 go_upto_region 0 with fail
 try simp only [pS, pN, sA, sB, sC]
 go_cut [5, 4] (fun s5 s4 wx => ∃ gy gx : Nat, s5 = .pointer (some ⟨gy, 0, none⟩) ∧ s4 = .pointer (some ⟨gx, 0, none⟩) ∧ qQ w0 wx ((gy, [.int .u8 y.k, .int .i64 y.ax, .int .i64 y.ay, .int .i64 y.bx, .int .i64 y.b_y, .int .i64 y.cx, .int .i64 y.cy, .int .i64 y.r, .int .i64 y.f, .int .i64 y.s, .int .i64 y.ci, .int .i64 y.co, .int .i64 y.len, .int .i64 y.n, .bool y.g], 69) :: (gx, [.int .u8 x.k, .int .i64 x.ax, .int .i64 x.ay, .int .i64 x.bx, .int .i64 x.b_y, .int .i64 x.cx, .int .i64 x.cy, .int .i64 x.r, .int .i64 x.f, .int .i64 x.s, .int .i64 x.ci, .int .i64 x.co, .int .i64 x.len, .int .i64 x.n, .bool x.g], 69) :: ((gd, uq V d rad, 66) :: (B ++ R))))
 case first =>
  go_wp2_with (first | ((with_reducible refine lX ?_); refine mL ?_) | ((with_reducible refine sX ?_); refine mS ?_; clear hM; intro W hM) | ((with_reducible refine bX ?_); refine mB ?_; clear hM; intro g W hM) | ((with_reducible refine zX ?_); refine mB ?_; clear hM; intro g W hM))
  all_goals
   go_meet
   exact ⟨_, _, rfl, rfl, hM⟩
 case rest =>
 clear hM
 obtain ⟨gy, gx, rfl, rfl, hM⟩ := hcut
 go_upto_region 1 with (first | ((with_reducible refine lX ?_); refine mL ?_) | ((with_reducible refine sX ?_); refine mS ?_; clear hM; intro W hM) | ((with_reducible refine zX ?_); refine mB ?_; clear hM; intro g W hM))
 try simp only [pS, pN, sA, sB, sC]
 go_cut [7] (fun s wx => s = .int .i64 lim ∧ qQ w0 wx ((gy, [.int .u8 y.k, .int .i64 y.ax, .int .i64 y.ay, .int .i64 y.bx, .int .i64 y.b_y, .int .i64 y.cx, .int .i64 y.cy, .int .i64 y.r, .int .i64 y.f, .int .i64 y.s, .int .i64 y.ci, .int .i64 y.co, .int .i64 y.len, .int .i64 y.n, .bool y.g], 69) :: (gx, [.int .u8 x.k, .int .i64 x.ax, .int .i64 x.ay, .int .i64 x.bx, .int .i64 x.b_y, .int .i64 x.cx, .int .i64 x.cy, .int .i64 x.r, .int .i64 x.f, .int .i64 x.s, .int .i64 x.ci, .int .i64 x.co, .int .i64 x.len, .int .i64 x.n, .bool x.g], 69) :: ((gd, uq V d rad, 66) :: (B ++ R))))
 case first =>
  go_wp2_with (first | ((with_reducible refine lX ?_); refine mL ?_) | ((with_reducible refine sX ?_); refine mS ?_; clear hM; intro W hM) | ((with_reducible refine zX ?_); refine mB ?_; clear hM; intro g W hM))
  all_goals
   go_meet
   exact ⟨by first | rw [← hlim2] | (simp [← hlim2]; done), hM⟩
 case rest =>
 clear hM
 obtain ⟨rfl, hM⟩ := hcut
 clear hlim2
 by_cases hbad : D = 0 ∨ 54000000 < A
 · have hn : t = none := by
    rw [HF.out, Wv (by rw [hA]; exact hbad)]
   have hss : (D == 0) = true ∨ ((D == 0) = false ∧ decide (54000000 < A) = true) := by
    by_cases h : D = 0
    · exact .inl (by simpa using h)
    · exact .inr ⟨by simpa using h, decide_eq_true (by omega)⟩
   clear HF hbad hA
   rcases hss with hss | ⟨hss, hss2⟩
   all_goals
    go_wp2_with (first | (go_at_call 8; (with_reducible refine cb hM (CA _) ?_); clear hM; intro W1 hM) | (go_at_call 8; (with_reducible refine cb hM (CB _) ?_); clear hM; intro W1 hM) | (go_at_call 74; (with_reducible refine (DF _).mono ?_); rintro e W1 ⟨rfl, rfl⟩) | (go_at_call 44; (with_reducible refine (AB _).mono ?_); rintro e W1 ⟨rfl, rfl⟩) | ((with_reducible refine lX ?_); refine mL ?_) | ((with_reducible refine sX ?_); refine mS ?_; clear hM; intro W hM) | ((with_reducible refine zX ?_); refine mB ?_; clear hM; intro g W hM))
    all_goals
     (go_ret; exact ⟨by rw [hn]; rfl, V, B, by rw [hn]; exact ⟨hO.out.1, Nat.le_trans hO.out.2 (by omega)⟩, by rw [hn]; exact qz (qz hM)⟩)
 have h0 : (D == 0) = false := by simp; omega
 have h54 : ¬ 54000000 < A := by omega
 have hnb : ¬ (D = 0 ∨ 54000000 < (D.natAbs : Int)) := by omega
 have HNB := hide hnb
 have hl := mQ (r := rad) (d := D) hr hr8 (by omega) rfl
 rw [hA] at hl
 have MU := fun W => xq rad (qV (A / 2)) (qX (A / 2)) (by unfold qH; omega) (by have := kJ (A / 2); unfold qH; omega) (by have := uj (A / 2); unfold qH; omega) W
 have SN := fun W => QJ (A / 2) (by unfold qH; omega) W
 have CN := fun W => Jl (A / 2) (by unfold qH; omega) W
 rw [hl.1] at MU
 have lb := hl.2
 clear hl hbad hnb
 obtain ⟨l, hle⟩ : ∃ l, zT rad D = l := ⟨_, rfl⟩
 rw [hle] at MU lb
 generalize qV (A / 2) = sn at *
 generalize qX (A / 2) = cs at *
 have HL := hide hle
 clear hle hA
 go_upto_region 8 with (first | (go_at_call 8; (with_reducible refine cb hM (CA _) ?_); clear hM; intro W1 hM) | (go_at_call 8; (with_reducible refine cb hM (CB _) ?_); clear hM; intro W1 hM) | (go_at_call 74; (with_reducible refine (DF _).mono ?_); rintro e W1 ⟨rfl, rfl⟩) | (go_at_call 44; (with_reducible refine (AB _).mono ?_); rintro e W1 ⟨rfl, rfl⟩) | ((with_reducible refine lX ?_); refine mL ?_) | ((with_reducible refine sX ?_); refine mS ?_; clear hM; intro W hM) | ((with_reducible refine zX ?_); refine mB ?_; clear hM; intro g W hM))
 try simp only [pS, pN, sA, sB, sC]
 refine qW [(gd, uq V d rad, 66)] hM (by kernel_rfl) ?_; (clear hM; intro W hM)
 refine rD 0 ?_
 refine rD 1 ?_
 refine rD 2 ?_
 refine rD 3 ?_
 refine rD 4 ?_
 refine rD 6 ?_
 refine dC 5 (fun K' hK' => ?_)
 go_wp2_with (first | (go_at_call 28; (with_reducible refine (SN _).mono ?_); rintro e W1 ⟨rfl, rfl⟩) | (go_at_call 29; (with_reducible refine (CN _).mono ?_); rintro e W1 ⟨rfl, rfl⟩) | (go_at_call 30; (with_reducible refine (MU _).mono ?_); rintro e W1 ⟨rfl, n1, rfl⟩; replace hM := zK hM n1))
 refine rK hK' hM ?_; clear hK' K'
 refine dC 7 (fun K' hK' => ?_)
 go_wp2_with (first | (go_at_call 28; (with_reducible refine (SN _).mono ?_); rintro e W1 ⟨rfl, rfl⟩) | (go_at_call 29; (with_reducible refine (CN _).mono ?_); rintro e W1 ⟨rfl, rfl⟩) | (go_at_call 30; (with_reducible refine (MU _).mono ?_); rintro e W1 ⟨rfl, n1, rfl⟩; replace hM := zK hM n1))
 refine rK hK' hM ?_; clear hK' K'
 refine dC 8 (fun K' hK' => ?_)
 go_wp2_with (first | (go_at_call 28; (with_reducible refine (SN _).mono ?_); rintro e W1 ⟨rfl, rfl⟩) | (go_at_call 29; (with_reducible refine (CN _).mono ?_); rintro e W1 ⟨rfl, rfl⟩) | (go_at_call 30; (with_reducible refine (MU _).mono ?_); rintro e W1 ⟨rfl, n1, rfl⟩; replace hM := zK hM n1))
 refine rK hK' hM ?_; clear hK' K'
 refine rD 9 ?_
 refine rD 10 ?_
 refine rD 11 ?_
 refine rD 12 ?_
 refine rD 13 ?_
 refine qE (by kernel_rfl) ?_
 go_upto_if 78 with (first | ((with_reducible refine lX ?_); refine mL ?_) | ((with_reducible refine sX ?_); refine mS ?_; clear hM; intro W hM) | ((with_reducible refine zX ?_); refine mB ?_; clear hM; intro g W hM))
 try simp only [pS, pN, sA, sB, sC]
 go_cut [16] (fun s wx => ∃ r, s = .int .i64 r ∧ Hid (gW rad D lim = some r) ∧ 0 ≤ r ∧ r ≤ 8000000 ∧ qQ w0 wx ((gy, [.int .u8 y.k, .int .i64 y.ax, .int .i64 y.ay, .int .i64 y.bx, .int .i64 y.b_y, .int .i64 y.cx, .int .i64 y.cy, .int .i64 y.r, .int .i64 y.f, .int .i64 y.s, .int .i64 y.ci, .int .i64 y.co, .int .i64 y.len, .int .i64 y.n, .bool y.g], 69) :: (gx, [.int .u8 x.k, .int .i64 x.ax, .int .i64 x.ay, .int .i64 x.bx, .int .i64 x.b_y, .int .i64 x.cx, .int .i64 x.cy, .int .i64 x.r, .int .i64 x.f, .int .i64 x.s, .int .i64 x.ci, .int .i64 x.co, .int .i64 x.len, .int .i64 x.n, .bool x.g], 69) :: ((gd, uq V d rad, 66) :: (B ++ R))))
 case first =>
  by_cases hlt : lim < l
  · have hq := DZ (rad := rad) (lim := lim) (lead := l) hr bl.1 hlt
    have hp : 0 ≤ rad * lim ∧ rad * lim ≤ 32000000000000 := ⟨Int.mul_nonneg (by omega) bl.1, Int.mul_le_mul (show rad ≤ 8000000 by omega) (show lim ≤ 4000000 by omega) bl.1 (by decide)⟩
    have w1 := wi (x := rad * lim) (by omega) (by omega)
    have e1 : (rad * lim).tdiv l = rad * lim / l := Int.tdiv_eq_ediv_of_nonneg hp.1
    have l0 : (l == 0) = false := by simp; omega
    have l1 : l ≠ 0 := by omega
    have l2 : (l == -1) = false := by simp; omega
    have l3 : ¬ l = -1 := by omega
    have w2 := wi (x := rad * lim / l) (by omega) (by omega)
    by_cases h6 : rad * lim / l < 600
    · have hn : t = none := by rw [HF.out, Mp HNB.out HL.out hlt h6]
      have hne : (rad * lim / l != rad) = true := by simp; omega
      clear HF HNB HL
      go_wp2_with (first | ((with_reducible refine lX ?_); refine mL ?_) | ((with_reducible refine sX ?_); refine mS ?_; clear hM; intro W hM) | ((with_reducible refine zX ?_); refine mB ?_; clear hM; intro g W hM))
      all_goals
       (go_ret; exact ⟨by rw [hn]; rfl, V, B, by rw [hn]; exact ⟨hO.out.1, Nat.le_trans hO.out.2 (by omega)⟩, by rw [hn]; exact qz (qz hM)⟩)
    · have hS := hide (Ww HNB.out HL.out hlt h6)
      go_wp2_with (first | ((with_reducible refine lX ?_); refine mL ?_) | ((with_reducible refine sX ?_); refine mS ?_; clear hM; intro W hM) | ((with_reducible refine zX ?_); refine mB ?_; clear hM; intro g W hM))
      all_goals
       go_meet
       exact ⟨rad * lim / l, by simp [e1, w2], hS, by omega, by omega, hM⟩
  · have hS := hide (Mq HNB.out HL.out hlt)
    go_wp2_with (first | ((with_reducible refine lX ?_); refine mL ?_) | ((with_reducible refine sX ?_); refine mS ?_; clear hM; intro W hM) | ((with_reducible refine zX ?_); refine mB ?_; clear hM; intro g W hM))
    all_goals
     go_meet
     exact ⟨rad, rfl, hS, by omega, by omega, hM⟩
 case rest =>
 clear hM
 obtain ⟨r, rfl, HS, r0, r1, hM⟩ := hcut
 obtain ⟨v0, v1, v2, v3, v4, v5, v6, v7, v8, v9, e0, hR⟩ := Ms x.ax x.ay x.bx x.b_y y.bx y.b_y r
 have FL := fun W => WC x.ax x.ay x.bx x.b_y y.bx y.b_y r W v0 v1 v2 v3 v4 v5 v6 v7 v8 v9 e0 (hide hR)
 have HG : Hid (t = if e0 ≠ 0 ∨ v9 = 0 ∨ lim < v9 then none else vk d x.n y.n [v0, v1, v2, v3, v4, v5, v6, v7, v8, v9]) := hide (by
  rw [HF.out, HS.out]
  dsimp only
  rw [← hR]
  rfl)
 have HB : Hid (e0 = 0 → yX v0 v1 v2 v3 v4 = true) := hide (fun h => by subst h; exact WT hR.symm)
 clear HF HS HNB HL hR
 by_cases hbad : e0 ≠ 0 ∨ v9 = 0 ∨ lim < v9
 · have hn : t = none := by rw [HG.out, if_pos hbad]
   have hss : (e0 != 0) = true ∨ ((e0 != 0) = false ∧ (v9 == 0) = true) ∨ ((e0 != 0) = false ∧ (v9 == 0) = false ∧ decide (lim < v9) = true) := by
    by_cases h : e0 = 0
    · by_cases h2 : v9 = 0
      · exact .inr (.inl ⟨by simpa using h, by simpa using h2⟩)
      · exact .inr (.inr ⟨by simpa using h, by simpa using h2, decide_eq_true (by omega)⟩)
    · exact .inl (by simpa using h)
   clear HG hbad HB
   rcases hss with hss | ⟨hss, hss2⟩ | ⟨hss, hss2, hss3⟩
   all_goals
    go_wp2_with (first | (go_at_call 77; (with_reducible refine cb hM (FL _) ?_); clear hM; intro W1 hM) | ((with_reducible refine lX ?_); refine mL ?_) | ((with_reducible refine sX ?_); refine mS ?_; clear hM; intro W hM) | ((with_reducible refine zX ?_); refine mB ?_; clear hM; intro g W hM))
    all_goals
     (go_ret; exact ⟨by rw [hn]; rfl, V, B, by rw [hn]; exact ⟨hO.out.1, Nat.le_trans hO.out.2 (by omega)⟩, by rw [hn]; exact qz (qz (qz hM))⟩)
 obtain rfl : e0 = 0 := by omega
 have h91 : (v9 == 0) = false := by simp; omega
 have h92 : ¬ lim < v9 := by omega
 have HG2 : Hid (t = vk d x.n y.n [v0, v1, v2, v3, v4, v5, v6, v7, v8, v9]) := hide (by rw [HG.out, if_neg hbad])
 have hB := (vF _ _ _ _ _).1 (HB.out rfl)
 obtain ⟨hB1, hB2, hB3, hB4, hB5, hB6, hB7⟩ := hB
 have hh := mg v4
 clear HG HB hbad hB1
 go_upto_region 19 with (first | (go_at_call 77; (with_reducible refine cb hM (FL _) ?_); clear hM; intro W1 hM) | ((with_reducible refine lX ?_); refine mL ?_) | ((with_reducible refine sX ?_); refine mS ?_; clear hM; intro W hM) | ((with_reducible refine zX ?_); refine mB ?_; clear hM; intro g W hM))
 try simp only [pS, pN, sA, sB, sC]
 obtain ⟨gf, rfl⟩ : ∃ gf, gf = g := ⟨_, rfl⟩
 go_cut [18, 19] (fun s18 s19 wx => ∃ g18 g19 : Nat, s18 = .pointer (some ⟨g18, 0, none⟩) ∧ s19 = .pointer (some ⟨g19, 0, none⟩) ∧ qQ w0 wx ((g19, [.int .i64 v0, .int .i64 v1, .int .i64 v2, .int .i64 v3, .int .i64 v4], 47) :: (g18, [.int .i64 v0, .int .i64 v1, .int .i64 v2, .int .i64 v3, .int .i64 v4], 47) :: ((gf, [.int .i64 v0, .int .i64 v1, .int .i64 v2, .int .i64 v3, .int .i64 v4, .int .i64 v5, .int .i64 v6, .int .i64 v7, .int .i64 v8, .int .i64 v9], 134) :: ((gy, [.int .u8 y.k, .int .i64 y.ax, .int .i64 y.ay, .int .i64 y.bx, .int .i64 y.b_y, .int .i64 y.cx, .int .i64 y.cy, .int .i64 y.r, .int .i64 y.f, .int .i64 y.s, .int .i64 y.ci, .int .i64 y.co, .int .i64 y.len, .int .i64 y.n, .bool y.g], 69) :: (gx, [.int .u8 x.k, .int .i64 x.ax, .int .i64 x.ay, .int .i64 x.bx, .int .i64 x.b_y, .int .i64 x.cx, .int .i64 x.cy, .int .i64 x.r, .int .i64 x.f, .int .i64 x.s, .int .i64 x.ci, .int .i64 x.co, .int .i64 x.len, .int .i64 x.n, .bool x.g], 69) :: ((gd, uq V d rad, 66) :: (B ++ R))))))
 case first =>
  refine qW [(gf, [.int .i64 v0, .int .i64 v1, .int .i64 v2, .int .i64 v3, .int .i64 v4, .int .i64 v5, .int .i64 v6, .int .i64 v7, .int .i64 v8, .int .i64 v9], 134)] hM (by kernel_rfl) ?_; (clear hM; intro W hM)
  refine rD 0 ?_
  refine rD 1 ?_
  refine rD 2 ?_
  refine rD 3 ?_
  refine dT 4 5 (fun K' hK' => ?_) (fun K' hK' => ?_)
  ·
   refine oN hM ?_
   clear hM; intro g18 W hM
   refine rK hK' hM ?_; clear hK' K'
   refine dC 5 (fun K' hK' => ?_)
   refine oN hM ?_
   clear hM; intro g19 W hM
   refine rK hK' hM ?_; clear hK' K'
   refine dC 6 (fun K' hK' => ?_)
   refine oS hM ?_
   clear hM; intro W hM
   refine rK hK' hM ?_; clear hK' K'
   refine dC 7 (fun K' hK' => ?_)
   refine oS hM ?_
   clear hM; intro W hM
   refine rK hK' hM ?_; clear hK' K'
   refine qE (by kernel_rfl) ?_
   go_wp2_with fail
   all_goals
    go_meet
    exact ⟨_, _, rfl, rfl, by first | exact hM | exact jt hM (List.Perm.swap _ _ _)⟩
  ·
   refine oN hM ?_
   clear hM; intro g19 W hM
   refine rK hK' hM ?_; clear hK' K'
   refine dC 4 (fun K' hK' => ?_)
   refine oN hM ?_
   clear hM; intro g18 W hM
   refine rK hK' hM ?_; clear hK' K'
   refine dC 6 (fun K' hK' => ?_)
   refine oS hM ?_
   clear hM; intro W hM
   refine rK hK' hM ?_; clear hK' K'
   refine dC 7 (fun K' hK' => ?_)
   refine oS hM ?_
   clear hM; intro W hM
   refine rK hK' hM ?_; clear hK' K'
   refine qE (by kernel_rfl) ?_
   go_wp2_with fail
   all_goals
    go_meet
    exact ⟨_, _, rfl, rfl, by first | exact hM | exact jt hM (List.Perm.swap _ _ _)⟩
 case rest =>
 clear hM
 obtain ⟨g18, g19, rfl, rfl, hM⟩ := hcut
 have w3 := wi (x := v4 - v4.tdiv 2) (by omega) (by omega)
 have w4 := wi (x := v3 + v4.tdiv 2) (by omega) (by omega)
 have NM := fun W => yj (v3 + v4.tdiv 2) (by unfold qH; omega) W
 have TL := fun W => bR v0 v1 v2 v3 (v4.tdiv 2) W
 obtain ⟨X, Y, C, E, hat⟩ : ∃ X Y C E, qI v0 v1 v2 v3 (v4.tdiv 2) (qA v0 v1 v2 v3 (v4.tdiv 2)) = (X, Y, C, E) := ⟨_, _, _, _, rfl⟩
 have AT := fun W => bS v0 v1 v2 v3 (v4.tdiv 2) (qA v0 v1 v2 v3 (v4.tdiv 2)) W _ hat.symm
 have HG3 : Hid (t = if E ≠ 0 then none else some (yu (yu (zJ d v5 v6 x.n) v0 v1 v2 v3 (v4.tdiv 2) X Y x.n) v0 v1 v2 (norm (v3 + v4.tdiv 2)) (v4 - v4.tdiv 2) v7 v8 y.n)) := hide (by
  rw [HG2.out]
  unfold vk
  dsimp only
  rw [hat])
 clear HG2 hat hh
 generalize qA v0 v1 v2 v3 (v4.tdiv 2) = n1 at *
 go_upto_region 23 with (first | (go_at_call 48; (with_reducible refine (NM _).mono ?_); rintro e W1 ⟨rfl, rfl⟩) | ((with_reducible refine lX ?_); refine mL ?_) | ((with_reducible refine sX ?_); refine mS ?_; clear hM; intro W hM) | ((with_reducible refine zX ?_); refine mB ?_; clear hM; intro g W hM))
 try simp only [pS, pN, sA, sB, sC]
 generalize norm (v3 + v4.tdiv 2) = f2 at *
 generalize v4 - v4.tdiv 2 = s2 at *
 generalize v4.tdiv 2 = s1 at *
 clear w3 w4 NM
 go_cut [20, 15] (fun s20 s15 wx => ∃ g20 : Nat, s20 = .pointer (some ⟨g20, 0, none⟩) ∧ s15 = .int .i64 E ∧ qQ w0 wx ((g20, [.int .i64 X, .int .i64 Y], 26) :: (g19, [.int .i64 v0, .int .i64 v1, .int .i64 v2, .int .i64 f2, .int .i64 s2], 47) :: (g18, [.int .i64 v0, .int .i64 v1, .int .i64 v2, .int .i64 v3, .int .i64 s1], 47) :: ((gf, [.int .i64 v0, .int .i64 v1, .int .i64 v2, .int .i64 v3, .int .i64 v4, .int .i64 v5, .int .i64 v6, .int .i64 v7, .int .i64 v8, .int .i64 v9], 134) :: ((gy, [.int .u8 y.k, .int .i64 y.ax, .int .i64 y.ay, .int .i64 y.bx, .int .i64 y.b_y, .int .i64 y.cx, .int .i64 y.cy, .int .i64 y.r, .int .i64 y.f, .int .i64 y.s, .int .i64 y.ci, .int .i64 y.co, .int .i64 y.len, .int .i64 y.n, .bool y.g], 69) :: (gx, [.int .u8 x.k, .int .i64 x.ax, .int .i64 x.ay, .int .i64 x.bx, .int .i64 x.b_y, .int .i64 x.cx, .int .i64 x.cy, .int .i64 x.r, .int .i64 x.f, .int .i64 x.s, .int .i64 x.ci, .int .i64 x.co, .int .i64 x.len, .int .i64 x.n, .bool x.g], 69) :: ((gd, uq V d rad, 66) :: (B ++ R))))))
 case first =>
  refine qW [(g18, [.int .i64 v0, .int .i64 v1, .int .i64 v2, .int .i64 v3, .int .i64 s1], 47)] hM (by kernel_rfl) ?_; (clear hM; intro W hM)
  refine rD 0 ?_
  refine rD 1 ?_
  refine dT 2 8 (fun K' hK' => ?_) (fun K' hK' => ?_)
  ·
   go_wp2_with (first | (go_at_call 33; (with_reducible refine cb hM (TL _) ?_); clear hM; intro W1 hM) | (go_at_call 78; (with_reducible refine cb hM (AT _) ?_); clear hM; intro W1 hM))
   refine rK hK' hM ?_; clear hK' K'
   refine dT 3 8 (fun K' hK' => ?_) (fun K' hK' => ?_)
   ·
    go_wp2_with (first | (go_at_call 33; (with_reducible refine cb hM (TL _) ?_); clear hM; intro W1 hM) | (go_at_call 78; (with_reducible refine cb hM (AT _) ?_); clear hM; intro W1 hM))
    refine rK hK' hM ?_; clear hK' K'
    refine rD 4 ?_
    refine rD 5 ?_
    refine rD 6 ?_
    refine rD 7 ?_
    refine dC 8 (fun K' hK' => ?_)
    refine oN hM ?_
    clear hM; intro g20 W hM
    refine rK hK' hM ?_; clear hK' K'
    refine dC 9 (fun K' hK' => ?_)
    refine oS hM ?_
    clear hM; intro W hM
    refine rK hK' hM ?_; clear hK' K'
    refine rD 10 ?_
    refine rD 11 ?_
    refine qE (by kernel_rfl) ?_
    go_wp2_with fail
    all_goals
     go_meet
     exact ⟨_, rfl, rfl, by first | exact hM | exact jt hM (List.Perm.swap _ _ _)⟩
   ·
    refine oN hM ?_
    clear hM; intro g20 W hM
    refine rK hK' hM ?_; clear hK' K'
    refine dC 3 (fun K' hK' => ?_)
    go_wp2_with (first | (go_at_call 33; (with_reducible refine cb hM (TL _) ?_); clear hM; intro W1 hM) | (go_at_call 78; (with_reducible refine cb hM (AT _) ?_); clear hM; intro W1 hM))
    refine rK hK' hM ?_; clear hK' K'
    refine rD 4 ?_
    refine rD 5 ?_
    refine rD 6 ?_
    refine rD 7 ?_
    refine dC 9 (fun K' hK' => ?_)
    refine oS hM ?_
    clear hM; intro W hM
    refine rK hK' hM ?_; clear hK' K'
    refine rD 10 ?_
    refine rD 11 ?_
    refine qE (by kernel_rfl) ?_
    go_wp2_with fail
    all_goals
     go_meet
     exact ⟨_, rfl, rfl, by first | exact hM | exact jt hM (List.Perm.swap _ _ _)⟩
  ·
   refine oN hM ?_
   clear hM; intro g20 W hM
   refine rK hK' hM ?_; clear hK' K'
   refine dC 2 (fun K' hK' => ?_)
   go_wp2_with (first | (go_at_call 33; (with_reducible refine cb hM (TL _) ?_); clear hM; intro W1 hM) | (go_at_call 78; (with_reducible refine cb hM (AT _) ?_); clear hM; intro W1 hM))
   refine rK hK' hM ?_; clear hK' K'
   refine dC 3 (fun K' hK' => ?_)
   go_wp2_with (first | (go_at_call 33; (with_reducible refine cb hM (TL _) ?_); clear hM; intro W1 hM) | (go_at_call 78; (with_reducible refine cb hM (AT _) ?_); clear hM; intro W1 hM))
   refine rK hK' hM ?_; clear hK' K'
   refine rD 4 ?_
   refine rD 5 ?_
   refine rD 6 ?_
   refine rD 7 ?_
   refine dC 9 (fun K' hK' => ?_)
   refine oS hM ?_
   clear hM; intro W hM
   refine rK hK' hM ?_; clear hK' K'
   refine rD 10 ?_
   refine rD 11 ?_
   refine qE (by kernel_rfl) ?_
   go_wp2_with fail
   all_goals
    go_meet
    exact ⟨_, rfl, rfl, by first | exact hM | exact jt hM (List.Perm.swap _ _ _)⟩
 case rest =>
 clear hM
 obtain ⟨g20, rfl, rfl, hM⟩ := hcut
 by_cases hE : E = 0
 rotate_left 1
 · have hn : t = none := by rw [HG3.out, if_pos hE]
   have hE' : (E != 0) = true := by simpa using hE
   clear HG3 hE
   go_wp2_with (first | ((with_reducible refine lX ?_); refine mL ?_) | ((with_reducible refine sX ?_); refine mS ?_; clear hM; intro W hM) | ((with_reducible refine zX ?_); refine mB ?_; clear hM; intro g W hM))
   all_goals
    (go_ret; exact ⟨by rw [hn]; rfl, V, B, by rw [hn]; exact ⟨hO.out.1, Nat.le_trans hO.out.2 (by omega)⟩, by rw [hn]; exact qz (qz (qz (qz (qz (qz hM)))))⟩)
 subst hE
 have hn : t = some (yu (yu (zJ d v5 v6 x.n) v0 v1 v2 v3 s1 X Y x.n) v0 v1 v2 f2 s2 v7 v8 y.n) := by rw [HG3.out, if_neg (by simp)]
 have HN := hide hn
 clear HG3 hn
 go_wp2_with (first | (go_at_call 11; (with_reducible refine cD hM (fun R' hM' => QY v5 v6 x.n hM' hO) ?_); clear hM hO; intro d1 V1 B1 W1 hd1 hO1 hM; simp only [List.cons_append, List.nil_append] at hM) | (go_at_call 12; (with_reducible refine cD hM (fun R' hM' => mG v0 v1 v2 v3 s1 X Y x.n hM' hO1) ?_); clear hM hO1; intro d2 V2 B2 W2 hd2 hO2 hM; simp only [List.cons_append, List.nil_append] at hM) | (go_at_call 12; (with_reducible refine cD hM (fun R' hM' => mG v0 v1 v2 f2 s2 v7 v8 y.n hM' hO2) ?_); clear hM hO2; intro d3 V3 B3 W3 hd3 hO3 hM; simp only [List.cons_append, List.nil_append] at hM) | ((with_reducible refine lX ?_); refine mL ?_) | ((with_reducible refine sX ?_); refine mS ?_; clear hM; intro W hM) | ((with_reducible refine zX ?_); refine mB ?_; clear hM; intro g W hM))
 all_goals
  have e2 : t.getD d = d3 := by rw [HN.out, Option.getD_some, hd1.out, hd2.out, hd3.out]
  have e3 : t.isSome = true := by rw [HN.out, Option.isSome_some]
  (go_ret; exact ⟨by rw [e3]; rfl, V3, B3, by rw [e2]; exact hO3.out, by rw [e2]; exact qz (qz (qz (qz (qz (qz hM)))))⟩)
end Go.Proofs.YteanfgobpjdmnaaGreatDoor
