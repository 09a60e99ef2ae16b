/-
  What leads from a track to the next one, by boxes.
-/
import Derived.Test.YteanfgobpjdmnaaGreatDoorMDrF
import Derived.Test.YteanfgobpjdmnaaGreatDoorMDrO
namespace Go.Proofs.YteanfgobpjdmnaaGreatDoor
open Go.RowKit
set_option linter.unusedVariables false
set_option linter.unusedSimpArgs false
theorem Cq {rad : Int} {d : Dw} {lx ly : En} {x y : Tk} (h : x.k ≠ 1 ∨ y.k ≠ 1 ∨ x.len < 1 ∨ y.len < 1 ∨ ¬ (y.ax = x.bx ∧ y.ay = x.b_y)) : kU rad d lx ly x y = none := by unfold kU; rw [if_pos h]
theorem Wz {rad : Int} {d : Dw} {lx ly : En} {x y : Tk} (h : ¬ (x.k ≠ 1 ∨ y.k ≠ 1 ∨ x.len < 1 ∨ y.len < 1 ∨ ¬ (y.ax = x.bx ∧ y.ay = x.b_y))) (ho : lx.ov = true) : kU rad d lx ly x y = if ly.ty = 4 then Zp rad d x y else none := by unfold kU; rw [if_neg h, if_pos ho]
theorem Cr {rad : Int} {d : Dw} {lx ly : En} {x y : Tk} (h : ¬ (x.k ≠ 1 ∨ y.k ≠ 1 ∨ x.len < 1 ∨ y.len < 1 ∨ ¬ (y.ax = x.bx ∧ y.ay = x.b_y))) (ho : lx.ov = false) :
 kU rad d lx ly x y = if lx.ty = 7 ∨ lx.ty = 8 ∨ lx.ty = 9 ∨ lx.ty = 10 ∨ lx.ty = 11 ∨ lx.ty = 12 then none else (Kw rad d x y).map (fun d' => (d', y)) := by unfold kU; rw [if_neg h, if_neg (by rw [ho]; simp)]
theorem cT {f : FuncId} {xs : Array Value} {w0 W : World} {L pr : List zz} {gd gT : Nat} {cs cs' : List Value} {rad : Int} {V v : Value} {d d' : Dw} {B R : List zz} {m : Nat} {Q : Ending → World → Prop} (hM : qQ w0 W L)
 (hc : ∀ R', qQ w0 W ((gd, uq V d rad, 66) :: (B ++ ((gT, cs, 69) :: R'))) → Calls Tryz.prog f xs W fun e w' => e = .returned v ∧ ∃ V' B', bG V' d'.els B' m ∧ qQ w0 w' ((gd, uq V' d' rad, 66) :: (B' ++ ((gT, cs', 69) :: R'))))
 (h : ∀ V' B' W1, Hid (bG V' d'.els B' m) → qQ w0 W1 (pr ++ (gd, uq V' d' rad, 66) :: (B' ++ ((gT, cs', 69) :: R))) → Q (.returned v) W1) (hs : Sd L pr gd (uq V d rad) 66 B ((gT, cs, 69) :: R) := by ((repeat constructor) <;> fail)) : Calls Tryz.prog f xs W Q := by
 have h1 := hs.eq
 subst h1
 have p : ∀ (V' : Value) (d' : Dw) (B' : List zz) (c : List Value), (pr ++ (gd, uq V' d' rad, 66) :: (B' ++ ((gT, c, 69) :: R))).Perm ((gd, uq V' d' rad, 66) :: (B' ++ ((gT, c, 69) :: (pr ++ R)))) := fun V' d' B' c => (VH pr _ B' _).trans (.cons _ (List.Perm.append_left _ List.perm_middle))
 refine (hc (pr ++ R) (jt hM (p V d B cs))).mono ?_
 rintro e w' ⟨rfl, V', B', h3, h4⟩
 exact h V' B' w' (hide h3) (jt h4 (p V' d' B' cs').symm)
theorem RH {f : FuncId} {xs : Array Value} {w0 W : World} {L pr : List zz} {gd : Nat} {rad : Int} {V v : Value} {d d' : Dw} {B R : List zz} {m : Nat} {Q : Ending → World → Prop} (hM : qQ w0 W L)
 (hc : ∀ R', qQ w0 W ((gd, uq V d rad, 66) :: (B ++ R')) → Calls Tryz.prog f xs W fun e w' => e = .returned v ∧ ∃ V' B', bG V' d'.els B' m ∧ qQ w0 w' ((gd, uq V' d' rad, 66) :: (B' ++ R')))
 (h : ∀ V' B' W1, Hid (bG V' d'.els B' m) → qQ w0 W1 (pr ++ (gd, uq V' d' rad, 66) :: (B' ++ R)) → Q (.returned v) W1) (hs : Sd L pr gd (uq V d rad) 66 B R := by ((repeat constructor) <;> fail)) : Calls Tryz.prog f xs W Q :=
 cD hM hc (fun d1 V' B' W1 e ho hM' => by
  have e := e.out
  subst e
  exact h V' B' W1 ho hM') hs
theorem xR {d : List El} {V : Value} {B : List zz} {m k : Nat} (h : bG V d B m) : bG V d B (m + k) := ⟨h.1, Nat.le_trans h.2 (by omega)⟩
set_option maxRecDepth 100000 in
set_option maxHeartbeats 8000000 in
theorem mH {w0 w : World} {gd : Nat} {rad : Int} {V : Value} {d : Dw} {B R : List zz} {m gT o : Nat} {pre post : List Value} (pa pb : ByteArray) (b0 o0 n0 cap : Nat) (act : Int) (lx ly : En) (x y : Tk) (jx jy : Nat) (t : Option (Dw × Tk)) (ht : Hid (t = kU rad d lx ly x y)) (hr : 1 ≤ rad) (hr8 : rad ≤ 8000000) (hx : -129600000 ≤ x.co ∧ x.co ≤ 259200000) (hy : -129600000 ≤ y.ci ∧ y.ci ≤ 259200000)
 (hxl : x.k = 1 → x.len ≤ 8000000) (hyl : y.k = 1 → y.len ≤ 8000000) (hxn0 : Hid (x.n = (jx : Int))) (hyn0 : Hid (y.n = (jy : Int))) (hjx : jx < n0) (hjy : jy < n0) (hn60 : n0 ≤ 60) (hatx : Hid (uy w0 b0 (o0 + jx * 20) lx)) (haty : Hid (uy w0 b0 (o0 + jy * 20) ly)) (hpre : Hid (pre.length = o))
 (hM : qQ w0 w ((gd, uq V d rad, 66) :: (B ++ ((gT, pre ++ mid [.int .u8 y.k, .int .i64 y.ax, .int .i64 y.ay, .int .i64 y.bx, .int .i64 y.b_y, .int .i64 y.cx, .int .i64 y.cy, .int .i64 y.r, .int .i64 y.f, .int .i64 y.s, .int .i64 y.ci, .int .i64 y.co, .int .i64 y.len, .int .i64 y.n, .bool y.g] post, 69) :: R)))) (hO : Hid (bG V d.els B m)) (hm : m ≤ 80000 := by omega) :
 Calls Tryz.prog 14 #[.pointer (some ⟨gd, 0, none⟩), .agg #[.string pa, .string pb, .slice (some ⟨b0, o0, none⟩) n0 cap, .int .i64 act], .agg #[.int .u8 x.k, .int .i64 x.ax, .int .i64 x.ay, .int .i64 x.bx, .int .i64 x.b_y, .int .i64 x.cx, .int .i64 x.cy, .int .i64 x.r, .int .i64 x.f, .int .i64 x.s, .int .i64 x.ci, .int .i64 x.co, .int .i64 x.len, .int .i64 x.n, .bool x.g], .pointer (some ⟨gT, o, none⟩)] w fun e w' => e = .returned (.bool t.isSome) ∧ ∃ V' B', bG V' ((t.map (·.1)).getD d).els B' (m + 3) ∧ qQ w0 w' ((gd, uq V' ((t.map (·.1)).getD d) rad, 66) :: (B' ++ ((gT, pre ++ mid ((t.map (·.2)).getD y).cells post, 69) :: R))) := by
 go_enter Tryz.func14, Tryz.ntmps14
 go_upto_region 0 with fail
 try simp only [pS, pN, sA, sB, sC]
 go_cut [6, 5] (fun s6 s5 wx => ∃ gx gp : Nat, s6 = .pointer (some ⟨gx, 0, none⟩) ∧ s5 = .pointer (some ⟨gp, 0, none⟩) ∧ qQ w0 wx ((gx, [.int .u8 x.k, .int .i64 x.ax, .int .i64 x.ay, .int .i64 x.bx, .int .i64 x.b_y, .int .i64 x.cx, .int .i64 x.cy, .int .i64 x.r, .int .i64 x.f, .int .i64 x.s, .int .i64 x.ci, .int .i64 x.co, .int .i64 x.len, .int .i64 x.n, .bool x.g], 69) :: (gp, [.string pa, .string pb, .slice (some ⟨b0, o0, none⟩) n0 cap, .int .i64 act], 24) :: ((gd, uq V d rad, 66) :: (B ++ ((gT, pre ++ mid [.int .u8 y.k, .int .i64 y.ax, .int .i64 y.ay, .int .i64 y.bx, .int .i64 y.b_y, .int .i64 y.cx, .int .i64 y.cy, .int .i64 y.r, .int .i64 y.f, .int .i64 y.s, .int .i64 y.ci, .int .i64 y.co, .int .i64 y.len, .int .i64 y.n, .bool y.g] post, 69) :: R)))))
 case first =>
  go_wp2_with (first | ((with_reducible refine lX ?_); refine mL ?_) | ((with_reducible refine sX ?_); refine mS ?_; clear hM; intro W hM) | ((with_reducible refine bX ?_); refine mB ?_; clear hM; intro g W hM) | ((with_reducible refine zX ?_); refine mB ?_; clear hM; intro g W hM))
  all_goals
   go_meet
   exact ⟨_, _, rfl, rfl, hM⟩
 case rest =>
 clear hM
 obtain ⟨gx, gp, rfl, rfl, hM⟩ := hcut
 go_upto_region 1 with (first | ((with_reducible refine lX ?_); refine mL ?_) | ((with_reducible refine sX ?_); refine mS ?_; clear hM; intro W hM) | ((with_reducible refine zX ?_); refine mB ?_; clear hM; intro g W hM))
 try simp only [pS, pN, sA, sB, sC]
 by_cases hno : x.k ≠ 1 ∨ y.k ≠ 1 ∨ x.len < 1 ∨ y.len < 1 ∨ ¬ (y.ax = x.bx ∧ y.ay = x.b_y)
 · have hn := hide (show t = none from ht.out.trans (Cq hno))
   have hcs : (x.k != 1) = true ∨ ((x.k != 1) = false ∧ (y.k != 1) = true) ∨ ((x.k != 1) = false ∧ (y.k != 1) = false ∧ decide (x.len < 1) = true) ∨ ((x.k != 1) = false ∧ (y.k != 1) = false ∧ ¬ x.len < 1 ∧ decide (y.len < 1) = true) ∨ ((x.k != 1) = false ∧ (y.k != 1) = false ∧ ¬ x.len < 1 ∧ ¬ y.len < 1 ∧ ¬ (y.ax = x.bx ∧ y.ay = x.b_y)) := by
    by_cases z1 : x.k = 1
    · by_cases z2 : y.k = 1
      · by_cases z3 : x.len < 1
        · exact .inr (.inr (.inl ⟨by simpa using z1, by simpa using z2, decide_eq_true z3⟩))
        · by_cases z4 : y.len < 1
          · exact .inr (.inr (.inr (.inl ⟨by simpa using z1, by simpa using z2, z3, decide_eq_true z4⟩)))
          · refine .inr (.inr (.inr (.inr ⟨by simpa using z1, by simpa using z2, z3, z4, fun h => ?_⟩)))
            rcases hno with h1 | h1 | h1 | h1 | h1
            · exact h1 z1
            · exact h1 z2
            · exact z3 h1
            · exact z4 h1
            · exact h1 h
      · exact .inr (.inl ⟨by simpa using z1, by simpa using z2⟩)
    · exact .inl (by simpa using z1)
   clear hno ht
   rcases hcs with z1 | ⟨z1, z2⟩ | ⟨z1, z2, z3⟩ | ⟨z1, z2, z3, z4⟩ | ⟨z1, z2, z3, z4, z5⟩
   iterate 4
    · (
      refine qW [(gx, [.int .u8 x.k, .int .i64 x.ax, .int .i64 x.ay, .int .i64 x.bx, .int .i64 x.b_y, .int .i64 x.cx, .int .i64 x.cy, .int .i64 x.r, .int .i64 x.f, .int .i64 x.s, .int .i64 x.ci, .int .i64 x.co, .int .i64 x.len, .int .i64 x.n, .bool x.g], 69), (gT, pre ++ mid [.int .u8 y.k, .int .i64 y.ax, .int .i64 y.ay, .int .i64 y.bx, .int .i64 y.b_y, .int .i64 y.cx, .int .i64 y.cy, .int .i64 y.r, .int .i64 y.f, .int .i64 y.s, .int .i64 y.ci, .int .i64 y.co, .int .i64 y.len, .int .i64 y.n, .bool y.g] post, 69)] hM (by kernel_rfl) ?_; (clear hM; intro W hM)
      refine rD 0 ?_
      refine rD 1 ?_
      refine rD 2 ?_
      refine rD 3 ?_
      refine rE 4 ?_
      refine rE 5 ?_
      refine rE 6 ?_
      first | refine eL 7 hM ?_ (hv := MK hpre.out rfl) | refine eS 7 hM ?_
      try simp only [pS, pN, sA, sB, sC]
      refine rE 8 ?_
      refine rD 9 ?_
      refine rD 10 ?_
      refine rE 11 ?_
      refine rE 12 ?_
      refine rE 13 ?_
      refine rD 14 ?_
      refine rD 15 ?_
      refine rE 16 ?_
      refine rE 17 ?_
      refine rE 18 ?_
      first | refine eL 19 hM ?_ (hv := QK hpre.out rfl) | refine eS 19 hM ?_
      try simp only [pS, pN, sA, sB, sC]
      refine rE 20 ?_
      refine rD 21 ?_
      refine rD 22 ?_
      refine rE 23 ?_
      refine rE 24 ?_
      refine rE 25 ?_
      first | refine eM 26 hM ?_ (hC := vG hpre.out (by ((repeat constructor) <;> fail))) | refine eS 26 hM ?_
      try simp only [pS, pN, sA, sB, sC]
      refine rE 27 ?_
      refine rE 28 ?_
      refine rE 29 ?_
      refine rD 30 ?_
      refine qE (by kernel_rfl) ?_
      go_wp2_with (first | ((with_reducible refine lX ?_); refine mL ?_) | ((with_reducible refine sX ?_); refine mS ?_; clear hM; intro W hM) | ((with_reducible refine zX ?_); refine mB ?_; clear hM; intro g W hM))
      all_goals
       (go_ret; exact ⟨by rw [hn.out]; rfl, V, B, by rw [hn.out]; exact xR hO.out, by rw [hn.out]; exact qz (qz (hM))⟩)
      )
   · (
     refine qW [(gx, [.int .u8 x.k, .int .i64 x.ax, .int .i64 x.ay, .int .i64 x.bx, .int .i64 x.b_y, .int .i64 x.cx, .int .i64 x.cy, .int .i64 x.r, .int .i64 x.f, .int .i64 x.s, .int .i64 x.ci, .int .i64 x.co, .int .i64 x.len, .int .i64 x.n, .bool x.g], 69), (gT, pre ++ mid [.int .u8 y.k, .int .i64 y.ax, .int .i64 y.ay, .int .i64 y.bx, .int .i64 y.b_y, .int .i64 y.cx, .int .i64 y.cy, .int .i64 y.r, .int .i64 y.f, .int .i64 y.s, .int .i64 y.ci, .int .i64 y.co, .int .i64 y.len, .int .i64 y.n, .bool y.g] post, 69)] hM (by kernel_rfl) ?_; (clear hM; intro W hM)
     refine rD 0 ?_
     refine rD 1 ?_
     refine rD 2 ?_
     refine rD 3 ?_
     refine rE 4 ?_
     refine rE 5 ?_
     refine rE 6 ?_
     first | refine eL 7 hM ?_ (hv := MK hpre.out rfl) | refine eS 7 hM ?_
     try simp only [pS, pN, sA, sB, sC]
     refine rE 8 ?_
     refine rD 9 ?_
     refine rD 10 ?_
     refine rE 11 ?_
     refine rE 12 ?_
     refine rE 13 ?_
     refine rD 14 ?_
     refine rD 15 ?_
     refine rE 16 ?_
     refine rE 17 ?_
     refine rE 18 ?_
     first | refine eL 19 hM ?_ (hv := QK hpre.out rfl) | refine eS 19 hM ?_
     try simp only [pS, pN, sA, sB, sC]
     refine rE 20 ?_
     refine rD 21 ?_
     refine rD 22 ?_
     refine rE 23 ?_
     refine rE 24 ?_
     refine rE 25 ?_
     first | refine eM 26 hM ?_ (hC := vG hpre.out (by ((repeat constructor) <;> fail))) | refine eS 26 hM ?_
     try simp only [pS, pN, sA, sB, sC]
     refine rE 27 ?_
     refine rE 28 ?_
     first | refine eP 29 (v := .bool true) hM ?_ (hv := by (intro W0; go_simp; exact fun h1 h2 => z5 ⟨h1, h2⟩)) | refine eS 29 hM ?_
     try simp only [pS, pN, sA, sB, sC]
     refine rD 30 ?_
     refine qE (by kernel_rfl) ?_
     go_wp2_with (first | ((with_reducible refine lX ?_); refine mL ?_) | ((with_reducible refine sX ?_); refine mS ?_; clear hM; intro W hM) | ((with_reducible refine zX ?_); refine mB ?_; clear hM; intro g W hM))
     all_goals
      (go_ret; exact ⟨by rw [hn.out]; rfl, V, B, by rw [hn.out]; exact xR hO.out, by rw [hn.out]; exact qz (qz (hM))⟩)
     )
 have z1 : (x.k != 1) = false := by simp; omega
 have z2 : (y.k != 1) = false := by simp; omega
 have z3 : ¬ x.len < 1 := by omega
 have z4 : ¬ y.len < 1 := by omega
 have z5 : y.ax = x.bx ∧ y.ay = x.b_y := by omega
 have z6 := z5.1
 have z7 := z5.2
 have HNO := hide hno
 clear hno
 refine qW [(gx, [.int .u8 x.k, .int .i64 x.ax, .int .i64 x.ay, .int .i64 x.bx, .int .i64 x.b_y, .int .i64 x.cx, .int .i64 x.cy, .int .i64 x.r, .int .i64 x.f, .int .i64 x.s, .int .i64 x.ci, .int .i64 x.co, .int .i64 x.len, .int .i64 x.n, .bool x.g], 69), (gT, pre ++ mid [.int .u8 y.k, .int .i64 y.ax, .int .i64 y.ay, .int .i64 y.bx, .int .i64 y.b_y, .int .i64 y.cx, .int .i64 y.cy, .int .i64 y.r, .int .i64 y.f, .int .i64 y.s, .int .i64 y.ci, .int .i64 y.co, .int .i64 y.len, .int .i64 y.n, .bool y.g] post, 69)] hM (by kernel_rfl) ?_; (clear hM; intro W hM)
 refine rD 0 ?_
 refine rD 1 ?_
 refine rD 2 ?_
 refine rD 3 ?_
 refine rE 4 ?_
 refine rE 5 ?_
 refine rE 6 ?_
 first | refine eL 7 hM ?_ (hv := MK hpre.out rfl) | refine eS 7 hM ?_
 try simp only [pS, pN, sA, sB, sC]
 refine rE 8 ?_
 refine rD 9 ?_
 refine rD 10 ?_
 refine rE 11 ?_
 refine rE 12 ?_
 refine rE 13 ?_
 refine rD 14 ?_
 refine rD 15 ?_
 refine rE 16 ?_
 refine rE 17 ?_
 refine rE 18 ?_
 first | refine eL 19 hM ?_ (hv := QK hpre.out rfl) | refine eS 19 hM ?_
 try simp only [pS, pN, sA, sB, sC]
 refine rE 20 ?_
 refine rD 21 ?_
 refine rD 22 ?_
 refine rE 23 ?_
 refine rE 24 ?_
 refine rE 25 ?_
 first | refine eM 26 hM ?_ (hC := vG hpre.out (by ((repeat constructor) <;> fail))) | refine eS 26 hM ?_
 try simp only [pS, pN, sA, sB, sC]
 refine rE 27 ?_
 refine rE 28 ?_
 first | refine eP 29 (v := .bool false) hM ?_ (hv := by (intro W0; go_simp; (try rw [if_pos z6, if_pos z7]))) | refine eS 29 hM ?_
 try simp only [pS, pN, sA, sB, sC]
 refine rD 30 ?_
 refine qE (by kernel_rfl) ?_
 clear z5 z6 z7
 have z1' := hide (show x.k = 1 by simpa using z1)
 have z2' := hide (show y.k = 1 by simpa using z2)
 clear z1 z2
 go_upto_region 3 with (first | ((with_reducible refine lX ?_); refine mL ?_) | ((with_reducible refine sX ?_); refine mS ?_; clear hM; intro W hM) | ((with_reducible refine zX ?_); refine mB ?_; clear hM; intro g W hM))
 have hxn := hxn0.out
 go_upto_region 4 with (first | ((with_reducible refine lX ?_); refine uT hM rfl (by first | exact rfl | (go_simp; done)) rfl (BC rfl) (BJ hatx.out) (Qu rfl) ?_) | ((with_reducible refine lX ?_); refine mL ?_) | ((with_reducible refine sX ?_); refine mS ?_; clear hM; intro W hM) | ((with_reducible refine zX ?_); refine mB ?_; clear hM; intro g W hM))
 try simp only [pS, pN, sA, sB, sC]
 clear hxn
 rcases hov : lx.ov with _ | _
 · have HT := hide (ht.out.trans (Cr HNO.out hov))
   rw [hov] at hM
   clear HNO hov
   by_cases hty : lx.ty = 7 ∨ lx.ty = 8 ∨ lx.ty = 9 ∨ lx.ty = 10 ∨ lx.ty = 11 ∨ lx.ty = 12
   · have hn := hide (show t = none by rw [HT.out, if_pos hty])
     clear HT ht
     have hcs : (lx.ty == 9) = true ∨ ((lx.ty == 9) = false ∧ (lx.ty == 7) = true) ∨ ((lx.ty == 9) = false ∧ (lx.ty == 7) = false ∧ (lx.ty == 8) = true) ∨ ((lx.ty == 9) = false ∧ (lx.ty == 7) = false ∧ (lx.ty == 8) = false ∧ (lx.ty == 10) = true) ∨ ((lx.ty == 9) = false ∧ (lx.ty == 7) = false ∧ (lx.ty == 8) = false ∧ (lx.ty == 10) = false ∧ (lx.ty == 11) = true) ∨ ((lx.ty == 9) = false ∧ (lx.ty == 7) = false ∧ (lx.ty == 8) = false ∧ (lx.ty == 10) = false ∧ (lx.ty == 11) = false ∧ (lx.ty == 12) = true) := by
      rcases hty with h | h | h | h | h | h <;> rw [h] <;> decide
     clear hty
     rcases hcs with f9 | ⟨f9, f7⟩ | ⟨f9, f7, f8⟩ | ⟨f9, f7, f8, f10⟩ | ⟨f9, f7, f8, f10, f11⟩ | ⟨f9, f7, f8, f10, f11, f12⟩
     all_goals
      go_wp2_with (first | ((with_reducible refine lX ?_); refine mL ?_) | ((with_reducible refine sX ?_); refine mS ?_; clear hM; intro W hM) | ((with_reducible refine zX ?_); refine mB ?_; clear hM; intro g W hM))
      all_goals
       (go_ret; exact ⟨by rw [hn.out]; rfl, V, B, by rw [hn.out]; exact xR hO.out, by rw [hn.out]; exact qz (qz (qz (hM)))⟩)
   · have f9 : (lx.ty == 9) = false := by simp; omega
     have f7 : (lx.ty == 7) = false := by simp; omega
     have f8 : (lx.ty == 8) = false := by simp; omega
     have f10 : (lx.ty == 10) = false := by simp; omega
     have f11 : (lx.ty == 11) = false := by simp; omega
     have f12 : (lx.ty == 12) = false := by simp; omega
     obtain ⟨t2, ht0⟩ : ∃ t2, t2 = Kw rad d x y := ⟨_, rfl⟩
     have e2 : t = t2.map (fun d' => (d', y)) := by rw [HT.out, if_neg hty, ht0]
     have ht2 := hide ht0
     have he2 := hide e2
     clear HT ht hty ht0 e2
     go_upto_region 14 with (first | ((with_reducible refine lX ?_); refine mL ?_) | ((with_reducible refine sX ?_); refine mS ?_; clear hM; intro W hM) | ((with_reducible refine zX ?_); refine mB ?_; clear hM; intro g W hM))
     try simp only [pS, pN, sA, sB, sC]
     refine qW [(gx, [.int .u8 x.k, .int .i64 x.ax, .int .i64 x.ay, .int .i64 x.bx, .int .i64 x.b_y, .int .i64 x.cx, .int .i64 x.cy, .int .i64 x.r, .int .i64 x.f, .int .i64 x.s, .int .i64 x.ci, .int .i64 x.co, .int .i64 x.len, .int .i64 x.n, .bool x.g], 69), (gT, pre ++ mid [.int .u8 y.k, .int .i64 y.ax, .int .i64 y.ay, .int .i64 y.bx, .int .i64 y.b_y, .int .i64 y.cx, .int .i64 y.cy, .int .i64 y.r, .int .i64 y.f, .int .i64 y.s, .int .i64 y.ci, .int .i64 y.co, .int .i64 y.len, .int .i64 y.n, .bool y.g] post, 69)] hM (by kernel_rfl) ?_; (clear hM; intro W hM)
     refine rD 0 ?_
     refine rD 1 ?_
     refine rD 2 ?_
     refine rD 3 ?_
     refine dM 4 hM ?_ (hC := tI hpre.out (by ((repeat constructor) <;> fail)))
     try simp only [pS, pN, sA, sB, sC]
     refine dC 5 (fun K' hK' => ?_)
     go_wp2_with (first | (go_at_call 39; refine RH hM (fun R' hM' => Wx x y t2 ht2 hr hr8 (by omega) (hxl z1'.out) (by omega) (hyl z2'.out) hM' hO) ?_; clear hM hO; intro V1 B1 W1 hO1 hM; simp only [List.cons_append, List.nil_append] at hM))
     refine rK hK' hM ?_; clear hK' K'
     refine rD 6 ?_
     refine qE (by kernel_rfl) ?_
     have e2 := he2.out
     subst e2
     clear he2
     go_wp2_with (first | ((with_reducible refine lX ?_); refine mL ?_) | ((with_reducible refine sX ?_); refine mS ?_; clear hM; intro W hM) | ((with_reducible refine zX ?_); refine mB ?_; clear hM; intro g W hM))
     all_goals
      (go_ret; exact ⟨by cases t2 <;> rfl, V1, B1, by cases t2 <;> exact hO1.out, by cases t2 <;> exact qz (qz (qz hM))⟩)
 · have HT := hide (ht.out.trans (Wz HNO.out hov))
   rw [hov] at hM
   clear HNO hov
   by_cases h4 : ly.ty = 4
   · have ht2 : Hid (t = Zp rad d x y) := hide (by rw [HT.out, if_pos h4])
     have k4 : (ly.ty == 4) = true := by simpa using h4
     clear HT ht h4
     go_upto_region 5 with (first | ((with_reducible refine lX ?_); refine mL ?_) | ((with_reducible refine sX ?_); refine mS ?_; clear hM; intro W hM) | ((with_reducible refine zX ?_); refine mB ?_; clear hM; intro g W hM))
     try simp only [pS, pN, sA, sB, sC]
     refine qW [(gx, [.int .u8 x.k, .int .i64 x.ax, .int .i64 x.ay, .int .i64 x.bx, .int .i64 x.b_y, .int .i64 x.cx, .int .i64 x.cy, .int .i64 x.r, .int .i64 x.f, .int .i64 x.s, .int .i64 x.ci, .int .i64 x.co, .int .i64 x.len, .int .i64 x.n, .bool x.g], 69), (gp, [.string pa, .string pb, .slice (some ⟨b0, o0, none⟩) n0 cap, .int .i64 act], 24)] hM (by kernel_rfl) ?_; (clear hM; intro W hM)
     refine rD 0 ?_
     refine rD 1 ?_
     refine rD 2 ?_
     refine rD 3 ?_
     refine rD 4 ?_
     refine dC 5 (fun K' hK' => ?_)
     refine oL hM ?_ (hv := QK hpre.out rfl)
     refine rK hK' hM ?_; clear hK' K'
     refine dC 6 (fun K' hK' => ?_)
     have hyn := hyn0.out
     go_wp2_with fail
     clear hyn
     refine rK hK' hM ?_; clear hK' K'
     refine rD 7 ?_
     refine rD 8 ?_
     refine dC 9 (fun K' hK' => ?_)
     refine oO hM (aK haty.out) ?_
     refine rK hK' hM ?_; clear hK' K'
     refine rD 10 ?_
     refine rD 11 ?_
     refine rE 12 ?_
     refine rE 13 ?_
     refine rE 14 ?_
     first
      | refine Rw 15 hM ?_
      | (refine eC 15 (fun K' hK' => ?_)
         go_wp2_with (first | (go_at_call 38; refine cT hM (fun R' hM' => cG x y t ht2 hr hr8 hx hy hpre hM' hO) ?_; clear hM hO; intro V1 B1 W1 hO1 hM; simp only [List.cons_append, List.nil_append] at hM))
         refine rK hK' hM ?_; clear hK' K')
     refine rD 16 ?_
     refine rD 17 ?_
     refine qE (by kernel_rfl) ?_
     go_wp2_with (first | ((with_reducible refine lX ?_); refine mL ?_) | ((with_reducible refine sX ?_); refine mS ?_; clear hM; intro W hM) | ((with_reducible refine zX ?_); refine mB ?_; clear hM; intro g W hM))
     all_goals
      (go_ret; exact ⟨rfl, V1, B1, ⟨hO1.out.1, Nat.le_trans hO1.out.2 (by omega)⟩, qz (qz (qz hM))⟩)
   · have hn := hide (show t = none by rw [HT.out, if_neg h4])
     have k4 : (ly.ty == 4) = false := by simpa using h4
     clear HT ht h4
     go_upto_region 5 with (first | ((with_reducible refine lX ?_); refine mL ?_) | ((with_reducible refine sX ?_); refine mS ?_; clear hM; intro W hM) | ((with_reducible refine zX ?_); refine mB ?_; clear hM; intro g W hM))
     try simp only [pS, pN, sA, sB, sC]
     refine qW [(gx, [.int .u8 x.k, .int .i64 x.ax, .int .i64 x.ay, .int .i64 x.bx, .int .i64 x.b_y, .int .i64 x.cx, .int .i64 x.cy, .int .i64 x.r, .int .i64 x.f, .int .i64 x.s, .int .i64 x.ci, .int .i64 x.co, .int .i64 x.len, .int .i64 x.n, .bool x.g], 69), (gp, [.string pa, .string pb, .slice (some ⟨b0, o0, none⟩) n0 cap, .int .i64 act], 24)] hM (by kernel_rfl) ?_; (clear hM; intro W hM)
     refine rD 0 ?_
     refine rD 1 ?_
     refine rD 2 ?_
     refine rD 3 ?_
     refine rD 4 ?_
     refine dC 5 (fun K' hK' => ?_)
     refine oL hM ?_ (hv := QK hpre.out rfl)
     refine rK hK' hM ?_; clear hK' K'
     refine dC 6 (fun K' hK' => ?_)
     have hyn := hyn0.out
     go_wp2_with fail
     clear hyn
     refine rK hK' hM ?_; clear hK' K'
     refine rD 7 ?_
     refine rD 8 ?_
     refine dC 9 (fun K' hK' => ?_)
     refine oO hM (aK haty.out) ?_
     refine rK hK' hM ?_; clear hK' K'
     refine rD 10 ?_
     refine rD 11 ?_
     refine rE 12 ?_
     refine rE 13 ?_
     refine rE 14 ?_
     first
      | refine Rw 15 hM ?_
      | (refine eC 15 (fun K' hK' => ?_)
         go_wp2_with fail
         refine rK hK' hM ?_; clear hK' K')
     refine rD 16 ?_
     refine rD 17 ?_
     refine qE (by kernel_rfl) ?_
     go_wp2_with (first | ((with_reducible refine lX ?_); refine mL ?_) | ((with_reducible refine sX ?_); refine mS ?_; clear hM; intro W hM) | ((with_reducible refine zX ?_); refine mB ?_; clear hM; intro g W hM))
     all_goals
      (go_ret; exact ⟨by rw [hn.out]; rfl, V, B, by rw [hn.out]; exact xR hO.out, by rw [hn.out]; exact qz (qz (qz (hM)))⟩)
end Go.Proofs.YteanfgobpjdmnaaGreatDoor
