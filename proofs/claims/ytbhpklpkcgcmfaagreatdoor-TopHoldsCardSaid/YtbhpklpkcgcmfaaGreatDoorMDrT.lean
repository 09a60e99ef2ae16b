/-
  What leads from a track to the next one, by boxes.
-/
import Derived.Test.YtbhpklpkcgcmfaaGreatDoorMDrF
import Derived.Test.YtbhpklpkcgcmfaaGreatDoorMDrO
import Derived.Test.YtbhpklpkcgcmfaaGreatDoorMMemW
namespace Go.Proofs.YtbhpklpkcgcmfaaGreatDoor
open Go.RowKit
set_option linter.unusedVariables false
set_option linter.unusedSimpArgs false
theorem tr_no {rad : Int} {d : Dw} {lx ly : En} {x y : Tk} (h : x.k ≠ 1 ∨ y.k ≠ 1 ∨ x.len < 1 ∨ y.len < 1 ∨ ¬ (y.ax = x.bx ∧ y.ay = x.b_y)) : trT rad d lx ly x y = none := by unfold trT; rw [if_pos h]
theorem tr_over {rad : Int} {d : Dw} {lx ly : En} {x y : Tk} (h : ¬ (x.k ≠ 1 ∨ y.k ≠ 1 ∨ x.len < 1 ∨ y.len < 1 ∨ ¬ (y.ax = x.bx ∧ y.ay = x.b_y))) (ho : lx.ov = true) : trT rad d lx ly x y = if ly.ty = 4 then foT rad d x y else none := by unfold trT; rw [if_neg h, if_pos ho]
theorem tr_by {rad : Int} {d : Dw} {lx ly : En} {x y : Tk} (h : ¬ (x.k ≠ 1 ∨ y.k ≠ 1 ∨ x.len < 1 ∨ y.len < 1 ∨ ¬ (y.ax = x.bx ∧ y.ay = x.b_y))) (ho : lx.ov = false) :
 trT rad d lx ly x y = if lx.ty = 7 ∨ lx.ty = 8 ∨ lx.ty = 9 ∨ lx.ty = 10 ∨ lx.ty = 11 ∨ lx.ty = 12 then none else (fbT rad d x y).map (fun d' => (d', y)) := by unfold trT; rw [if_neg h, if_neg (by rw [ho]; simp)]
theorem cT {f : FuncId} {xs : Array Value} {w0 W : World} {L pr : List Box} {gd gT : Nat} {cs cs' : List Value} {rad : Int} {V v : Value} {d d' : Dw} {B R : List Box} {m : Nat} {Q : Ending → World → Prop} (hM : Mem w0 W L)
 (hc : ∀ R', Mem w0 W ((gd, dwC V d rad, 74) :: (B ++ ((gT, cs, 77) :: R'))) → Calls Tryz.prog f xs W fun e w' => e = .returned v ∧ ∃ V' B', OwE V' d'.els B' m ∧ Mem w0 w' ((gd, dwC V' d' rad, 74) :: (B' ++ ((gT, cs', 77) :: R'))))
 (h : ∀ V' B' W1, Hid (OwE V' d'.els B' m) → Mem w0 W1 (pr ++ (gd, dwC V' d' rad, 74) :: (B' ++ ((gT, cs', 77) :: R))) → Q (.returned v) W1) (hs : Sd L pr gd (dwC V d rad) 74 B ((gT, cs, 77) :: R) := by ((repeat constructor) <;> fail)) : Calls Tryz.prog f xs W Q := by
 have h1 := hs.eq
 subst h1
 have p : ∀ (V' : Value) (d' : Dw) (B' : List Box) (c : List Value), (pr ++ (gd, dwC V' d' rad, 74) :: (B' ++ ((gT, c, 77) :: R))).Perm ((gd, dwC V' d' rad, 74) :: (B' ++ ((gT, c, 77) :: (pr ++ R)))) := fun V' d' B' c => (perm_out pr _ B' _).trans (.cons _ (List.Perm.append_left _ List.perm_middle))
 refine (hc (pr ++ R) (mem_perm hM (p V d B cs))).mono ?_
 rintro e w' ⟨rfl, V', B', h3, h4⟩
 exact h V' B' w' (hide h3) (mem_perm h4 (p V' d' B' cs').symm)
theorem cUd {f : FuncId} {xs : Array Value} {w0 W : World} {L pr : List Box} {gd : Nat} {rad : Int} {V v : Value} {d d' : Dw} {B R : List Box} {m : Nat} {Q : Ending → World → Prop} (hM : Mem w0 W L)
 (hc : ∀ R', Mem w0 W ((gd, dwC V d rad, 74) :: (B ++ R')) → Calls Tryz.prog f xs W fun e w' => e = .returned v ∧ ∃ V' B', OwE V' d'.els B' m ∧ Mem w0 w' ((gd, dwC V' d' rad, 74) :: (B' ++ R')))
 (h : ∀ V' B' W1, Hid (OwE V' d'.els B' m) → Mem w0 W1 (pr ++ (gd, dwC V' d' rad, 74) :: (B' ++ R)) → Q (.returned v) W1) (hs : Sd L pr gd (dwC V d rad) 74 B R := by ((repeat constructor) <;> fail)) : Calls Tryz.prog f xs W Q :=
 cD hM hc (fun d1 V' B' W1 e ho hM' => by
  have e := e.out
  subst e
  exact h V' B' W1 ho hM') hs
theorem len_post {d : List El} {V : Value} {B : List Box} {m k : Nat} (h : OwE V d B m) : OwE V d B (m + k) := ⟨h.1, Nat.le_trans h.2 (by omega)⟩
set_option maxRecDepth 100000 in
set_option maxHeartbeats 8000000 in
theorem trans_d {w0 w : World} {gd : Nat} {rad : Int} {V : Value} {d : Dw} {B R : List Box} {m gT o : Nat} {pre post : List Value} (pa pb : ByteArray) (b0 o0 n0 cap : Nat) (act : Int) (lx ly : En) (x y : Tk) (jx jy : Nat) (t : Option (Dw × Tk)) (ht : Hid (t = trT rad d lx ly x y)) (hr : 1 ≤ rad) (hr8 : rad ≤ 8000000) (hx : -129600000 ≤ x.co ∧ x.co ≤ 259200000) (hy : -129600000 ≤ y.ci ∧ y.ci ≤ 259200000)
 (hxl : x.k = 1 → x.len ≤ 8000000) (hyl : y.k = 1 → y.len ≤ 8000000) (hxn0 : Hid (x.n = (jx : Int))) (hyn0 : Hid (y.n = (jy : Int))) (hjx : jx < n0) (hjy : jy < n0) (hn60 : n0 ≤ 60) (hatx : Hid (entAt w0 b0 (o0 + jx * 20) lx)) (haty : Hid (entAt w0 b0 (o0 + jy * 20) ly)) (hpre : Hid (pre.length = o))
 (hM : Mem w0 w ((gd, dwC V d rad, 74) :: (B ++ ((gT, pre ++ mid [.int .u8 y.k, .int .i64 y.ax, .int .i64 y.ay, .int .i64 y.bx, .int .i64 y.b_y, .int .i64 y.cx, .int .i64 y.cy, .int .i64 y.r, .int .i64 y.f, .int .i64 y.s, .int .i64 y.ci, .int .i64 y.co, .int .i64 y.len, .int .i64 y.n, .bool y.g] post, 77) :: R)))) (hO : Hid (OwE V d.els B m)) (hm : m ≤ 80000 := by omega) :
 Calls Tryz.prog 27 #[.pointer (some ⟨gd, 0, none⟩), .agg #[.string pa, .string pb, .slice (some ⟨b0, o0, none⟩) n0 cap, .int .i64 act], .agg #[.int .u8 x.k, .int .i64 x.ax, .int .i64 x.ay, .int .i64 x.bx, .int .i64 x.b_y, .int .i64 x.cx, .int .i64 x.cy, .int .i64 x.r, .int .i64 x.f, .int .i64 x.s, .int .i64 x.ci, .int .i64 x.co, .int .i64 x.len, .int .i64 x.n, .bool x.g], .pointer (some ⟨gT, o, none⟩)] w fun e w' => e = .returned (.bool t.isSome) ∧ ∃ V' B', OwE V' ((t.map (·.1)).getD d).els B' (m + 3) ∧ Mem w0 w' ((gd, dwC V' ((t.map (·.1)).getD d) rad, 74) :: (B' ++ ((gT, pre ++ mid ((t.map (·.2)).getD y).cells post, 77) :: R))) := by
 go_enter Tryz.func27, Tryz.ntmps27
 go_upto_region 0 with (first | ((with_reducible refine lX ?_); first | refine aL hM rfl rfl ?_ | refine aM hM rfl rfl ?_) | ((with_reducible refine sX ?_); refine aS hM rfl rfl rfl ?_; clear hM; intro W hM) | ((with_reducible refine bX ?_); refine aB hM rfl rfl ?_; clear hM; intro g W hM) | ((with_reducible refine zX ?_); refine aN hM rfl rfl ?_; clear hM; intro g W hM))
 try simp only [pS, pN, sA, sB, sC]
 go_cut [6, 5] (fun s6 s5 wx => ∃ gx gp : Nat, s6 = .pointer (some ⟨gx, 0, none⟩) ∧ s5 = .pointer (some ⟨gp, 0, none⟩) ∧ Mem w0 wx ((gx, [.int .u8 x.k, .int .i64 x.ax, .int .i64 x.ay, .int .i64 x.bx, .int .i64 x.b_y, .int .i64 x.cx, .int .i64 x.cy, .int .i64 x.r, .int .i64 x.f, .int .i64 x.s, .int .i64 x.ci, .int .i64 x.co, .int .i64 x.len, .int .i64 x.n, .bool x.g], 77) :: (gp, [.string pa, .string pb, .slice (some ⟨b0, o0, none⟩) n0 cap, .int .i64 act], 24) :: ((gd, dwC V d rad, 74) :: (B ++ ((gT, pre ++ mid [.int .u8 y.k, .int .i64 y.ax, .int .i64 y.ay, .int .i64 y.bx, .int .i64 y.b_y, .int .i64 y.cx, .int .i64 y.cy, .int .i64 y.r, .int .i64 y.f, .int .i64 y.s, .int .i64 y.ci, .int .i64 y.co, .int .i64 y.len, .int .i64 y.n, .bool y.g] post, 77) :: R)))))
 case first =>
  go_wp2_with (first | ((with_reducible refine lX ?_); first | refine aL hM rfl rfl ?_ | refine aM hM rfl rfl ?_) | ((with_reducible refine sX ?_); refine aS hM rfl rfl rfl ?_; clear hM; intro W hM) | ((with_reducible refine bX ?_); refine aB hM rfl rfl ?_; clear hM; intro g W hM) | ((with_reducible refine zX ?_); refine aN hM rfl rfl ?_; clear hM; intro g W hM))
  all_goals
   go_meet
   exact ⟨_, _, rfl, rfl, hM⟩
 case rest =>
 clear hM
 obtain ⟨gx, gp, rfl, rfl, hM⟩ := hcut
 go_upto_region 1 with (first | ((with_reducible refine lX ?_); first | refine aL hM rfl rfl ?_ | refine aM hM rfl rfl ?_) | ((with_reducible refine sX ?_); refine aS hM rfl rfl rfl ?_; clear hM; intro W hM) | ((with_reducible refine bX ?_); refine aB hM rfl rfl ?_; clear hM; intro g W hM) | ((with_reducible refine zX ?_); refine aN hM rfl rfl ?_; clear hM; intro g W hM))
 try simp only [pS, pN, sA, sB, sC]
 by_cases hno : x.k ≠ 1 ∨ y.k ≠ 1 ∨ x.len < 1 ∨ y.len < 1 ∨ ¬ (y.ax = x.bx ∧ y.ay = x.b_y)
 · have hn := hide (show t = none from ht.out.trans (tr_no hno))
   have hcs : (x.k != 1) = true ∨ ((x.k != 1) = false ∧ (y.k != 1) = true) ∨ ((x.k != 1) = false ∧ (y.k != 1) = false ∧ decide (x.len < 1) = true) ∨ ((x.k != 1) = false ∧ (y.k != 1) = false ∧ ¬ x.len < 1 ∧ decide (y.len < 1) = true) ∨ ((x.k != 1) = false ∧ (y.k != 1) = false ∧ ¬ x.len < 1 ∧ ¬ y.len < 1 ∧ ¬ (y.ax = x.bx ∧ y.ay = x.b_y)) := by
    by_cases z1 : x.k = 1
    · by_cases z2 : y.k = 1
      · by_cases z3 : x.len < 1
        · exact .inr (.inr (.inl ⟨by simpa using z1, by simpa using z2, decide_eq_true z3⟩))
        · by_cases z4 : y.len < 1
          · exact .inr (.inr (.inr (.inl ⟨by simpa using z1, by simpa using z2, z3, decide_eq_true z4⟩)))
          · refine .inr (.inr (.inr (.inr ⟨by simpa using z1, by simpa using z2, z3, z4, fun h => ?_⟩)))
            rcases hno with h1 | h1 | h1 | h1 | h1
            · exact h1 z1
            · exact h1 z2
            · exact z3 h1
            · exact z4 h1
            · exact h1 h
      · exact .inr (.inl ⟨by simpa using z1, by simpa using z2⟩)
    · exact .inl (by simpa using z1)
   clear hno ht
   rcases hcs with z1 | ⟨z1, z2⟩ | ⟨z1, z2, z3⟩ | ⟨z1, z2, z3, z4⟩ | ⟨z1, z2, z3, z4, z5⟩
   iterate 4
    · (
      refine region_k [(gx, [.int .u8 x.k, .int .i64 x.ax, .int .i64 x.ay, .int .i64 x.bx, .int .i64 x.b_y, .int .i64 x.cx, .int .i64 x.cy, .int .i64 x.r, .int .i64 x.f, .int .i64 x.s, .int .i64 x.ci, .int .i64 x.co, .int .i64 x.len, .int .i64 x.n, .bool x.g], 77), (gT, pre ++ mid [.int .u8 y.k, .int .i64 y.ax, .int .i64 y.ay, .int .i64 y.bx, .int .i64 y.b_y, .int .i64 y.cx, .int .i64 y.cy, .int .i64 y.r, .int .i64 y.f, .int .i64 y.s, .int .i64 y.ci, .int .i64 y.co, .int .i64 y.len, .int .i64 y.n, .bool y.g] post, 77)] hM (by kernel_rfl) ?_; (clear hM; intro W hM)
      refine dP 0 hM ?_
      try simp only [pS, pN, sA, sB, sC]
      first | refine dL 1 hM ?_ | refine dM 1 hM ?_
      try simp only [pS, pN, sA, sB, sC]
      refine dP 2 hM ?_
      try simp only [pS, pN, sA, sB, sC]
      refine dP 3 hM ?_
      try simp only [pS, pN, sA, sB, sC]
      first | refine eP 4 hM ?_ | refine eS 4 hM ?_
      try simp only [pS, pN, sA, sB, sC]
      first | refine eP 5 hM ?_ | refine eS 5 hM ?_
      try simp only [pS, pN, sA, sB, sC]
      first | refine eP 6 hM ?_ | refine eS 6 hM ?_
      try simp only [pS, pN, sA, sB, sC]
      first | refine eL 7 hM ?_ (hv := row0 hpre.out rfl) | refine eS 7 hM ?_
      try simp only [pS, pN, sA, sB, sC]
      first | refine eP 8 hM ?_ | refine eS 8 hM ?_
      try simp only [pS, pN, sA, sB, sC]
      refine dP 9 hM ?_
      try simp only [pS, pN, sA, sB, sC]
      refine dP 10 hM ?_
      try simp only [pS, pN, sA, sB, sC]
      first | refine eP 11 hM ?_ | refine eS 11 hM ?_
      try simp only [pS, pN, sA, sB, sC]
      first | refine eL 12 hM ?_ | refine eM 12 hM ?_ | refine eS 12 hM ?_
      try simp only [pS, pN, sA, sB, sC]
      first | refine eP 13 hM ?_ | refine eS 13 hM ?_
      try simp only [pS, pN, sA, sB, sC]
      refine dP 14 hM ?_
      try simp only [pS, pN, sA, sB, sC]
      refine dP 15 hM ?_
      try simp only [pS, pN, sA, sB, sC]
      first | refine eP 16 hM ?_ | refine eS 16 hM ?_
      try simp only [pS, pN, sA, sB, sC]
      first | refine eP 17 hM ?_ | refine eS 17 hM ?_
      try simp only [pS, pN, sA, sB, sC]
      first | refine eP 18 hM ?_ | refine eS 18 hM ?_
      try simp only [pS, pN, sA, sB, sC]
      first | refine eL 19 hM ?_ (hv := row1 hpre.out rfl) | refine eS 19 hM ?_
      try simp only [pS, pN, sA, sB, sC]
      first | refine eP 20 hM ?_ | refine eS 20 hM ?_
      try simp only [pS, pN, sA, sB, sC]
      refine dP 21 hM ?_
      try simp only [pS, pN, sA, sB, sC]
      refine dP 22 hM ?_
      try simp only [pS, pN, sA, sB, sC]
      first | refine eP 23 hM ?_ | refine eS 23 hM ?_
      try simp only [pS, pN, sA, sB, sC]
      first | refine eP 24 hM ?_ | refine eS 24 hM ?_
      try simp only [pS, pN, sA, sB, sC]
      first | refine eP 25 hM ?_ | refine eS 25 hM ?_
      try simp only [pS, pN, sA, sB, sC]
      first | refine eM 26 hM ?_ (hC := part_row hpre.out (by ((repeat constructor) <;> fail))) | refine eS 26 hM ?_
      try simp only [pS, pN, sA, sB, sC]
      first | refine eP 27 hM ?_ | refine eS 27 hM ?_
      try simp only [pS, pN, sA, sB, sC]
      first | refine eL 28 hM ?_ | refine eM 28 hM ?_ | refine eS 28 hM ?_
      try simp only [pS, pN, sA, sB, sC]
      first | refine eP 29 hM ?_ | refine eS 29 hM ?_
      try simp only [pS, pN, sA, sB, sC]
      refine dP 30 hM ?_
      try simp only [pS, pN, sA, sB, sC]
      refine tk_done (by kernel_rfl) ?_
      go_wp2_with (first | ((with_reducible refine lX ?_); first | refine aL hM rfl rfl ?_ | refine aM hM rfl rfl ?_) | ((with_reducible refine sX ?_); refine aS hM rfl rfl rfl ?_; clear hM; intro W hM) | ((with_reducible refine bX ?_); refine aB hM rfl rfl ?_; clear hM; intro g W hM) | ((with_reducible refine zX ?_); refine aN hM rfl rfl ?_; clear hM; intro g W hM))
      all_goals
       (go_ret; exact ⟨by rw [hn.out]; rfl, V, B, by rw [hn.out]; exact len_post hO.out, by rw [hn.out]; exact mem_tl (mem_tl (hM))⟩)
      )
   · (
     refine region_k [(gx, [.int .u8 x.k, .int .i64 x.ax, .int .i64 x.ay, .int .i64 x.bx, .int .i64 x.b_y, .int .i64 x.cx, .int .i64 x.cy, .int .i64 x.r, .int .i64 x.f, .int .i64 x.s, .int .i64 x.ci, .int .i64 x.co, .int .i64 x.len, .int .i64 x.n, .bool x.g], 77), (gT, pre ++ mid [.int .u8 y.k, .int .i64 y.ax, .int .i64 y.ay, .int .i64 y.bx, .int .i64 y.b_y, .int .i64 y.cx, .int .i64 y.cy, .int .i64 y.r, .int .i64 y.f, .int .i64 y.s, .int .i64 y.ci, .int .i64 y.co, .int .i64 y.len, .int .i64 y.n, .bool y.g] post, 77)] hM (by kernel_rfl) ?_; (clear hM; intro W hM)
     refine dP 0 hM ?_
     try simp only [pS, pN, sA, sB, sC]
     first | refine dL 1 hM ?_ | refine dM 1 hM ?_
     try simp only [pS, pN, sA, sB, sC]
     refine dP 2 hM ?_
     try simp only [pS, pN, sA, sB, sC]
     refine dP 3 hM ?_
     try simp only [pS, pN, sA, sB, sC]
     first | refine eP 4 hM ?_ | refine eS 4 hM ?_
     try simp only [pS, pN, sA, sB, sC]
     first | refine eP 5 hM ?_ | refine eS 5 hM ?_
     try simp only [pS, pN, sA, sB, sC]
     first | refine eP 6 hM ?_ | refine eS 6 hM ?_
     try simp only [pS, pN, sA, sB, sC]
     first | refine eL 7 hM ?_ (hv := row0 hpre.out rfl) | refine eS 7 hM ?_
     try simp only [pS, pN, sA, sB, sC]
     first | refine eP 8 hM ?_ | refine eS 8 hM ?_
     try simp only [pS, pN, sA, sB, sC]
     refine dP 9 hM ?_
     try simp only [pS, pN, sA, sB, sC]
     refine dP 10 hM ?_
     try simp only [pS, pN, sA, sB, sC]
     first | refine eP 11 hM ?_ | refine eS 11 hM ?_
     try simp only [pS, pN, sA, sB, sC]
     first | refine eL 12 hM ?_ | refine eM 12 hM ?_ | refine eS 12 hM ?_
     try simp only [pS, pN, sA, sB, sC]
     first | refine eP 13 hM ?_ | refine eS 13 hM ?_
     try simp only [pS, pN, sA, sB, sC]
     refine dP 14 hM ?_
     try simp only [pS, pN, sA, sB, sC]
     refine dP 15 hM ?_
     try simp only [pS, pN, sA, sB, sC]
     first | refine eP 16 hM ?_ | refine eS 16 hM ?_
     try simp only [pS, pN, sA, sB, sC]
     first | refine eP 17 hM ?_ | refine eS 17 hM ?_
     try simp only [pS, pN, sA, sB, sC]
     first | refine eP 18 hM ?_ | refine eS 18 hM ?_
     try simp only [pS, pN, sA, sB, sC]
     first | refine eL 19 hM ?_ (hv := row1 hpre.out rfl) | refine eS 19 hM ?_
     try simp only [pS, pN, sA, sB, sC]
     first | refine eP 20 hM ?_ | refine eS 20 hM ?_
     try simp only [pS, pN, sA, sB, sC]
     refine dP 21 hM ?_
     try simp only [pS, pN, sA, sB, sC]
     refine dP 22 hM ?_
     try simp only [pS, pN, sA, sB, sC]
     first | refine eP 23 hM ?_ | refine eS 23 hM ?_
     try simp only [pS, pN, sA, sB, sC]
     first | refine eP 24 hM ?_ | refine eS 24 hM ?_
     try simp only [pS, pN, sA, sB, sC]
     first | refine eP 25 hM ?_ | refine eS 25 hM ?_
     try simp only [pS, pN, sA, sB, sC]
     first | refine eM 26 hM ?_ (hC := part_row hpre.out (by ((repeat constructor) <;> fail))) | refine eS 26 hM ?_
     try simp only [pS, pN, sA, sB, sC]
     first | refine eP 27 hM ?_ | refine eS 27 hM ?_
     try simp only [pS, pN, sA, sB, sC]
     first | refine eL 28 hM ?_ | refine eM 28 hM ?_ | refine eS 28 hM ?_
     try simp only [pS, pN, sA, sB, sC]
     first | refine eP 29 (v := .bool true) hM ?_ (hv := by (intro W0; go_simp; exact fun h1 h2 => z5 ⟨h1, h2⟩)) | refine eS 29 hM ?_
     try simp only [pS, pN, sA, sB, sC]
     refine dP 30 hM ?_
     try simp only [pS, pN, sA, sB, sC]
     refine tk_done (by kernel_rfl) ?_
     go_wp2_with (first | ((with_reducible refine lX ?_); first | refine aL hM rfl rfl ?_ | refine aM hM rfl rfl ?_) | ((with_reducible refine sX ?_); refine aS hM rfl rfl rfl ?_; clear hM; intro W hM) | ((with_reducible refine bX ?_); refine aB hM rfl rfl ?_; clear hM; intro g W hM) | ((with_reducible refine zX ?_); refine aN hM rfl rfl ?_; clear hM; intro g W hM))
     all_goals
      (go_ret; exact ⟨by rw [hn.out]; rfl, V, B, by rw [hn.out]; exact len_post hO.out, by rw [hn.out]; exact mem_tl (mem_tl (hM))⟩)
     )
 have z1 : (x.k != 1) = false := by simp; omega
 have z2 : (y.k != 1) = false := by simp; omega
 have z3 : ¬ x.len < 1 := by omega
 have z4 : ¬ y.len < 1 := by omega
 have z5 : y.ax = x.bx ∧ y.ay = x.b_y := by omega
 have z6 := z5.1
 have z7 := z5.2
 have HNO := hide hno
 clear hno
 refine region_k [(gx, [.int .u8 x.k, .int .i64 x.ax, .int .i64 x.ay, .int .i64 x.bx, .int .i64 x.b_y, .int .i64 x.cx, .int .i64 x.cy, .int .i64 x.r, .int .i64 x.f, .int .i64 x.s, .int .i64 x.ci, .int .i64 x.co, .int .i64 x.len, .int .i64 x.n, .bool x.g], 77), (gT, pre ++ mid [.int .u8 y.k, .int .i64 y.ax, .int .i64 y.ay, .int .i64 y.bx, .int .i64 y.b_y, .int .i64 y.cx, .int .i64 y.cy, .int .i64 y.r, .int .i64 y.f, .int .i64 y.s, .int .i64 y.ci, .int .i64 y.co, .int .i64 y.len, .int .i64 y.n, .bool y.g] post, 77)] hM (by kernel_rfl) ?_; (clear hM; intro W hM)
 refine dP 0 hM ?_
 try simp only [pS, pN, sA, sB, sC]
 first | refine dL 1 hM ?_ | refine dM 1 hM ?_
 try simp only [pS, pN, sA, sB, sC]
 refine dP 2 hM ?_
 try simp only [pS, pN, sA, sB, sC]
 refine dP 3 hM ?_
 try simp only [pS, pN, sA, sB, sC]
 first | refine eP 4 hM ?_ | refine eS 4 hM ?_
 try simp only [pS, pN, sA, sB, sC]
 first | refine eP 5 hM ?_ | refine eS 5 hM ?_
 try simp only [pS, pN, sA, sB, sC]
 first | refine eP 6 hM ?_ | refine eS 6 hM ?_
 try simp only [pS, pN, sA, sB, sC]
 first | refine eL 7 hM ?_ (hv := row0 hpre.out rfl) | refine eS 7 hM ?_
 try simp only [pS, pN, sA, sB, sC]
 first | refine eP 8 hM ?_ | refine eS 8 hM ?_
 try simp only [pS, pN, sA, sB, sC]
 refine dP 9 hM ?_
 try simp only [pS, pN, sA, sB, sC]
 refine dP 10 hM ?_
 try simp only [pS, pN, sA, sB, sC]
 first | refine eP 11 hM ?_ | refine eS 11 hM ?_
 try simp only [pS, pN, sA, sB, sC]
 first | refine eL 12 hM ?_ | refine eM 12 hM ?_ | refine eS 12 hM ?_
 try simp only [pS, pN, sA, sB, sC]
 first | refine eP 13 hM ?_ | refine eS 13 hM ?_
 try simp only [pS, pN, sA, sB, sC]
 refine dP 14 hM ?_
 try simp only [pS, pN, sA, sB, sC]
 refine dP 15 hM ?_
 try simp only [pS, pN, sA, sB, sC]
 first | refine eP 16 hM ?_ | refine eS 16 hM ?_
 try simp only [pS, pN, sA, sB, sC]
 first | refine eP 17 hM ?_ | refine eS 17 hM ?_
 try simp only [pS, pN, sA, sB, sC]
 first | refine eP 18 hM ?_ | refine eS 18 hM ?_
 try simp only [pS, pN, sA, sB, sC]
 first | refine eL 19 hM ?_ (hv := row1 hpre.out rfl) | refine eS 19 hM ?_
 try simp only [pS, pN, sA, sB, sC]
 first | refine eP 20 hM ?_ | refine eS 20 hM ?_
 try simp only [pS, pN, sA, sB, sC]
 refine dP 21 hM ?_
 try simp only [pS, pN, sA, sB, sC]
 refine dP 22 hM ?_
 try simp only [pS, pN, sA, sB, sC]
 first | refine eP 23 hM ?_ | refine eS 23 hM ?_
 try simp only [pS, pN, sA, sB, sC]
 first | refine eP 24 hM ?_ | refine eS 24 hM ?_
 try simp only [pS, pN, sA, sB, sC]
 first | refine eP 25 hM ?_ | refine eS 25 hM ?_
 try simp only [pS, pN, sA, sB, sC]
 first | refine eM 26 hM ?_ (hC := part_row hpre.out (by ((repeat constructor) <;> fail))) | refine eS 26 hM ?_
 try simp only [pS, pN, sA, sB, sC]
 first | refine eP 27 hM ?_ | refine eS 27 hM ?_
 try simp only [pS, pN, sA, sB, sC]
 first | refine eL 28 hM ?_ | refine eM 28 hM ?_ | refine eS 28 hM ?_
 try simp only [pS, pN, sA, sB, sC]
 first | refine eP 29 (v := .bool false) hM ?_ (hv := by (intro W0; go_simp; (try rw [if_pos z6, if_pos z7]))) | refine eS 29 hM ?_
 try simp only [pS, pN, sA, sB, sC]
 refine dP 30 hM ?_
 try simp only [pS, pN, sA, sB, sC]
 refine tk_done (by kernel_rfl) ?_
 clear z5 z6 z7
 have z1' := hide (show x.k = 1 by simpa using z1)
 have z2' := hide (show y.k = 1 by simpa using z2)
 clear z1 z2
 go_upto_region 3 with (first | ((with_reducible refine lX ?_); first | refine aL hM rfl rfl ?_ | refine aM hM rfl rfl ?_) | ((with_reducible refine sX ?_); refine aS hM rfl rfl rfl ?_; clear hM; intro W hM) | ((with_reducible refine bX ?_); refine aB hM rfl rfl ?_; clear hM; intro g W hM) | ((with_reducible refine zX ?_); refine aN hM rfl rfl ?_; clear hM; intro g W hM))
 have hxn := hxn0.out
 go_upto_region 4 with (first | ((with_reducible refine lX ?_); refine mq_old hM rfl (by first | exact rfl | (go_simp; done)) rfl (agT rfl) (ent_leg hatx.out) (szT rfl) ?_) | ((with_reducible refine lX ?_); first | refine aL hM rfl rfl ?_ | refine aM hM rfl rfl ?_) | ((with_reducible refine sX ?_); refine aS hM rfl rfl rfl ?_; clear hM; intro W hM) | ((with_reducible refine bX ?_); refine aB hM rfl rfl ?_; clear hM; intro g W hM) | ((with_reducible refine zX ?_); refine aN hM rfl rfl ?_; clear hM; intro g W hM))
 try simp only [pS, pN, sA, sB, sC]
 clear hxn
 rcases hov : lx.ov with _ | _
 · have HT := hide (ht.out.trans (tr_by HNO.out hov))
   rw [hov] at hM
   clear HNO hov
   by_cases hty : lx.ty = 7 ∨ lx.ty = 8 ∨ lx.ty = 9 ∨ lx.ty = 10 ∨ lx.ty = 11 ∨ lx.ty = 12
   · have hn := hide (show t = none by rw [HT.out, if_pos hty])
     clear HT ht
     have hcs : (lx.ty == 9) = true ∨ ((lx.ty == 9) = false ∧ (lx.ty == 7) = true) ∨ ((lx.ty == 9) = false ∧ (lx.ty == 7) = false ∧ (lx.ty == 8) = true) ∨ ((lx.ty == 9) = false ∧ (lx.ty == 7) = false ∧ (lx.ty == 8) = false ∧ (lx.ty == 10) = true) ∨ ((lx.ty == 9) = false ∧ (lx.ty == 7) = false ∧ (lx.ty == 8) = false ∧ (lx.ty == 10) = false ∧ (lx.ty == 11) = true) ∨ ((lx.ty == 9) = false ∧ (lx.ty == 7) = false ∧ (lx.ty == 8) = false ∧ (lx.ty == 10) = false ∧ (lx.ty == 11) = false ∧ (lx.ty == 12) = true) := by
      rcases hty with h | h | h | h | h | h <;> rw [h] <;> decide
     clear hty
     rcases hcs with f9 | ⟨f9, f7⟩ | ⟨f9, f7, f8⟩ | ⟨f9, f7, f8, f10⟩ | ⟨f9, f7, f8, f10, f11⟩ | ⟨f9, f7, f8, f10, f11, f12⟩
     all_goals
      go_wp2_with (first | ((with_reducible refine lX ?_); first | refine aL hM rfl rfl ?_ | refine aM hM rfl rfl ?_) | ((with_reducible refine sX ?_); refine aS hM rfl rfl rfl ?_; clear hM; intro W hM) | ((with_reducible refine bX ?_); refine aB hM rfl rfl ?_; clear hM; intro g W hM) | ((with_reducible refine zX ?_); refine aN hM rfl rfl ?_; clear hM; intro g W hM))
      all_goals
       (go_ret; exact ⟨by rw [hn.out]; rfl, V, B, by rw [hn.out]; exact len_post hO.out, by rw [hn.out]; exact mem_tl (mem_tl (mem_tl (hM)))⟩)
   · have f9 : (lx.ty == 9) = false := by simp; omega
     have f7 : (lx.ty == 7) = false := by simp; omega
     have f8 : (lx.ty == 8) = false := by simp; omega
     have f10 : (lx.ty == 10) = false := by simp; omega
     have f11 : (lx.ty == 11) = false := by simp; omega
     have f12 : (lx.ty == 12) = false := by simp; omega
     obtain ⟨t2, ht0⟩ : ∃ t2, t2 = fbT rad d x y := ⟨_, rfl⟩
     have e2 : t = t2.map (fun d' => (d', y)) := by rw [HT.out, if_neg hty, ht0]
     have ht2 := hide ht0
     have he2 := hide e2
     clear HT ht hty ht0 e2
     go_upto_region 14 with (first | ((with_reducible refine lX ?_); first | refine aL hM rfl rfl ?_ | refine aM hM rfl rfl ?_) | ((with_reducible refine sX ?_); refine aS hM rfl rfl rfl ?_; clear hM; intro W hM) | ((with_reducible refine bX ?_); refine aB hM rfl rfl ?_; clear hM; intro g W hM) | ((with_reducible refine zX ?_); refine aN hM rfl rfl ?_; clear hM; intro g W hM))
     try simp only [pS, pN, sA, sB, sC]
     refine region_k [(gx, [.int .u8 x.k, .int .i64 x.ax, .int .i64 x.ay, .int .i64 x.bx, .int .i64 x.b_y, .int .i64 x.cx, .int .i64 x.cy, .int .i64 x.r, .int .i64 x.f, .int .i64 x.s, .int .i64 x.ci, .int .i64 x.co, .int .i64 x.len, .int .i64 x.n, .bool x.g], 77), (gT, pre ++ mid [.int .u8 y.k, .int .i64 y.ax, .int .i64 y.ay, .int .i64 y.bx, .int .i64 y.b_y, .int .i64 y.cx, .int .i64 y.cy, .int .i64 y.r, .int .i64 y.f, .int .i64 y.s, .int .i64 y.ci, .int .i64 y.co, .int .i64 y.len, .int .i64 y.n, .bool y.g] post, 77)] hM (by kernel_rfl) ?_; (clear hM; intro W hM)
     refine dP 0 hM ?_
     try simp only [pS, pN, sA, sB, sC]
     first | refine dL 1 hM ?_ | refine dM 1 hM ?_
     try simp only [pS, pN, sA, sB, sC]
     refine dP 2 hM ?_
     try simp only [pS, pN, sA, sB, sC]
     refine dP 3 hM ?_
     try simp only [pS, pN, sA, sB, sC]
     refine dM 4 hM ?_ (hC := part_row0 hpre.out (by ((repeat constructor) <;> fail)))
     try simp only [pS, pN, sA, sB, sC]
     refine dC 5 (fun K' hK' => ?_)
     go_wp2_with (first | (go_at_call 65; refine cUd hM (fun R' hM' => flyBy_d x y t2 ht2 hr hr8 (by omega) (hxl z1'.out) (by omega) (hyl z2'.out) hM' hO) ?_; clear hM hO; intro V1 B1 W1 hO1 hM; simp only [List.cons_append, List.nil_append] at hM))
     refine hK_out hK' hM ?_
     clear hK' K'
     try simp only [pS, pN, sA, sB, sC]
     refine dP 6 hM ?_
     try simp only [pS, pN, sA, sB, sC]
     refine tk_done (by kernel_rfl) ?_
     have e2 := he2.out
     subst e2
     clear he2
     go_wp2_with (first | ((with_reducible refine lX ?_); first | refine aL hM rfl rfl ?_ | refine aM hM rfl rfl ?_) | ((with_reducible refine sX ?_); refine aS hM rfl rfl rfl ?_; clear hM; intro W hM) | ((with_reducible refine bX ?_); refine aB hM rfl rfl ?_; clear hM; intro g W hM) | ((with_reducible refine zX ?_); refine aN hM rfl rfl ?_; clear hM; intro g W hM))
     all_goals
      (go_ret; exact ⟨by cases t2 <;> rfl, V1, B1, by cases t2 <;> exact hO1.out, by cases t2 <;> exact mem_tl (mem_tl (mem_tl hM))⟩)
 · have HT := hide (ht.out.trans (tr_over HNO.out hov))
   rw [hov] at hM
   clear HNO hov
   by_cases h4 : ly.ty = 4
   · have ht2 : Hid (t = foT rad d x y) := hide (by rw [HT.out, if_pos h4])
     have k4 : (ly.ty == 4) = true := by simpa using h4
     clear HT ht h4
     go_upto_region 5 with (first | ((with_reducible refine lX ?_); first | refine aL hM rfl rfl ?_ | refine aM hM rfl rfl ?_) | ((with_reducible refine sX ?_); refine aS hM rfl rfl rfl ?_; clear hM; intro W hM) | ((with_reducible refine bX ?_); refine aB hM rfl rfl ?_; clear hM; intro g W hM) | ((with_reducible refine zX ?_); refine aN hM rfl rfl ?_; clear hM; intro g W hM))
     try simp only [pS, pN, sA, sB, sC]
     refine region_k [(gx, [.int .u8 x.k, .int .i64 x.ax, .int .i64 x.ay, .int .i64 x.bx, .int .i64 x.b_y, .int .i64 x.cx, .int .i64 x.cy, .int .i64 x.r, .int .i64 x.f, .int .i64 x.s, .int .i64 x.ci, .int .i64 x.co, .int .i64 x.len, .int .i64 x.n, .bool x.g], 77), (gp, [.string pa, .string pb, .slice (some ⟨b0, o0, none⟩) n0 cap, .int .i64 act], 24)] hM (by kernel_rfl) ?_; (clear hM; intro W hM)
     refine dP 0 hM ?_
     try simp only [pS, pN, sA, sB, sC]
     first | refine dL 1 hM ?_ | refine dM 1 hM ?_
     try simp only [pS, pN, sA, sB, sC]
     refine dP 2 hM ?_
     try simp only [pS, pN, sA, sB, sC]
     refine dP 3 hM ?_
     try simp only [pS, pN, sA, sB, sC]
     refine dP 4 hM ?_
     try simp only [pS, pN, sA, sB, sC]
     refine dC 5 (fun K' hK' => ?_)
     refine oL hM ?_ (hv := row1 hpre.out rfl)
     refine hK_out hK' hM ?_
     clear hK' K'
     try simp only [pS, pN, sA, sB, sC]
     refine dC 6 (fun K' hK' => ?_)
     have hyn := hyn0.out
     go_wp2_with fail
     clear hyn
     refine hK_out hK' hM ?_
     clear hK' K'
     try simp only [pS, pN, sA, sB, sC]
     refine dP 7 hM ?_
     try simp only [pS, pN, sA, sB, sC]
     refine dP 8 hM ?_
     try simp only [pS, pN, sA, sB, sC]
     refine dC 9 (fun K' hK' => ?_)
     refine oO hM (ent_ty haty.out) ?_
     refine hK_out hK' hM ?_
     clear hK' K'
     try simp only [pS, pN, sA, sB, sC]
     refine dP 10 hM ?_
     try simp only [pS, pN, sA, sB, sC]
     refine dP 11 hM ?_
     try simp only [pS, pN, sA, sB, sC]
     first | refine eP 12 hM ?_ | refine eS 12 hM ?_
     try simp only [pS, pN, sA, sB, sC]
     first | refine eL 13 hM ?_ | refine eM 13 hM ?_ | refine eS 13 hM ?_
     try simp only [pS, pN, sA, sB, sC]
     first | refine eP 14 hM ?_ | refine eS 14 hM ?_
     try simp only [pS, pN, sA, sB, sC]
     first
      | refine eSC 15 hM ?_
      | (refine eC 15 (fun K' hK' => ?_)
         go_wp2_with (first | (go_at_call 64; refine cT hM (fun R' hM' => flyOver_d x y t ht2 hr hr8 hx hy hpre hM' hO) ?_; clear hM hO; intro V1 B1 W1 hO1 hM; simp only [List.cons_append, List.nil_append] at hM))
         refine hK_out hK' hM ?_
         clear hK' K'
         try simp only [pS, pN, sA, sB, sC])
     refine dP 16 hM ?_
     try simp only [pS, pN, sA, sB, sC]
     refine dP 17 hM ?_
     try simp only [pS, pN, sA, sB, sC]
     refine tk_done (by kernel_rfl) ?_
     go_wp2_with (first | ((with_reducible refine lX ?_); first | refine aL hM rfl rfl ?_ | refine aM hM rfl rfl ?_) | ((with_reducible refine sX ?_); refine aS hM rfl rfl rfl ?_; clear hM; intro W hM) | ((with_reducible refine bX ?_); refine aB hM rfl rfl ?_; clear hM; intro g W hM) | ((with_reducible refine zX ?_); refine aN hM rfl rfl ?_; clear hM; intro g W hM))
     all_goals
      (go_ret; exact ⟨rfl, V1, B1, ⟨hO1.out.1, Nat.le_trans hO1.out.2 (by omega)⟩, mem_tl (mem_tl (mem_tl hM))⟩)
   · have hn := hide (show t = none by rw [HT.out, if_neg h4])
     have k4 : (ly.ty == 4) = false := by simpa using h4
     clear HT ht h4
     go_upto_region 5 with (first | ((with_reducible refine lX ?_); first | refine aL hM rfl rfl ?_ | refine aM hM rfl rfl ?_) | ((with_reducible refine sX ?_); refine aS hM rfl rfl rfl ?_; clear hM; intro W hM) | ((with_reducible refine bX ?_); refine aB hM rfl rfl ?_; clear hM; intro g W hM) | ((with_reducible refine zX ?_); refine aN hM rfl rfl ?_; clear hM; intro g W hM))
     try simp only [pS, pN, sA, sB, sC]
     refine region_k [(gx, [.int .u8 x.k, .int .i64 x.ax, .int .i64 x.ay, .int .i64 x.bx, .int .i64 x.b_y, .int .i64 x.cx, .int .i64 x.cy, .int .i64 x.r, .int .i64 x.f, .int .i64 x.s, .int .i64 x.ci, .int .i64 x.co, .int .i64 x.len, .int .i64 x.n, .bool x.g], 77), (gp, [.string pa, .string pb, .slice (some ⟨b0, o0, none⟩) n0 cap, .int .i64 act], 24)] hM (by kernel_rfl) ?_; (clear hM; intro W hM)
     refine dP 0 hM ?_
     try simp only [pS, pN, sA, sB, sC]
     first | refine dL 1 hM ?_ | refine dM 1 hM ?_
     try simp only [pS, pN, sA, sB, sC]
     refine dP 2 hM ?_
     try simp only [pS, pN, sA, sB, sC]
     refine dP 3 hM ?_
     try simp only [pS, pN, sA, sB, sC]
     refine dP 4 hM ?_
     try simp only [pS, pN, sA, sB, sC]
     refine dC 5 (fun K' hK' => ?_)
     refine oL hM ?_ (hv := row1 hpre.out rfl)
     refine hK_out hK' hM ?_
     clear hK' K'
     try simp only [pS, pN, sA, sB, sC]
     refine dC 6 (fun K' hK' => ?_)
     have hyn := hyn0.out
     go_wp2_with fail
     clear hyn
     refine hK_out hK' hM ?_
     clear hK' K'
     try simp only [pS, pN, sA, sB, sC]
     refine dP 7 hM ?_
     try simp only [pS, pN, sA, sB, sC]
     refine dP 8 hM ?_
     try simp only [pS, pN, sA, sB, sC]
     refine dC 9 (fun K' hK' => ?_)
     refine oO hM (ent_ty haty.out) ?_
     refine hK_out hK' hM ?_
     clear hK' K'
     try simp only [pS, pN, sA, sB, sC]
     refine dP 10 hM ?_
     try simp only [pS, pN, sA, sB, sC]
     refine dP 11 hM ?_
     try simp only [pS, pN, sA, sB, sC]
     first | refine eP 12 hM ?_ | refine eS 12 hM ?_
     try simp only [pS, pN, sA, sB, sC]
     first | refine eL 13 hM ?_ | refine eM 13 hM ?_ | refine eS 13 hM ?_
     try simp only [pS, pN, sA, sB, sC]
     first | refine eP 14 hM ?_ | refine eS 14 hM ?_
     try simp only [pS, pN, sA, sB, sC]
     first
      | refine eSC 15 hM ?_
      | (refine eC 15 (fun K' hK' => ?_)
         go_wp2_with fail
         refine hK_out hK' hM ?_
         clear hK' K'
         try simp only [pS, pN, sA, sB, sC])
     refine dP 16 hM ?_
     try simp only [pS, pN, sA, sB, sC]
     refine dP 17 hM ?_
     try simp only [pS, pN, sA, sB, sC]
     refine tk_done (by kernel_rfl) ?_
     go_wp2_with (first | ((with_reducible refine lX ?_); first | refine aL hM rfl rfl ?_ | refine aM hM rfl rfl ?_) | ((with_reducible refine sX ?_); refine aS hM rfl rfl rfl ?_; clear hM; intro W hM) | ((with_reducible refine bX ?_); refine aB hM rfl rfl ?_; clear hM; intro g W hM) | ((with_reducible refine zX ?_); refine aN hM rfl rfl ?_; clear hM; intro g W hM))
     all_goals
      (go_ret; exact ⟨by rw [hn.out]; rfl, V, B, by rw [hn.out]; exact len_post hO.out, by rw [hn.out]; exact mem_tl (mem_tl (mem_tl (hM)))⟩)
end Go.Proofs.YtbhpklpkcgcmfaaGreatDoor
