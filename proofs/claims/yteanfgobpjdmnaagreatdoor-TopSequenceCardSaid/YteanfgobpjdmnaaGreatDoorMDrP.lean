/-
  Holding patterns and procedure turns drawn, by boxes.
-/
import Derived.Test.YteanfgobpjdmnaaGreatDoorMDrM
import Derived.Test.YteanfgobpjdmnaaGreatDoorMHoldC
namespace Go.Proofs.YteanfgobpjdmnaaGreatDoor
open Go.RowKit
set_option linter.unusedVariables false
set_option linter.unusedSimpArgs false
theorem KV (n : Int) : ∀ (l : List El) (d : Dw) (x : El), jT n d (l ++ [x]) = if 1 ≤ x.L then ur (jT n d l) { x with n := n } else jT n d l
 | [], d, x => by unfold jT; rfl
 | y :: l, d, x => by
   rw [List.cons_append]
   unfold jT
   exact KV n l _ x
theorem wD {l : List El} {k : Nat} {x : El} (h : l[k]? = some x) : l.take (k + 1) = l.take k ++ [x] := by
 rw [List.take_add_one, h]
 rfl
theorem kA {w W0 W' : World} {L Br : List zz} (h : qQ w W0 L) (k : qQ W0 W' Br) : qQ w W' (Br ++ L) := by
 have h2 := qp h k.below
 refine ⟨h2.below, fun g cs t hm => ?_, ?_⟩
 · rcases List.mem_append.1 hm with hm | hm
   · exact ⟨Nat.le_trans h.below.size (k.rows g cs t hm).1, (k.rows g cs t hm).2⟩
   · exact h2.rows g cs t hm
 · rw [List.map_append, List.nodup_append]
   refine ⟨k.nodup, h.nodup, fun b hb a ha he => ?_⟩
   obtain ⟨⟨a1, a2, a3⟩, hx, e1⟩ := List.mem_map.1 ha
   obtain ⟨⟨b1, b2, b3⟩, hy, e2⟩ := List.mem_map.1 hb
   have := h.lt hx
   have := (k.rows b1 b2 b3 hy).1
   simp only at e1 e2
   omega
theorem Gr {w W : World} {Br L : List zz} (h : qQ w W (Br ++ L)) : qQ w W L :=
 ⟨h.below, fun g cs t hm => h.rows g cs t (List.mem_append_right _ hm), by
  have := h.nodup
  rw [List.map_append, List.nodup_append] at this
  exact this.2.1⟩
theorem cH {fx fy crs tn dst rad : Int} (h : (vB fx fy crs tn dst rad).1 ≠ 0) : (vB fx fy crs tn dst rad).2 = [] := by
 unfold vB at h ⊢
 split
 · rfl
 · rename_i h1
   rw [if_neg h1] at h
   split
   · rfl
   · rename_i h2
     rw [if_neg h2] at h
     dsimp only at h ⊢
     split
     · rename_i h3
       rw [if_pos h3] at h
       exact absurd rfl h
     · rfl
theorem cI {fx fy crs tn dst rad : Int} (h : (vB fx fy crs tn dst rad).1 = 0) : (vB fx fy crs tn dst rad).2.length = 5 := by
 unfold vB at h ⊢
 split
 · rename_i h1; rw [if_pos h1] at h; cases h
 · rename_i h1
   rw [if_neg h1] at h
   split
   · rename_i h2; rw [if_pos h2] at h; cases h
   · rename_i h2
     rw [if_neg h2] at h
     dsimp only at h ⊢
     split
     · rfl
     · rename_i h3
       rw [if_neg h3] at h
       cases h
theorem uY {V : Value} {l : List El} {B : List zz} {m : Nat} (h : bG V l B m) (h0 : 0 < l.length) : ∃ g cap cur, V = .slice (some ⟨g, 0, none⟩) l.length cap ∧ B = [(g, cur, 49)] ∧ cur.take (l.length * 13) = l.flatMap El.cells := by
 obtain ⟨h1, _⟩ := h
 generalize hn : l.length = n at *
 generalize l.flatMap El.cells = xs at *
 cases h1 with
 | nil => omega
 | row a b c e g => exact ⟨_, _, _, rfl, rfl, e⟩
set_option maxRecDepth 100000 in
set_option maxHeartbeats 8000000 in
theorem KW {w0 w : World} {gd : Nat} {rad : Int} {V : Value} {d : Dw} {B R : List zz} {m : Nat} (lx : En) (x : Tk) (hr : 1 ≤ rad) (hr8 : rad ≤ 8000000) (htn : lx.tn = 1 ∨ lx.tn = 2) (hci : qH x.ci) (hcr : qH lx.crs) (hM : qQ w0 w ((gd, uq V d rad, 66) :: (B ++ R))) (hO : Hid (bG V d.els B m)) (hm : m ≤ 80000 := by omega) :
 Calls Tryz.prog 13 #[.pointer (some ⟨gd, 0, none⟩), .agg #[.int .u8 lx.ty, .string lx.fx, .string lx.ct, .int .u8 lx.tn, .bool lx.ov, .int .i64 lx.crs, .int .i64 lx.dst, .int .i64 lx.rad, .int .i64 lx.tht, .int .i64 lx.lo, .int .i64 lx.hi, .int .i64 lx.spd, .int .i64 lx.rnp], .agg #[.int .u8 x.k, .int .i64 x.ax, .int .i64 x.ay, .int .i64 x.bx, .int .i64 x.b_y, .int .i64 x.cx, .int .i64 x.cy, .int .i64 x.r, .int .i64 x.f, .int .i64 x.s, .int .i64 x.ci, .int .i64 x.co, .int .i64 x.len, .int .i64 x.n, .bool x.g]] w fun e w' => e = .returned (.int .i64 (kY rad d lx x).1) ∧ ∃ V' B', bG V' (kY rad d lx x).2.els B' (m + 7) ∧ qQ w0 w' ((gd, uq V' (kY rad d lx x).2 rad, 66) :: (B' ++ R)) := by
 go_enter Tryz.func13, Tryz.ntmps13
 go_upto_region 0 with fail
 try simp only [pS, pN, sA, sB, sC]
 go_cut [5, 4] (fun s5 s4 wx => ∃ gx gl : Nat, s5 = .pointer (some ⟨gx, 0, none⟩) ∧ s4 = .pointer (some ⟨gl, 0, none⟩) ∧ qQ w0 wx ((gx, [.int .u8 x.k, .int .i64 x.ax, .int .i64 x.ay, .int .i64 x.bx, .int .i64 x.b_y, .int .i64 x.cx, .int .i64 x.cy, .int .i64 x.r, .int .i64 x.f, .int .i64 x.s, .int .i64 x.ci, .int .i64 x.co, .int .i64 x.len, .int .i64 x.n, .bool x.g], 69) :: (gl, [.int .u8 lx.ty, .string lx.fx, .string lx.ct, .int .u8 lx.tn, .bool lx.ov, .int .i64 lx.crs, .int .i64 lx.dst, .int .i64 lx.rad, .int .i64 lx.tht, .int .i64 lx.lo, .int .i64 lx.hi, .int .i64 lx.spd, .int .i64 lx.rnp], 36) :: ((gd, uq V d rad, 66) :: (B ++ R))))
 case first =>
  go_wp2_with (first | ((with_reducible refine lX ?_); refine mL ?_) | ((with_reducible refine sX ?_); refine mS ?_; clear hM; intro W hM) | ((with_reducible refine bX ?_); refine mB ?_; clear hM; intro g W hM) | ((with_reducible refine zX ?_); refine mB ?_; clear hM; intro g W hM))
  all_goals
   go_meet
   exact ⟨_, _, rfl, rfl, hM⟩
 case rest =>
 clear hM
 obtain ⟨gx, gl, rfl, rfl, hM⟩ := hcut
 go_upto_if 17 with (first | ((with_reducible refine lX ?_); refine mL ?_) | ((with_reducible refine sX ?_); refine mS ?_; clear hM; intro W hM) | ((with_reducible refine zX ?_); refine mB ?_; clear hM; intro g W hM))
 try simp only [pS, pN, sA, sB, sC]
 go_cut [7] (fun s7 wx => ∃ ga cap cur es, s7 = .slice (some ⟨ga, 0, none⟩) es.length cap ∧ Hid (cur.take (es.length * 13) = es.flatMap El.cells) ∧ es.length ≤ 7 ∧ Hid (kY rad d lx x = (0, jT x.n d es)) ∧ qQ w0 wx ((ga, cur, 49) :: ((gx, [.int .u8 x.k, .int .i64 x.ax, .int .i64 x.ay, .int .i64 x.bx, .int .i64 x.b_y, .int .i64 x.cx, .int .i64 x.cy, .int .i64 x.r, .int .i64 x.f, .int .i64 x.s, .int .i64 x.ci, .int .i64 x.co, .int .i64 x.len, .int .i64 x.n, .bool x.g], 69) :: (gl, [.int .u8 lx.ty, .string lx.fx, .string lx.ct, .int .u8 lx.tn, .bool lx.ov, .int .i64 lx.crs, .int .i64 lx.dst, .int .i64 lx.rad, .int .i64 lx.tht, .int .i64 lx.lo, .int .i64 lx.hi, .int .i64 lx.spd, .int .i64 lx.rnp], 36) :: ((gd, uq V d rad, 66) :: (B ++ R)))))
 case first =>
  by_cases h17 : lx.ty = 17
  · have k17 : (lx.ty == 17) = true := by simpa using h17
    have HP0 := hide (show kY rad d lx x = ((vB x.ax x.ay lx.crs lx.tn lx.dst rad).1, jT x.n d (vB x.ax x.ay lx.crs lx.tn lx.dst rad).2) by unfold kY; rw [if_pos h17])
    clear h17
    go_upto_region 3 with (first | ((with_reducible refine lX ?_); refine mL ?_) | ((with_reducible refine sX ?_); refine mS ?_; clear hM; intro W hM) | ((with_reducible refine zX ?_); refine mB ?_; clear hM; intro g W hM))
    try simp only [pS, pN, sA, sB, sC]
    refine qW [(gx, [.int .u8 x.k, .int .i64 x.ax, .int .i64 x.ay, .int .i64 x.bx, .int .i64 x.b_y, .int .i64 x.cx, .int .i64 x.cy, .int .i64 x.r, .int .i64 x.f, .int .i64 x.s, .int .i64 x.ci, .int .i64 x.co, .int .i64 x.len, .int .i64 x.n, .bool x.g], 69), (gl, [.int .u8 lx.ty, .string lx.fx, .string lx.ct, .int .u8 lx.tn, .bool lx.ov, .int .i64 lx.crs, .int .i64 lx.dst, .int .i64 lx.rad, .int .i64 lx.tht, .int .i64 lx.lo, .int .i64 lx.hi, .int .i64 lx.spd, .int .i64 lx.rnp], 36)] hM (by kernel_rfl) ?_; (clear hM; intro W hM)
    refine rD 0 ?_
    refine rD 1 ?_
    refine rD 2 ?_
    refine rD 3 ?_
    refine rD 4 ?_
    refine rD 5 ?_
    refine rD 6 ?_
    refine rD 7 ?_
    refine rD 8 ?_
    refine rD 9 ?_
    refine rD 10 ?_
    refine dC 11 (fun K' hK' => ?_)
    first | refine oL hM ?_ | refine oM hM ?_
    refine rK hK' hM ?_; clear hK' K'
    refine dC 12 (fun K' hK' => ?_)
    go_wp2_with (first | (go_at_call 34; refine (Cs x.ax x.ay lx.crs lx.tn lx.dst rad _).mono ?_; rintro e0 W1 ⟨Vr, Br, rfl, hOr, hMr⟩; replace hM := kA hM hMr; clear hMr))
    refine rK hK' hM ?_; clear hK' K'
    refine rD 13 ?_
    refine rD 14 ?_
    refine rD 15 ?_
    refine rD 16 ?_
    refine rD 17 ?_
    refine qE (by kernel_rfl) ?_
    obtain ⟨E0, hE0⟩ : ∃ E0, (vB x.ax x.ay lx.crs lx.tn lx.dst rad).1 = E0 := ⟨_, rfl⟩
    rw [hE0]
    by_cases h0 : E0 = 0
    rotate_left 1
    · have HP := hide (show kY rad d lx x = (E0, d) by rw [HP0.out, cH (by rw [hE0]; exact h0), hE0]; rfl)
      have h1 : (E0 != 0) = true := by simpa using h0
      clear h0 hE0 HP0
      go_wp2_with (first | ((with_reducible refine lX ?_); refine mL ?_) | ((with_reducible refine sX ?_); refine mS ?_; clear hM; intro W hM) | ((with_reducible refine zX ?_); refine mB ?_; clear hM; intro g W hM))
      all_goals
       (go_ret; exact ⟨by rw [HP.out]; rfl, V, B, by rw [HP.out]; exact ⟨hO.out.1, Nat.le_trans hO.out.2 (by omega)⟩, by rw [HP.out]; exact qz (qz (Gr hM))⟩)
    subst h0
    have h5 := cI hE0
    obtain ⟨ga, cap, cur, rfl, rfl, hcur⟩ := uY hOr (by rw [h5]; decide)
    have HP := hide (show kY rad d lx x = (0, jT x.n d (vB x.ax x.ay lx.crs lx.tn lx.dst rad).2) by rw [HP0.out, hE0])
    have hcur := hide hcur
    clear hOr HP0 hE0
    generalize (vB x.ax x.ay lx.crs lx.tn lx.dst rad).2 = es at *
    simp only [List.cons_append, List.nil_append] at hM
    go_wp2_with (first | ((with_reducible refine lX ?_); refine mL ?_) | ((with_reducible refine sX ?_); refine mS ?_; clear hM; intro W hM) | ((with_reducible refine zX ?_); refine mB ?_; clear hM; intro g W hM))
    all_goals
     go_meet
     exact ⟨ga, cap, cur, es, rfl, hcur, by omega, HP, hM⟩
  · have k17 : (lx.ty == 17) = false := by simpa using h17
    have EN := fun W => WP x.ci lx.crs lx.tn htn hci hcr W
    by_cases hE : vY x.ax x.ay lx.crs lx.tn lx.dst rad = 0
    rotate_left 1
    · have HP := hide (show kY rad d lx x = (vY x.ax x.ay lx.crs lx.tn lx.dst rad, d) by unfold kY; rw [if_neg h17, if_pos hE])
      obtain ⟨E0, hE0⟩ : ∃ E0, vY x.ax x.ay lx.crs lx.tn lx.dst rad = E0 := ⟨_, rfl⟩
      rw [hE0] at hE HP
      have EB := fun W => cS (ZK (Zs x.ci lx.crs lx.tn)) x.ax x.ay lx.crs lx.tn lx.dst rad E0 hE0 hE W
      have h1 : (E0 != 0) = true := by simpa using hE
      clear h17 hE hE0
      go_upto_region 7 with (first | ((with_reducible refine lX ?_); refine mL ?_) | ((with_reducible refine sX ?_); refine mS ?_; clear hM; intro W hM) | ((with_reducible refine zX ?_); refine mB ?_; clear hM; intro g W hM))
      try simp only [pS, pN, sA, sB, sC]
      refine qW [(gx, [.int .u8 x.k, .int .i64 x.ax, .int .i64 x.ay, .int .i64 x.bx, .int .i64 x.b_y, .int .i64 x.cx, .int .i64 x.cy, .int .i64 x.r, .int .i64 x.f, .int .i64 x.s, .int .i64 x.ci, .int .i64 x.co, .int .i64 x.len, .int .i64 x.n, .bool x.g], 69), (gl, [.int .u8 lx.ty, .string lx.fx, .string lx.ct, .int .u8 lx.tn, .bool lx.ov, .int .i64 lx.crs, .int .i64 lx.dst, .int .i64 lx.rad, .int .i64 lx.tht, .int .i64 lx.lo, .int .i64 lx.hi, .int .i64 lx.spd, .int .i64 lx.rnp], 36)] hM (by kernel_rfl) ?_; (clear hM; intro W hM)
      refine rD 0 ?_
      refine rD 1 ?_
      refine rD 2 ?_
      refine rD 3 ?_
      refine rD 4 ?_
      refine rD 5 ?_
      refine rD 7 ?_
      refine rD 8 ?_
      refine rD 9 ?_
      refine rD 10 ?_
      refine rD 11 ?_
      refine rD 12 ?_
      refine rD 13 ?_
      refine rD 14 ?_
      refine rD 15 ?_
      refine rD 16 ?_
      refine rD 17 ?_
      refine dT 6 18 (fun K' hK' => ?_) (fun K' hK' => ?_)
      ·
       go_wp2_with (first | (go_at_call 36; (with_reducible refine (EN _).mono ?_); rintro e W1 ⟨rfl, rfl⟩) | (go_at_call 35; (with_reducible refine cb hM (EB _) ?_); clear hM; intro W1 hM))
       refine rK hK' hM ?_; clear hK' K'
       refine dC 18 (fun K' hK' => ?_)
       first | refine oL hM ?_ | refine oM hM ?_
       refine rK hK' hM ?_; clear hK' K'
       refine dC 19 (fun K' hK' => ?_)
       go_wp2_with (first | (go_at_call 36; (with_reducible refine (EN _).mono ?_); rintro e W1 ⟨rfl, rfl⟩) | (go_at_call 35; (with_reducible refine cb hM (EB _) ?_); clear hM; intro W1 hM))
       refine rK hK' hM ?_; clear hK' K'
       refine rD 20 ?_
       refine rD 21 ?_
       refine rD 22 ?_
       refine rD 23 ?_
       refine rD 24 ?_
       refine qE (by kernel_rfl) ?_
       go_wp2_with (first | ((with_reducible refine lX ?_); refine mL ?_) | ((with_reducible refine sX ?_); refine mS ?_; clear hM; intro W hM) | ((with_reducible refine zX ?_); refine mB ?_; clear hM; intro g W hM))
       all_goals
        (go_ret; exact ⟨by rw [HP.out]; rfl, V, B, by rw [HP.out]; exact ⟨hO.out.1, Nat.le_trans hO.out.2 (by omega)⟩, by rw [HP.out]; exact qz (qz hM)⟩)
      ·
       first | refine oL hM ?_ | refine oM hM ?_
       refine rK hK' hM ?_; clear hK' K'
       refine dC 6 (fun K' hK' => ?_)
       go_wp2_with (first | (go_at_call 36; (with_reducible refine (EN _).mono ?_); rintro e W1 ⟨rfl, rfl⟩) | (go_at_call 35; (with_reducible refine cb hM (EB _) ?_); clear hM; intro W1 hM))
       refine rK hK' hM ?_; clear hK' K'
       refine dC 19 (fun K' hK' => ?_)
       go_wp2_with (first | (go_at_call 36; (with_reducible refine (EN _).mono ?_); rintro e W1 ⟨rfl, rfl⟩) | (go_at_call 35; (with_reducible refine cb hM (EB _) ?_); clear hM; intro W1 hM))
       refine rK hK' hM ?_; clear hK' K'
       refine rD 20 ?_
       refine rD 21 ?_
       refine rD 22 ?_
       refine rD 23 ?_
       refine rD 24 ?_
       refine qE (by kernel_rfl) ?_
       go_wp2_with (first | ((with_reducible refine lX ?_); refine mL ?_) | ((with_reducible refine sX ?_); refine mS ?_; clear hM; intro W hM) | ((with_reducible refine zX ?_); refine mB ?_; clear hM; intro g W hM))
       all_goals
        (go_ret; exact ⟨by rw [HP.out]; rfl, V, B, by rw [HP.out]; exact ⟨hO.out.1, Nat.le_trans hO.out.2 (by omega)⟩, by rw [HP.out]; exact qz (qz hM)⟩)
    have HP := hide (show kY rad d lx x = (0, jT x.n d (tO (Zs x.ci lx.crs lx.tn) x.ax x.ay lx.crs lx.tn lx.dst rad ++ tN x.ax x.ay lx.crs lx.tn lx.dst rad)) by unfold kY; rw [if_neg h17, if_neg (by rw [hE]; simp)])
    have EO := fun W => af (Zs x.ci lx.crs lx.tn) x.ax x.ay lx.crs lx.tn lx.dst rad hE W
    have PO := fun W => wH x.ax x.ay lx.crs lx.tn lx.dst rad hE W
    clear h17 hE
    go_upto_region 7 with (first | ((with_reducible refine lX ?_); refine mL ?_) | ((with_reducible refine sX ?_); refine mS ?_; clear hM; intro W hM) | ((with_reducible refine zX ?_); refine mB ?_; clear hM; intro g W hM))
    try simp only [pS, pN, sA, sB, sC]
    refine qW [(gx, [.int .u8 x.k, .int .i64 x.ax, .int .i64 x.ay, .int .i64 x.bx, .int .i64 x.b_y, .int .i64 x.cx, .int .i64 x.cy, .int .i64 x.r, .int .i64 x.f, .int .i64 x.s, .int .i64 x.ci, .int .i64 x.co, .int .i64 x.len, .int .i64 x.n, .bool x.g], 69), (gl, [.int .u8 lx.ty, .string lx.fx, .string lx.ct, .int .u8 lx.tn, .bool lx.ov, .int .i64 lx.crs, .int .i64 lx.dst, .int .i64 lx.rad, .int .i64 lx.tht, .int .i64 lx.lo, .int .i64 lx.hi, .int .i64 lx.spd, .int .i64 lx.rnp], 36)] hM (by kernel_rfl) ?_; (clear hM; intro W hM)
    refine rD 0 ?_
    refine rD 1 ?_
    refine rD 2 ?_
    refine rD 3 ?_
    refine rD 4 ?_
    refine rD 5 ?_
    refine rD 7 ?_
    refine rD 8 ?_
    refine rD 9 ?_
    refine rD 10 ?_
    refine rD 11 ?_
    refine rD 12 ?_
    refine rD 13 ?_
    refine rD 14 ?_
    refine rD 15 ?_
    refine rD 16 ?_
    refine rD 17 ?_
    refine dT 6 18 (fun K' hK' => ?_) (fun K' hK' => ?_)
    ·
     go_wp2_with (first | (go_at_call 36; (with_reducible refine (EN _).mono ?_); rintro e W1 ⟨rfl, rfl⟩) | (go_at_call 35; refine (EO _).mono ?_; rintro e0 W1 ⟨Ve, Be, rfl, hOe, hMe⟩; replace hM := kA hM hMe; clear hMe))
     refine rK hK' hM ?_; clear hK' K'
     refine dC 18 (fun K' hK' => ?_)
     first | refine oL hM ?_ | refine oM hM ?_
     refine rK hK' hM ?_; clear hK' K'
     refine dC 19 (fun K' hK' => ?_)
     go_wp2_with (first | (go_at_call 36; (with_reducible refine (EN _).mono ?_); rintro e W1 ⟨rfl, rfl⟩) | (go_at_call 35; refine (EO _).mono ?_; rintro e0 W1 ⟨Ve, Be, rfl, hOe, hMe⟩; replace hM := kA hM hMe; clear hMe))
     refine rK hK' hM ?_; clear hK' K'
     refine rD 20 ?_
     refine rD 21 ?_
     refine rD 22 ?_
     refine rD 23 ?_
     refine rD 24 ?_
     refine qE (by kernel_rfl) ?_
     go_upto_region 10 with (first | ((with_reducible refine lX ?_); refine mL ?_) | ((with_reducible refine sX ?_); refine mS ?_; clear hM; intro W hM) | ((with_reducible refine zX ?_); refine mB ?_; clear hM; intro g W hM))
     try simp only [pS, pN, sA, sB, sC]
     refine qW [(gx, [.int .u8 x.k, .int .i64 x.ax, .int .i64 x.ay, .int .i64 x.bx, .int .i64 x.b_y, .int .i64 x.cx, .int .i64 x.cy, .int .i64 x.r, .int .i64 x.f, .int .i64 x.s, .int .i64 x.ci, .int .i64 x.co, .int .i64 x.len, .int .i64 x.n, .bool x.g], 69), (gl, [.int .u8 lx.ty, .string lx.fx, .string lx.ct, .int .u8 lx.tn, .bool lx.ov, .int .i64 lx.crs, .int .i64 lx.dst, .int .i64 lx.rad, .int .i64 lx.tht, .int .i64 lx.lo, .int .i64 lx.hi, .int .i64 lx.spd, .int .i64 lx.rnp], 36)] hM (by kernel_rfl) ?_; (clear hM; intro W hM)
     refine rD 0 ?_
     refine rD 1 ?_
     refine rD 2 ?_
     refine rD 3 ?_
     refine rD 4 ?_
     refine rD 5 ?_
     refine rD 6 ?_
     refine rD 7 ?_
     refine rD 8 ?_
     refine rD 9 ?_
     refine rD 10 ?_
     refine dC 11 (fun K' hK' => ?_)
     first | refine oL hM ?_ | refine oM hM ?_
     refine rK hK' hM ?_; clear hK' K'
     refine dC 12 (fun K' hK' => ?_)
     go_wp2_with (first | (go_at_call 37; refine (PO _).mono ?_; rintro e0 W1 ⟨gP, rfl, hMp⟩; replace hM := kA hM hMp; clear hMp; simp only [List.cons_append, List.nil_append] at hM))
     refine rK hK' hM ?_; clear hK' K'
     refine rD 13 ?_
     refine rD 14 ?_
     refine rD 15 ?_
     refine rD 16 ?_
     refine rD 17 ?_
     refine qE (by kernel_rfl) ?_
     have hOe2 : Hid (bG Ve (tO (Zs x.ci lx.crs lx.tn) x.ax x.ay lx.crs lx.tn lx.dst rad) Be 3) := hide hOe
     clear hOe
     go_wp2_with (first | ((with_reducible refine wV ?_); refine wpList_plain rfl fun _ hK => ?_; refine Rv (k := 4) (m := 3) (tN x.ax x.ay lx.crs lx.tn lx.dst rad) hM hOe2 (by decide) rfl (by decide) (by decide) ?_; clear hM; intro ga capA BA W1 HOA hM; simp only [List.cons_append, List.nil_append] at hM; refine hK _ _ ?_) | ((with_reducible refine lX ?_); refine mL ?_) | ((with_reducible refine sX ?_); refine mS ?_; clear hM; intro W hM) | ((with_reducible refine zX ?_); refine mB ?_; clear hM; intro g W hM))
     all_goals
      obtain ⟨gb2, cap2, cur2, e1, rfl, e2⟩ := uY HOA.out (by rw [List.length_append]; have : (tN x.ax x.ay lx.crs lx.tn lx.dst rad).length = 4 := rfl; omega)
      injection e1 with e1 e3 e4
      injection e1 with e1
      injection e1 with e1
      subst e1 e4
      have l7 := HOA.out.2
      go_meet
      exact ⟨_, _, cur2, _, by rw [← e3], hide e2, by omega, HP, qz hM⟩
    ·
     first | refine oL hM ?_ | refine oM hM ?_
     refine rK hK' hM ?_; clear hK' K'
     refine dC 6 (fun K' hK' => ?_)
     go_wp2_with (first | (go_at_call 36; (with_reducible refine (EN _).mono ?_); rintro e W1 ⟨rfl, rfl⟩) | (go_at_call 35; refine (EO _).mono ?_; rintro e0 W1 ⟨Ve, Be, rfl, hOe, hMe⟩; replace hM := kA hM hMe; clear hMe))
     refine rK hK' hM ?_; clear hK' K'
     refine dC 19 (fun K' hK' => ?_)
     go_wp2_with (first | (go_at_call 36; (with_reducible refine (EN _).mono ?_); rintro e W1 ⟨rfl, rfl⟩) | (go_at_call 35; refine (EO _).mono ?_; rintro e0 W1 ⟨Ve, Be, rfl, hOe, hMe⟩; replace hM := kA hM hMe; clear hMe))
     refine rK hK' hM ?_; clear hK' K'
     refine rD 20 ?_
     refine rD 21 ?_
     refine rD 22 ?_
     refine rD 23 ?_
     refine rD 24 ?_
     refine qE (by kernel_rfl) ?_
     go_upto_region 10 with (first | ((with_reducible refine lX ?_); refine mL ?_) | ((with_reducible refine sX ?_); refine mS ?_; clear hM; intro W hM) | ((with_reducible refine zX ?_); refine mB ?_; clear hM; intro g W hM))
     try simp only [pS, pN, sA, sB, sC]
     refine qW [(gx, [.int .u8 x.k, .int .i64 x.ax, .int .i64 x.ay, .int .i64 x.bx, .int .i64 x.b_y, .int .i64 x.cx, .int .i64 x.cy, .int .i64 x.r, .int .i64 x.f, .int .i64 x.s, .int .i64 x.ci, .int .i64 x.co, .int .i64 x.len, .int .i64 x.n, .bool x.g], 69), (gl, [.int .u8 lx.ty, .string lx.fx, .string lx.ct, .int .u8 lx.tn, .bool lx.ov, .int .i64 lx.crs, .int .i64 lx.dst, .int .i64 lx.rad, .int .i64 lx.tht, .int .i64 lx.lo, .int .i64 lx.hi, .int .i64 lx.spd, .int .i64 lx.rnp], 36)] hM (by kernel_rfl) ?_; (clear hM; intro W hM)
     refine rD 0 ?_
     refine rD 1 ?_
     refine rD 2 ?_
     refine rD 3 ?_
     refine rD 4 ?_
     refine rD 5 ?_
     refine rD 6 ?_
     refine rD 7 ?_
     refine rD 8 ?_
     refine rD 9 ?_
     refine rD 10 ?_
     refine dC 11 (fun K' hK' => ?_)
     first | refine oL hM ?_ | refine oM hM ?_
     refine rK hK' hM ?_; clear hK' K'
     refine dC 12 (fun K' hK' => ?_)
     go_wp2_with (first | (go_at_call 37; refine (PO _).mono ?_; rintro e0 W1 ⟨gP, rfl, hMp⟩; replace hM := kA hM hMp; clear hMp; simp only [List.cons_append, List.nil_append] at hM))
     refine rK hK' hM ?_; clear hK' K'
     refine rD 13 ?_
     refine rD 14 ?_
     refine rD 15 ?_
     refine rD 16 ?_
     refine rD 17 ?_
     refine qE (by kernel_rfl) ?_
     have hOe2 : Hid (bG Ve (tO (Zs x.ci lx.crs lx.tn) x.ax x.ay lx.crs lx.tn lx.dst rad) Be 3) := hide hOe
     clear hOe
     go_wp2_with (first | ((with_reducible refine wV ?_); refine wpList_plain rfl fun _ hK => ?_; refine Rv (k := 4) (m := 3) (tN x.ax x.ay lx.crs lx.tn lx.dst rad) hM hOe2 (by decide) rfl (by decide) (by decide) ?_; clear hM; intro ga capA BA W1 HOA hM; simp only [List.cons_append, List.nil_append] at hM; refine hK _ _ ?_) | ((with_reducible refine lX ?_); refine mL ?_) | ((with_reducible refine sX ?_); refine mS ?_; clear hM; intro W hM) | ((with_reducible refine zX ?_); refine mB ?_; clear hM; intro g W hM))
     all_goals
      obtain ⟨gb2, cap2, cur2, e1, rfl, e2⟩ := uY HOA.out (by rw [List.length_append]; have : (tN x.ax x.ay lx.crs lx.tn lx.dst rad).length = 4 := rfl; omega)
      injection e1 with e1 e3 e4
      injection e1 with e1
      injection e1 with e1
      subst e1 e4
      have l7 := HOA.out.2
      go_meet
      exact ⟨_, _, cur2, _, by rw [← e3], hide e2, by omega, HP, qz hM⟩
 case rest =>
 clear hM
 obtain ⟨ga, cap, cur, es, rfl, hcur, hes, HP, hM⟩ := hcut
 go_wp2_with (first | ((with_reducible refine lX ?_); refine mL ?_) | ((with_reducible refine sX ?_); refine mS ?_; clear hM; intro W hM) | ((with_reducible refine zX ?_); refine mB ?_; clear hM; intro g W hM))
 go_loopw [88] (fun i wx => ∃ (k : Nat) (Vk : Value) (Bk : List zz), k ≤ es.length ∧ i = .int .i64 k ∧ Hid (bG Vk (jT x.n d (es.take k)).els Bk (m + k)) ∧ qQ w0 wx ((ga, cur, 49) :: (gx, [.int .u8 x.k, .int .i64 x.ax, .int .i64 x.ay, .int .i64 x.bx, .int .i64 x.b_y, .int .i64 x.cx, .int .i64 x.cy, .int .i64 x.r, .int .i64 x.f, .int .i64 x.s, .int .i64 x.ci, .int .i64 x.co, .int .i64 x.len, .int .i64 x.n, .bool x.g], 69) :: (gl, [.int .u8 lx.ty, .string lx.fx, .string lx.ct, .int .u8 lx.tn, .bool lx.ov, .int .i64 lx.crs, .int .i64 lx.dst, .int .i64 lx.rad, .int .i64 lx.tht, .int .i64 lx.lo, .int .i64 lx.hi, .int .i64 lx.spd, .int .i64 lx.rnp], 36) :: (gd, uq Vk (jT x.n d (es.take k)) rad, 66) :: (Bk ++ R))) (fun i _ => es.length - (intOf i).toNat)
 case atStart => exact ⟨0, V, B, Nat.zero_le _, rfl, hO, hM⟩
 case round =>
  clear hM
  obtain ⟨k, Vk, Bk, hk, rfl, hOk, hM⟩ := hrel
  obtain ⟨dk, hdk⟩ : ∃ dk, jT x.n d (es.take k) = dk := ⟨_, rfl⟩
  rw [hdk] at hOk hM
  by_cases hlt : k < es.length
  · obtain ⟨e, he⟩ : ∃ e, es[k]? = some e := ⟨_, List.getElem?_eq_getElem hlt⟩
    have HC := hide (Qb hcur.out rfl he)
    have HN := hide (show jT x.n d (es.take (k + 1)) = if 1 ≤ e.L then ur dk { e with n := x.n } else dk by rw [wD he, KV, hdk])
    clear hdk he
    by_cases h1 : 1 ≤ e.L
    · go_wp2_with (first | (go_at_call 31; (with_reducible refine cD hM (fun R' hM' => Ya e.c e.ax e.ay e.bx e.b_y e.cx e.cy e.r e.f e.s e.L x.n e.g hM' hOk) ?_); clear hM; intro d1 V1 B1 W1 hd1 hO1 hM; simp only [List.cons_append, List.nil_append] at hM) | ((with_reducible refine lX ?_); refine fj hM rfl rfl rfl (by ((repeat constructor) <;> fail)) HC.out ?_) | ((with_reducible refine lX ?_); refine mL ?_) | ((with_reducible refine sX ?_); refine mS ?_; clear hM; intro W hM) | ((with_reducible refine zX ?_); refine mB ?_; clear hM; intro g W hM))
      all_goals
       go_roundw
       case rel => exact ⟨k + 1, V1, B1, hlt, by go_num, by rw [HN.out, if_pos h1]; rw [show ur dk { e with n := x.n } = d1 from hd1.out]; exact hO1, by rw [HN.out, if_pos h1]; rw [show ur dk { e with n := x.n } = d1 from hd1.out]; exact qz hM⟩
       case measure => simp [intOf]; omega
    · go_wp2_with (first | ((with_reducible refine lX ?_); refine fj hM rfl rfl rfl (by ((repeat constructor) <;> fail)) HC.out ?_) | ((with_reducible refine lX ?_); refine mL ?_) | ((with_reducible refine sX ?_); refine mS ?_; clear hM; intro W hM) | ((with_reducible refine zX ?_); refine mB ?_; clear hM; intro g W hM))
      all_goals
       go_roundw
       case rel => exact ⟨k + 1, Vk, Bk, hlt, by go_num, by rw [HN.out, if_neg h1]; exact hide ⟨hOk.out.1, Nat.le_trans hOk.out.2 (by omega)⟩, by rw [HN.out, if_neg h1]; exact qz hM⟩
       case measure => simp [intOf]; omega
  · have hke : k = es.length := by omega
    have HE := hide (show jT x.n d es = dk by rw [← hdk, hke, List.take_length])
    clear hdk
    go_wp2_with (first | ((with_reducible refine lX ?_); refine mL ?_) | ((with_reducible refine sX ?_); refine mS ?_; clear hM; intro W hM) | ((with_reducible refine zX ?_); refine mB ?_; clear hM; intro g W hM))
    all_goals
     have e2 : (kY rad d lx x).2 = dk := by rw [HP.out]; exact HE.out
     have e1 : (kY rad d lx x).1 = 0 := by rw [HP.out]
     (go_ret; exact ⟨by rw [e1]; rfl, Vk, Bk, by rw [e2]; exact ⟨hOk.out.1, Nat.le_trans hOk.out.2 (by omega)⟩, by rw [e2]; exact qz (qz (qz hM))⟩)
end Go.Proofs.YteanfgobpjdmnaaGreatDoor
