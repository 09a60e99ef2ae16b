/-
  Holding patterns and procedure turns drawn, by boxes.
-/
import Derived.Test.YtbhpklpkcgcmfaaGreatDoorMDrM
import Derived.Test.YtbhpklpkcgcmfaaGreatDoorMHoldC
namespace Go.Proofs.YtbhpklpkcgcmfaaGreatDoor
open Go.RowKit
set_option linter.unusedVariables false
set_option linter.unusedSimpArgs false
theorem allW_snoc (n : Int) : ∀ (l : List El) (d : Dw) (x : El), allW n d (l ++ [x]) = if 1 ≤ x.L then addW (allW n d l) { x with n := n } else allW n d l
 | [], d, x => by unfold allW; rfl
 | y :: l, d, x => by
   rw [List.cons_append]
   unfold allW
   exact allW_snoc n l _ x
theorem take_snocE {l : List El} {k : Nat} {x : El} (h : l[k]? = some x) : l.take (k + 1) = l.take k ++ [x] := by
 rw [List.take_add_one, h]
 rfl
theorem mem_front {w W0 W' : World} {L Br : List Box} (h : Mem w W0 L) (k : Mem W0 W' Br) : Mem w W' (Br ++ L) := by
 have h2 := mem_below h k.below
 refine ⟨h2.below, fun g cs t hm => ?_, ?_⟩
 · rcases List.mem_append.1 hm with hm | hm
   · exact ⟨Nat.le_trans h.below.size (k.rows g cs t hm).1, (k.rows g cs t hm).2⟩
   · exact h2.rows g cs t hm
 · rw [List.map_append, List.nodup_append]
   refine ⟨k.nodup, h.nodup, fun b hb a ha he => ?_⟩
   obtain ⟨⟨a1, a2, a3⟩, hx, e1⟩ := List.mem_map.1 ha
   obtain ⟨⟨b1, b2, b3⟩, hy, e2⟩ := List.mem_map.1 hb
   have := h.lt hx
   have := (k.rows b1 b2 b3 hy).1
   simp only at e1 e2
   omega
theorem mem_drop {w W : World} {Br L : List Box} (h : Mem w W (Br ++ L)) : Mem w W L :=
 ⟨h.below, fun g cs t hm => h.rows g cs t (List.mem_append_right _ hm), by
  have := h.nodup
  rw [List.map_append, List.nodup_append] at this
  exact this.2.1⟩
theorem revE_none {fx fy crs tn dst rad : Int} (h : (revE fx fy crs tn dst rad).1 ≠ 0) : (revE fx fy crs tn dst rad).2 = [] := by
 unfold revE at h ⊢
 split
 · rfl
 · rename_i h1
   rw [if_neg h1] at h
   split
   · rfl
   · rename_i h2
     rw [if_neg h2] at h
     dsimp only at h ⊢
     split
     · rename_i h3
       rw [if_pos h3] at h
       exact absurd rfl h
     · rfl
theorem revE_some {fx fy crs tn dst rad : Int} (h : (revE fx fy crs tn dst rad).1 = 0) : (revE fx fy crs tn dst rad).2.length = 5 := by
 unfold revE at h ⊢
 split
 · rename_i h1; rw [if_pos h1] at h; cases h
 · rename_i h1
   rw [if_neg h1] at h
   split
   · rename_i h2; rw [if_pos h2] at h; cases h
   · rename_i h2
     rw [if_neg h2] at h
     dsimp only at h ⊢
     split
     · rfl
     · rename_i h3
       rw [if_neg h3] at h
       cases h
theorem owE_row {V : Value} {l : List El} {B : List Box} {m : Nat} (h : OwE V l B m) (h0 : 0 < l.length) : ∃ g cap cur, V = .slice (some ⟨g, 0, none⟩) l.length cap ∧ B = [(g, cur, 48)] ∧ cur.take (l.length * 13) = l.flatMap El.cells := by
 obtain ⟨h1, _⟩ := h
 generalize hn : l.length = n at *
 generalize l.flatMap El.cells = xs at *
 cases h1 with
 | nil => omega
 | row a b c e g => exact ⟨_, _, _, rfl, rfl, e⟩
set_option maxRecDepth 100000 in
set_option maxHeartbeats 8000000 in
theorem pattern_d {w0 w : World} {gd : Nat} {rad : Int} {V : Value} {d : Dw} {B R : List Box} {m : Nat} (lx : En) (x : Tk) (hr : 1 ≤ rad) (hr8 : rad ≤ 8000000) (htn : lx.tn = 1 ∨ lx.tn = 2) (hci : I64 x.ci) (hcr : I64 lx.crs) (hM : Mem w0 w ((gd, dwC V d rad, 74) :: (B ++ R))) (hO : Hid (OwE V d.els B m)) (hm : m ≤ 80000 := by omega) :
 Calls Tryz.prog 26 #[.pointer (some ⟨gd, 0, none⟩), .agg #[.int .u8 lx.ty, .string lx.fx, .string lx.ct, .int .u8 lx.tn, .bool lx.ov, .int .i64 lx.crs, .int .i64 lx.dst, .int .i64 lx.rad, .int .i64 lx.tht, .int .i64 lx.lo, .int .i64 lx.hi, .int .i64 lx.spd, .int .i64 lx.rnp], .agg #[.int .u8 x.k, .int .i64 x.ax, .int .i64 x.ay, .int .i64 x.bx, .int .i64 x.b_y, .int .i64 x.cx, .int .i64 x.cy, .int .i64 x.r, .int .i64 x.f, .int .i64 x.s, .int .i64 x.ci, .int .i64 x.co, .int .i64 x.len, .int .i64 x.n, .bool x.g]] w fun e w' => e = .returned (.int .i64 (paT rad d lx x).1) ∧ ∃ V' B', OwE V' (paT rad d lx x).2.els B' (m + 7) ∧ Mem w0 w' ((gd, dwC V' (paT rad d lx x).2 rad, 74) :: (B' ++ R)) := by
 go_enter Tryz.func26, Tryz.ntmps26
 go_upto_region 0 with (first | ((with_reducible refine lX ?_); first | refine aL hM rfl rfl ?_ | refine aM hM rfl rfl ?_) | ((with_reducible refine sX ?_); refine aS hM rfl rfl rfl ?_; clear hM; intro W hM) | ((with_reducible refine bX ?_); refine aB hM rfl rfl ?_; clear hM; intro g W hM) | ((with_reducible refine zX ?_); refine aN hM rfl rfl ?_; clear hM; intro g W hM))
 try simp only [pS, pN, sA, sB, sC]
 go_cut [5, 4] (fun s5 s4 wx => ∃ gx gl : Nat, s5 = .pointer (some ⟨gx, 0, none⟩) ∧ s4 = .pointer (some ⟨gl, 0, none⟩) ∧ Mem w0 wx ((gx, [.int .u8 x.k, .int .i64 x.ax, .int .i64 x.ay, .int .i64 x.bx, .int .i64 x.b_y, .int .i64 x.cx, .int .i64 x.cy, .int .i64 x.r, .int .i64 x.f, .int .i64 x.s, .int .i64 x.ci, .int .i64 x.co, .int .i64 x.len, .int .i64 x.n, .bool x.g], 77) :: (gl, [.int .u8 lx.ty, .string lx.fx, .string lx.ct, .int .u8 lx.tn, .bool lx.ov, .int .i64 lx.crs, .int .i64 lx.dst, .int .i64 lx.rad, .int .i64 lx.tht, .int .i64 lx.lo, .int .i64 lx.hi, .int .i64 lx.spd, .int .i64 lx.rnp], 41) :: ((gd, dwC V d rad, 74) :: (B ++ R))))
 case first =>
  go_wp2_with (first | ((with_reducible refine lX ?_); first | refine aL hM rfl rfl ?_ | refine aM hM rfl rfl ?_) | ((with_reducible refine sX ?_); refine aS hM rfl rfl rfl ?_; clear hM; intro W hM) | ((with_reducible refine bX ?_); refine aB hM rfl rfl ?_; clear hM; intro g W hM) | ((with_reducible refine zX ?_); refine aN hM rfl rfl ?_; clear hM; intro g W hM))
  all_goals
   go_meet
   exact ⟨_, _, rfl, rfl, hM⟩
 case rest =>
 clear hM
 obtain ⟨gx, gl, rfl, rfl, hM⟩ := hcut
 go_upto_if 17 with (first | ((with_reducible refine lX ?_); first | refine aL hM rfl rfl ?_ | refine aM hM rfl rfl ?_) | ((with_reducible refine sX ?_); refine aS hM rfl rfl rfl ?_; clear hM; intro W hM) | ((with_reducible refine bX ?_); refine aB hM rfl rfl ?_; clear hM; intro g W hM) | ((with_reducible refine zX ?_); refine aN hM rfl rfl ?_; clear hM; intro g W hM))
 try simp only [pS, pN, sA, sB, sC]
 go_cut [7] (fun s7 wx => ∃ ga cap cur es, s7 = .slice (some ⟨ga, 0, none⟩) es.length cap ∧ Hid (cur.take (es.length * 13) = es.flatMap El.cells) ∧ es.length ≤ 7 ∧ Hid (paT rad d lx x = (0, allW x.n d es)) ∧ Mem w0 wx ((ga, cur, 48) :: ((gx, [.int .u8 x.k, .int .i64 x.ax, .int .i64 x.ay, .int .i64 x.bx, .int .i64 x.b_y, .int .i64 x.cx, .int .i64 x.cy, .int .i64 x.r, .int .i64 x.f, .int .i64 x.s, .int .i64 x.ci, .int .i64 x.co, .int .i64 x.len, .int .i64 x.n, .bool x.g], 77) :: (gl, [.int .u8 lx.ty, .string lx.fx, .string lx.ct, .int .u8 lx.tn, .bool lx.ov, .int .i64 lx.crs, .int .i64 lx.dst, .int .i64 lx.rad, .int .i64 lx.tht, .int .i64 lx.lo, .int .i64 lx.hi, .int .i64 lx.spd, .int .i64 lx.rnp], 41) :: ((gd, dwC V d rad, 74) :: (B ++ R)))))
 case first =>
  by_cases h17 : lx.ty = 17
  · have k17 : (lx.ty == 17) = true := by simpa using h17
    have HP0 := hide (show paT rad d lx x = ((revE x.ax x.ay lx.crs lx.tn lx.dst rad).1, allW x.n d (revE x.ax x.ay lx.crs lx.tn lx.dst rad).2) by unfold paT; rw [if_pos h17])
    clear h17
    go_upto_region 3 with (first | ((with_reducible refine lX ?_); first | refine aL hM rfl rfl ?_ | refine aM hM rfl rfl ?_) | ((with_reducible refine sX ?_); refine aS hM rfl rfl rfl ?_; clear hM; intro W hM) | ((with_reducible refine bX ?_); refine aB hM rfl rfl ?_; clear hM; intro g W hM) | ((with_reducible refine zX ?_); refine aN hM rfl rfl ?_; clear hM; intro g W hM))
    try simp only [pS, pN, sA, sB, sC]
    refine region_k [(gx, [.int .u8 x.k, .int .i64 x.ax, .int .i64 x.ay, .int .i64 x.bx, .int .i64 x.b_y, .int .i64 x.cx, .int .i64 x.cy, .int .i64 x.r, .int .i64 x.f, .int .i64 x.s, .int .i64 x.ci, .int .i64 x.co, .int .i64 x.len, .int .i64 x.n, .bool x.g], 77), (gl, [.int .u8 lx.ty, .string lx.fx, .string lx.ct, .int .u8 lx.tn, .bool lx.ov, .int .i64 lx.crs, .int .i64 lx.dst, .int .i64 lx.rad, .int .i64 lx.tht, .int .i64 lx.lo, .int .i64 lx.hi, .int .i64 lx.spd, .int .i64 lx.rnp], 41)] hM (by kernel_rfl) ?_; (clear hM; intro W hM)
    refine dP 0 hM ?_
    try simp only [pS, pN, sA, sB, sC]
    first | refine dL 1 hM ?_ | refine dM 1 hM ?_
    try simp only [pS, pN, sA, sB, sC]
    refine dP 2 hM ?_
    try simp only [pS, pN, sA, sB, sC]
    first | refine dL 3 hM ?_ | refine dM 3 hM ?_
    try simp only [pS, pN, sA, sB, sC]
    refine dP 4 hM ?_
    try simp only [pS, pN, sA, sB, sC]
    first | refine dL 5 hM ?_ | refine dM 5 hM ?_
    try simp only [pS, pN, sA, sB, sC]
    refine dP 6 hM ?_
    try simp only [pS, pN, sA, sB, sC]
    first | refine dL 7 hM ?_ | refine dM 7 hM ?_
    try simp only [pS, pN, sA, sB, sC]
    refine dP 8 hM ?_
    try simp only [pS, pN, sA, sB, sC]
    refine dP 9 hM ?_
    try simp only [pS, pN, sA, sB, sC]
    refine dP 10 hM ?_
    try simp only [pS, pN, sA, sB, sC]
    refine dC 11 (fun K' hK' => ?_)
    first | refine oL hM ?_ | refine oM hM ?_
    refine hK_out hK' hM ?_
    clear hK' K'
    try simp only [pS, pN, sA, sB, sC]
    refine dC 12 (fun K' hK' => ?_)
    go_wp2_with (first | (go_at_call 60; refine (rev_h x.ax x.ay lx.crs lx.tn lx.dst rad _).mono ?_; rintro e0 W1 ⟨Vr, Br, rfl, hOr, hMr⟩; replace hM := mem_front hM hMr; clear hMr))
    refine hK_out hK' hM ?_
    clear hK' K'
    try simp only [pS, pN, sA, sB, sC]
    refine dP 13 hM ?_
    try simp only [pS, pN, sA, sB, sC]
    refine dP 14 hM ?_
    try simp only [pS, pN, sA, sB, sC]
    refine dP 15 hM ?_
    try simp only [pS, pN, sA, sB, sC]
    refine dP 16 hM ?_
    try simp only [pS, pN, sA, sB, sC]
    refine dP 17 hM ?_
    try simp only [pS, pN, sA, sB, sC]
    refine tk_done (by kernel_rfl) ?_
    obtain ⟨E0, hE0⟩ : ∃ E0, (revE x.ax x.ay lx.crs lx.tn lx.dst rad).1 = E0 := ⟨_, rfl⟩
    rw [hE0]
    by_cases h0 : E0 = 0
    rotate_left 1
    · have HP := hide (show paT rad d lx x = (E0, d) by rw [HP0.out, revE_none (by rw [hE0]; exact h0), hE0]; rfl)
      have h1 : (E0 != 0) = true := by simpa using h0
      clear h0 hE0 HP0
      go_wp2_with (first | ((with_reducible refine lX ?_); first | refine aL hM rfl rfl ?_ | refine aM hM rfl rfl ?_) | ((with_reducible refine sX ?_); refine aS hM rfl rfl rfl ?_; clear hM; intro W hM) | ((with_reducible refine bX ?_); refine aB hM rfl rfl ?_; clear hM; intro g W hM) | ((with_reducible refine zX ?_); refine aN hM rfl rfl ?_; clear hM; intro g W hM))
      all_goals
       (go_ret; exact ⟨by rw [HP.out]; rfl, V, B, by rw [HP.out]; exact ⟨hO.out.1, Nat.le_trans hO.out.2 (by omega)⟩, by rw [HP.out]; exact mem_tl (mem_tl (mem_drop hM))⟩)
    subst h0
    have h5 := revE_some hE0
    obtain ⟨ga, cap, cur, rfl, rfl, hcur⟩ := owE_row hOr (by rw [h5]; decide)
    have HP := hide (show paT rad d lx x = (0, allW x.n d (revE x.ax x.ay lx.crs lx.tn lx.dst rad).2) by rw [HP0.out, hE0])
    have hcur := hide hcur
    clear hOr HP0 hE0
    generalize (revE x.ax x.ay lx.crs lx.tn lx.dst rad).2 = es at *
    simp only [List.cons_append, List.nil_append] at hM
    go_wp2_with (first | ((with_reducible refine lX ?_); first | refine aL hM rfl rfl ?_ | refine aM hM rfl rfl ?_) | ((with_reducible refine sX ?_); refine aS hM rfl rfl rfl ?_; clear hM; intro W hM) | ((with_reducible refine bX ?_); refine aB hM rfl rfl ?_; clear hM; intro g W hM) | ((with_reducible refine zX ?_); refine aN hM rfl rfl ?_; clear hM; intro g W hM))
    all_goals
     go_meet
     exact ⟨ga, cap, cur, es, rfl, hcur, by omega, HP, hM⟩
  · have k17 : (lx.ty == 17) = false := by simpa using h17
    have EN := fun W => entry_h x.ci lx.crs lx.tn htn hci hcr W
    by_cases hE : shpE x.ax x.ay lx.crs lx.tn lx.dst rad = 0
    rotate_left 1
    · have HP := hide (show paT rad d lx x = (shpE x.ax x.ay lx.crs lx.tn lx.dst rad, d) by unfold paT; rw [if_neg h17, if_pos hE])
      obtain ⟨E0, hE0⟩ : ∃ E0, shpE x.ax x.ay lx.crs lx.tn lx.dst rad = E0 := ⟨_, rfl⟩
      rw [hE0] at hE HP
      have EB := fun W => enter_bad (kindW (holdW x.ci lx.crs lx.tn)) x.ax x.ay lx.crs lx.tn lx.dst rad E0 hE0 hE W
      have h1 : (E0 != 0) = true := by simpa using hE
      clear h17 hE hE0
      go_upto_region 7 with (first | ((with_reducible refine lX ?_); first | refine aL hM rfl rfl ?_ | refine aM hM rfl rfl ?_) | ((with_reducible refine sX ?_); refine aS hM rfl rfl rfl ?_; clear hM; intro W hM) | ((with_reducible refine bX ?_); refine aB hM rfl rfl ?_; clear hM; intro g W hM) | ((with_reducible refine zX ?_); refine aN hM rfl rfl ?_; clear hM; intro g W hM))
      try simp only [pS, pN, sA, sB, sC]
      refine region_k [(gx, [.int .u8 x.k, .int .i64 x.ax, .int .i64 x.ay, .int .i64 x.bx, .int .i64 x.b_y, .int .i64 x.cx, .int .i64 x.cy, .int .i64 x.r, .int .i64 x.f, .int .i64 x.s, .int .i64 x.ci, .int .i64 x.co, .int .i64 x.len, .int .i64 x.n, .bool x.g], 77), (gl, [.int .u8 lx.ty, .string lx.fx, .string lx.ct, .int .u8 lx.tn, .bool lx.ov, .int .i64 lx.crs, .int .i64 lx.dst, .int .i64 lx.rad, .int .i64 lx.tht, .int .i64 lx.lo, .int .i64 lx.hi, .int .i64 lx.spd, .int .i64 lx.rnp], 41)] hM (by kernel_rfl) ?_; (clear hM; intro W hM)
      refine dP 0 hM ?_
      try simp only [pS, pN, sA, sB, sC]
      first | refine dL 1 hM ?_ | refine dM 1 hM ?_
      try simp only [pS, pN, sA, sB, sC]
      refine dP 2 hM ?_
      try simp only [pS, pN, sA, sB, sC]
      first | refine dL 3 hM ?_ | refine dM 3 hM ?_
      try simp only [pS, pN, sA, sB, sC]
      refine dP 4 hM ?_
      try simp only [pS, pN, sA, sB, sC]
      first | refine dL 5 hM ?_ | refine dM 5 hM ?_
      try simp only [pS, pN, sA, sB, sC]
      refine dP 7 hM ?_
      try simp only [pS, pN, sA, sB, sC]
      first | refine dL 8 hM ?_ | refine dM 8 hM ?_
      try simp only [pS, pN, sA, sB, sC]
      refine dP 9 hM ?_
      try simp only [pS, pN, sA, sB, sC]
      first | refine dL 10 hM ?_ | refine dM 10 hM ?_
      try simp only [pS, pN, sA, sB, sC]
      refine dP 11 hM ?_
      try simp only [pS, pN, sA, sB, sC]
      first | refine dL 12 hM ?_ | refine dM 12 hM ?_
      try simp only [pS, pN, sA, sB, sC]
      refine dP 13 hM ?_
      try simp only [pS, pN, sA, sB, sC]
      first | refine dL 14 hM ?_ | refine dM 14 hM ?_
      try simp only [pS, pN, sA, sB, sC]
      refine dP 15 hM ?_
      try simp only [pS, pN, sA, sB, sC]
      refine dP 16 hM ?_
      try simp only [pS, pN, sA, sB, sC]
      refine dP 17 hM ?_
      try simp only [pS, pN, sA, sB, sC]
      refine dT 6 18 (fun K' hK' => ?_) (fun K' hK' => ?_)
      ·
       go_wp2_with (first | (go_at_call 62; (with_reducible refine (EN _).mono ?_); rintro e W1 ⟨rfl, rfl⟩) | (go_at_call 61; (with_reducible refine cb hM (EB _) ?_); clear hM; intro W1 hM))
       refine hK_out hK' hM ?_
       clear hK' K'
       try simp only [pS, pN, sA, sB, sC]
       refine dC 18 (fun K' hK' => ?_)
       first | refine oL hM ?_ | refine oM hM ?_
       refine hK_out hK' hM ?_
       clear hK' K'
       try simp only [pS, pN, sA, sB, sC]
       refine dC 19 (fun K' hK' => ?_)
       go_wp2_with (first | (go_at_call 62; (with_reducible refine (EN _).mono ?_); rintro e W1 ⟨rfl, rfl⟩) | (go_at_call 61; (with_reducible refine cb hM (EB _) ?_); clear hM; intro W1 hM))
       refine hK_out hK' hM ?_
       clear hK' K'
       try simp only [pS, pN, sA, sB, sC]
       refine dP 20 hM ?_
       try simp only [pS, pN, sA, sB, sC]
       refine dP 21 hM ?_
       try simp only [pS, pN, sA, sB, sC]
       refine dP 22 hM ?_
       try simp only [pS, pN, sA, sB, sC]
       refine dP 23 hM ?_
       try simp only [pS, pN, sA, sB, sC]
       refine dP 24 hM ?_
       try simp only [pS, pN, sA, sB, sC]
       refine tk_done (by kernel_rfl) ?_
       go_wp2_with (first | ((with_reducible refine lX ?_); first | refine aL hM rfl rfl ?_ | refine aM hM rfl rfl ?_) | ((with_reducible refine sX ?_); refine aS hM rfl rfl rfl ?_; clear hM; intro W hM) | ((with_reducible refine bX ?_); refine aB hM rfl rfl ?_; clear hM; intro g W hM) | ((with_reducible refine zX ?_); refine aN hM rfl rfl ?_; clear hM; intro g W hM))
       all_goals
        (go_ret; exact ⟨by rw [HP.out]; rfl, V, B, by rw [HP.out]; exact ⟨hO.out.1, Nat.le_trans hO.out.2 (by omega)⟩, by rw [HP.out]; exact mem_tl (mem_tl hM)⟩)
      ·
       first | refine oL hM ?_ | refine oM hM ?_
       refine hK_out hK' hM ?_
       clear hK' K'
       try simp only [pS, pN, sA, sB, sC]
       refine dC 6 (fun K' hK' => ?_)
       go_wp2_with (first | (go_at_call 62; (with_reducible refine (EN _).mono ?_); rintro e W1 ⟨rfl, rfl⟩) | (go_at_call 61; (with_reducible refine cb hM (EB _) ?_); clear hM; intro W1 hM))
       refine hK_out hK' hM ?_
       clear hK' K'
       try simp only [pS, pN, sA, sB, sC]
       refine dC 19 (fun K' hK' => ?_)
       go_wp2_with (first | (go_at_call 62; (with_reducible refine (EN _).mono ?_); rintro e W1 ⟨rfl, rfl⟩) | (go_at_call 61; (with_reducible refine cb hM (EB _) ?_); clear hM; intro W1 hM))
       refine hK_out hK' hM ?_
       clear hK' K'
       try simp only [pS, pN, sA, sB, sC]
       refine dP 20 hM ?_
       try simp only [pS, pN, sA, sB, sC]
       refine dP 21 hM ?_
       try simp only [pS, pN, sA, sB, sC]
       refine dP 22 hM ?_
       try simp only [pS, pN, sA, sB, sC]
       refine dP 23 hM ?_
       try simp only [pS, pN, sA, sB, sC]
       refine dP 24 hM ?_
       try simp only [pS, pN, sA, sB, sC]
       refine tk_done (by kernel_rfl) ?_
       go_wp2_with (first | ((with_reducible refine lX ?_); first | refine aL hM rfl rfl ?_ | refine aM hM rfl rfl ?_) | ((with_reducible refine sX ?_); refine aS hM rfl rfl rfl ?_; clear hM; intro W hM) | ((with_reducible refine bX ?_); refine aB hM rfl rfl ?_; clear hM; intro g W hM) | ((with_reducible refine zX ?_); refine aN hM rfl rfl ?_; clear hM; intro g W hM))
       all_goals
        (go_ret; exact ⟨by rw [HP.out]; rfl, V, B, by rw [HP.out]; exact ⟨hO.out.1, Nat.le_trans hO.out.2 (by omega)⟩, by rw [HP.out]; exact mem_tl (mem_tl hM)⟩)
    have HP := hide (show paT rad d lx x = (0, allW x.n d (entE (holdW x.ci lx.crs lx.tn) x.ax x.ay lx.crs lx.tn lx.dst rad ++ patE x.ax x.ay lx.crs lx.tn lx.dst rad)) by unfold paT; rw [if_neg h17, if_neg (by rw [hE]; simp)])
    have EO := fun W => enter_ok (holdW x.ci lx.crs lx.tn) x.ax x.ay lx.crs lx.tn lx.dst rad hE W
    have PO := fun W => pattern_ok x.ax x.ay lx.crs lx.tn lx.dst rad hE W
    clear h17 hE
    go_upto_region 7 with (first | ((with_reducible refine lX ?_); first | refine aL hM rfl rfl ?_ | refine aM hM rfl rfl ?_) | ((with_reducible refine sX ?_); refine aS hM rfl rfl rfl ?_; clear hM; intro W hM) | ((with_reducible refine bX ?_); refine aB hM rfl rfl ?_; clear hM; intro g W hM) | ((with_reducible refine zX ?_); refine aN hM rfl rfl ?_; clear hM; intro g W hM))
    try simp only [pS, pN, sA, sB, sC]
    refine region_k [(gx, [.int .u8 x.k, .int .i64 x.ax, .int .i64 x.ay, .int .i64 x.bx, .int .i64 x.b_y, .int .i64 x.cx, .int .i64 x.cy, .int .i64 x.r, .int .i64 x.f, .int .i64 x.s, .int .i64 x.ci, .int .i64 x.co, .int .i64 x.len, .int .i64 x.n, .bool x.g], 77), (gl, [.int .u8 lx.ty, .string lx.fx, .string lx.ct, .int .u8 lx.tn, .bool lx.ov, .int .i64 lx.crs, .int .i64 lx.dst, .int .i64 lx.rad, .int .i64 lx.tht, .int .i64 lx.lo, .int .i64 lx.hi, .int .i64 lx.spd, .int .i64 lx.rnp], 41)] hM (by kernel_rfl) ?_; (clear hM; intro W hM)
    refine dP 0 hM ?_
    try simp only [pS, pN, sA, sB, sC]
    first | refine dL 1 hM ?_ | refine dM 1 hM ?_
    try simp only [pS, pN, sA, sB, sC]
    refine dP 2 hM ?_
    try simp only [pS, pN, sA, sB, sC]
    first | refine dL 3 hM ?_ | refine dM 3 hM ?_
    try simp only [pS, pN, sA, sB, sC]
    refine dP 4 hM ?_
    try simp only [pS, pN, sA, sB, sC]
    first | refine dL 5 hM ?_ | refine dM 5 hM ?_
    try simp only [pS, pN, sA, sB, sC]
    refine dP 7 hM ?_
    try simp only [pS, pN, sA, sB, sC]
    first | refine dL 8 hM ?_ | refine dM 8 hM ?_
    try simp only [pS, pN, sA, sB, sC]
    refine dP 9 hM ?_
    try simp only [pS, pN, sA, sB, sC]
    first | refine dL 10 hM ?_ | refine dM 10 hM ?_
    try simp only [pS, pN, sA, sB, sC]
    refine dP 11 hM ?_
    try simp only [pS, pN, sA, sB, sC]
    first | refine dL 12 hM ?_ | refine dM 12 hM ?_
    try simp only [pS, pN, sA, sB, sC]
    refine dP 13 hM ?_
    try simp only [pS, pN, sA, sB, sC]
    first | refine dL 14 hM ?_ | refine dM 14 hM ?_
    try simp only [pS, pN, sA, sB, sC]
    refine dP 15 hM ?_
    try simp only [pS, pN, sA, sB, sC]
    refine dP 16 hM ?_
    try simp only [pS, pN, sA, sB, sC]
    refine dP 17 hM ?_
    try simp only [pS, pN, sA, sB, sC]
    refine dT 6 18 (fun K' hK' => ?_) (fun K' hK' => ?_)
    ·
     go_wp2_with (first | (go_at_call 62; (with_reducible refine (EN _).mono ?_); rintro e W1 ⟨rfl, rfl⟩) | (go_at_call 61; refine (EO _).mono ?_; rintro e0 W1 ⟨Ve, Be, rfl, hOe, hMe⟩; replace hM := mem_front hM hMe; clear hMe))
     refine hK_out hK' hM ?_
     clear hK' K'
     try simp only [pS, pN, sA, sB, sC]
     refine dC 18 (fun K' hK' => ?_)
     first | refine oL hM ?_ | refine oM hM ?_
     refine hK_out hK' hM ?_
     clear hK' K'
     try simp only [pS, pN, sA, sB, sC]
     refine dC 19 (fun K' hK' => ?_)
     go_wp2_with (first | (go_at_call 62; (with_reducible refine (EN _).mono ?_); rintro e W1 ⟨rfl, rfl⟩) | (go_at_call 61; refine (EO _).mono ?_; rintro e0 W1 ⟨Ve, Be, rfl, hOe, hMe⟩; replace hM := mem_front hM hMe; clear hMe))
     refine hK_out hK' hM ?_
     clear hK' K'
     try simp only [pS, pN, sA, sB, sC]
     refine dP 20 hM ?_
     try simp only [pS, pN, sA, sB, sC]
     refine dP 21 hM ?_
     try simp only [pS, pN, sA, sB, sC]
     refine dP 22 hM ?_
     try simp only [pS, pN, sA, sB, sC]
     refine dP 23 hM ?_
     try simp only [pS, pN, sA, sB, sC]
     refine dP 24 hM ?_
     try simp only [pS, pN, sA, sB, sC]
     refine tk_done (by kernel_rfl) ?_
     go_upto_region 10 with (first | ((with_reducible refine lX ?_); first | refine aL hM rfl rfl ?_ | refine aM hM rfl rfl ?_) | ((with_reducible refine sX ?_); refine aS hM rfl rfl rfl ?_; clear hM; intro W hM) | ((with_reducible refine bX ?_); refine aB hM rfl rfl ?_; clear hM; intro g W hM) | ((with_reducible refine zX ?_); refine aN hM rfl rfl ?_; clear hM; intro g W hM))
     try simp only [pS, pN, sA, sB, sC]
     refine region_k [(gx, [.int .u8 x.k, .int .i64 x.ax, .int .i64 x.ay, .int .i64 x.bx, .int .i64 x.b_y, .int .i64 x.cx, .int .i64 x.cy, .int .i64 x.r, .int .i64 x.f, .int .i64 x.s, .int .i64 x.ci, .int .i64 x.co, .int .i64 x.len, .int .i64 x.n, .bool x.g], 77), (gl, [.int .u8 lx.ty, .string lx.fx, .string lx.ct, .int .u8 lx.tn, .bool lx.ov, .int .i64 lx.crs, .int .i64 lx.dst, .int .i64 lx.rad, .int .i64 lx.tht, .int .i64 lx.lo, .int .i64 lx.hi, .int .i64 lx.spd, .int .i64 lx.rnp], 41)] hM (by kernel_rfl) ?_; (clear hM; intro W hM)
     refine dP 0 hM ?_
     try simp only [pS, pN, sA, sB, sC]
     first | refine dL 1 hM ?_ | refine dM 1 hM ?_
     try simp only [pS, pN, sA, sB, sC]
     refine dP 2 hM ?_
     try simp only [pS, pN, sA, sB, sC]
     first | refine dL 3 hM ?_ | refine dM 3 hM ?_
     try simp only [pS, pN, sA, sB, sC]
     refine dP 4 hM ?_
     try simp only [pS, pN, sA, sB, sC]
     first | refine dL 5 hM ?_ | refine dM 5 hM ?_
     try simp only [pS, pN, sA, sB, sC]
     refine dP 6 hM ?_
     try simp only [pS, pN, sA, sB, sC]
     first | refine dL 7 hM ?_ | refine dM 7 hM ?_
     try simp only [pS, pN, sA, sB, sC]
     refine dP 8 hM ?_
     try simp only [pS, pN, sA, sB, sC]
     refine dP 9 hM ?_
     try simp only [pS, pN, sA, sB, sC]
     refine dP 10 hM ?_
     try simp only [pS, pN, sA, sB, sC]
     refine dC 11 (fun K' hK' => ?_)
     first | refine oL hM ?_ | refine oM hM ?_
     refine hK_out hK' hM ?_
     clear hK' K'
     try simp only [pS, pN, sA, sB, sC]
     refine dC 12 (fun K' hK' => ?_)
     go_wp2_with (first | (go_at_call 63; refine (PO _).mono ?_; rintro e0 W1 ⟨gP, rfl, hMp⟩; replace hM := mem_front hM hMp; clear hMp; simp only [List.cons_append, List.nil_append] at hM))
     refine hK_out hK' hM ?_
     clear hK' K'
     try simp only [pS, pN, sA, sB, sC]
     refine dP 13 hM ?_
     try simp only [pS, pN, sA, sB, sC]
     refine dP 14 hM ?_
     try simp only [pS, pN, sA, sB, sC]
     refine dP 15 hM ?_
     try simp only [pS, pN, sA, sB, sC]
     refine dP 16 hM ?_
     try simp only [pS, pN, sA, sB, sC]
     refine dP 17 hM ?_
     try simp only [pS, pN, sA, sB, sC]
     refine tk_done (by kernel_rfl) ?_
     have hOe2 : Hid (OwE Ve (entE (holdW x.ci lx.crs lx.tn) x.ax x.ay lx.crs lx.tn lx.dst rad) Be 3) := hide hOe
     clear hOe
     go_wp2_with (first | ((with_reducible refine at_apx ?_); refine wpList_plain rfl fun _ hK => ?_; refine oAn (k := 4) (m := 3) (patE x.ax x.ay lx.crs lx.tn lx.dst rad) hM hOe2 (by decide) rfl (by decide) (by decide) ?_; clear hM; intro ga capA BA W1 HOA hM; simp only [List.cons_append, List.nil_append] at hM; refine hK _ _ ?_) | ((with_reducible refine lX ?_); first | refine aL hM rfl rfl ?_ | refine aM hM rfl rfl ?_) | ((with_reducible refine sX ?_); refine aS hM rfl rfl rfl ?_; clear hM; intro W hM) | ((with_reducible refine bX ?_); refine aB hM rfl rfl ?_; clear hM; intro g W hM) | ((with_reducible refine zX ?_); refine aN hM rfl rfl ?_; clear hM; intro g W hM))
     all_goals
      obtain ⟨gb2, cap2, cur2, e1, rfl, e2⟩ := owE_row HOA.out (by rw [List.length_append]; have : (patE x.ax x.ay lx.crs lx.tn lx.dst rad).length = 4 := rfl; omega)
      injection e1 with e1 e3 e4
      injection e1 with e1
      injection e1 with e1
      subst e1 e4
      have l7 := HOA.out.2
      go_meet
      exact ⟨_, _, cur2, _, by rw [← e3], hide e2, by omega, HP, mem_tl hM⟩
    ·
     first | refine oL hM ?_ | refine oM hM ?_
     refine hK_out hK' hM ?_
     clear hK' K'
     try simp only [pS, pN, sA, sB, sC]
     refine dC 6 (fun K' hK' => ?_)
     go_wp2_with (first | (go_at_call 62; (with_reducible refine (EN _).mono ?_); rintro e W1 ⟨rfl, rfl⟩) | (go_at_call 61; refine (EO _).mono ?_; rintro e0 W1 ⟨Ve, Be, rfl, hOe, hMe⟩; replace hM := mem_front hM hMe; clear hMe))
     refine hK_out hK' hM ?_
     clear hK' K'
     try simp only [pS, pN, sA, sB, sC]
     refine dC 19 (fun K' hK' => ?_)
     go_wp2_with (first | (go_at_call 62; (with_reducible refine (EN _).mono ?_); rintro e W1 ⟨rfl, rfl⟩) | (go_at_call 61; refine (EO _).mono ?_; rintro e0 W1 ⟨Ve, Be, rfl, hOe, hMe⟩; replace hM := mem_front hM hMe; clear hMe))
     refine hK_out hK' hM ?_
     clear hK' K'
     try simp only [pS, pN, sA, sB, sC]
     refine dP 20 hM ?_
     try simp only [pS, pN, sA, sB, sC]
     refine dP 21 hM ?_
     try simp only [pS, pN, sA, sB, sC]
     refine dP 22 hM ?_
     try simp only [pS, pN, sA, sB, sC]
     refine dP 23 hM ?_
     try simp only [pS, pN, sA, sB, sC]
     refine dP 24 hM ?_
     try simp only [pS, pN, sA, sB, sC]
     refine tk_done (by kernel_rfl) ?_
     go_upto_region 10 with (first | ((with_reducible refine lX ?_); first | refine aL hM rfl rfl ?_ | refine aM hM rfl rfl ?_) | ((with_reducible refine sX ?_); refine aS hM rfl rfl rfl ?_; clear hM; intro W hM) | ((with_reducible refine bX ?_); refine aB hM rfl rfl ?_; clear hM; intro g W hM) | ((with_reducible refine zX ?_); refine aN hM rfl rfl ?_; clear hM; intro g W hM))
     try simp only [pS, pN, sA, sB, sC]
     refine region_k [(gx, [.int .u8 x.k, .int .i64 x.ax, .int .i64 x.ay, .int .i64 x.bx, .int .i64 x.b_y, .int .i64 x.cx, .int .i64 x.cy, .int .i64 x.r, .int .i64 x.f, .int .i64 x.s, .int .i64 x.ci, .int .i64 x.co, .int .i64 x.len, .int .i64 x.n, .bool x.g], 77), (gl, [.int .u8 lx.ty, .string lx.fx, .string lx.ct, .int .u8 lx.tn, .bool lx.ov, .int .i64 lx.crs, .int .i64 lx.dst, .int .i64 lx.rad, .int .i64 lx.tht, .int .i64 lx.lo, .int .i64 lx.hi, .int .i64 lx.spd, .int .i64 lx.rnp], 41)] hM (by kernel_rfl) ?_; (clear hM; intro W hM)
     refine dP 0 hM ?_
     try simp only [pS, pN, sA, sB, sC]
     first | refine dL 1 hM ?_ | refine dM 1 hM ?_
     try simp only [pS, pN, sA, sB, sC]
     refine dP 2 hM ?_
     try simp only [pS, pN, sA, sB, sC]
     first | refine dL 3 hM ?_ | refine dM 3 hM ?_
     try simp only [pS, pN, sA, sB, sC]
     refine dP 4 hM ?_
     try simp only [pS, pN, sA, sB, sC]
     first | refine dL 5 hM ?_ | refine dM 5 hM ?_
     try simp only [pS, pN, sA, sB, sC]
     refine dP 6 hM ?_
     try simp only [pS, pN, sA, sB, sC]
     first | refine dL 7 hM ?_ | refine dM 7 hM ?_
     try simp only [pS, pN, sA, sB, sC]
     refine dP 8 hM ?_
     try simp only [pS, pN, sA, sB, sC]
     refine dP 9 hM ?_
     try simp only [pS, pN, sA, sB, sC]
     refine dP 10 hM ?_
     try simp only [pS, pN, sA, sB, sC]
     refine dC 11 (fun K' hK' => ?_)
     first | refine oL hM ?_ | refine oM hM ?_
     refine hK_out hK' hM ?_
     clear hK' K'
     try simp only [pS, pN, sA, sB, sC]
     refine dC 12 (fun K' hK' => ?_)
     go_wp2_with (first | (go_at_call 63; refine (PO _).mono ?_; rintro e0 W1 ⟨gP, rfl, hMp⟩; replace hM := mem_front hM hMp; clear hMp; simp only [List.cons_append, List.nil_append] at hM))
     refine hK_out hK' hM ?_
     clear hK' K'
     try simp only [pS, pN, sA, sB, sC]
     refine dP 13 hM ?_
     try simp only [pS, pN, sA, sB, sC]
     refine dP 14 hM ?_
     try simp only [pS, pN, sA, sB, sC]
     refine dP 15 hM ?_
     try simp only [pS, pN, sA, sB, sC]
     refine dP 16 hM ?_
     try simp only [pS, pN, sA, sB, sC]
     refine dP 17 hM ?_
     try simp only [pS, pN, sA, sB, sC]
     refine tk_done (by kernel_rfl) ?_
     have hOe2 : Hid (OwE Ve (entE (holdW x.ci lx.crs lx.tn) x.ax x.ay lx.crs lx.tn lx.dst rad) Be 3) := hide hOe
     clear hOe
     go_wp2_with (first | ((with_reducible refine at_apx ?_); refine wpList_plain rfl fun _ hK => ?_; refine oAn (k := 4) (m := 3) (patE x.ax x.ay lx.crs lx.tn lx.dst rad) hM hOe2 (by decide) rfl (by decide) (by decide) ?_; clear hM; intro ga capA BA W1 HOA hM; simp only [List.cons_append, List.nil_append] at hM; refine hK _ _ ?_) | ((with_reducible refine lX ?_); first | refine aL hM rfl rfl ?_ | refine aM hM rfl rfl ?_) | ((with_reducible refine sX ?_); refine aS hM rfl rfl rfl ?_; clear hM; intro W hM) | ((with_reducible refine bX ?_); refine aB hM rfl rfl ?_; clear hM; intro g W hM) | ((with_reducible refine zX ?_); refine aN hM rfl rfl ?_; clear hM; intro g W hM))
     all_goals
      obtain ⟨gb2, cap2, cur2, e1, rfl, e2⟩ := owE_row HOA.out (by rw [List.length_append]; have : (patE x.ax x.ay lx.crs lx.tn lx.dst rad).length = 4 := rfl; omega)
      injection e1 with e1 e3 e4
      injection e1 with e1
      injection e1 with e1
      subst e1 e4
      have l7 := HOA.out.2
      go_meet
      exact ⟨_, _, cur2, _, by rw [← e3], hide e2, by omega, HP, mem_tl hM⟩
 case rest =>
 clear hM
 obtain ⟨ga, cap, cur, es, rfl, hcur, hes, HP, hM⟩ := hcut
 go_wp2_with (first | ((with_reducible refine lX ?_); first | refine aL hM rfl rfl ?_ | refine aM hM rfl rfl ?_) | ((with_reducible refine sX ?_); refine aS hM rfl rfl rfl ?_; clear hM; intro W hM) | ((with_reducible refine bX ?_); refine aB hM rfl rfl ?_; clear hM; intro g W hM) | ((with_reducible refine zX ?_); refine aN hM rfl rfl ?_; clear hM; intro g W hM))
 go_loopw [88] (fun i wx => ∃ (k : Nat) (Vk : Value) (Bk : List Box), k ≤ es.length ∧ i = .int .i64 k ∧ Hid (OwE Vk (allW x.n d (es.take k)).els Bk (m + k)) ∧ Mem w0 wx ((ga, cur, 48) :: (gx, [.int .u8 x.k, .int .i64 x.ax, .int .i64 x.ay, .int .i64 x.bx, .int .i64 x.b_y, .int .i64 x.cx, .int .i64 x.cy, .int .i64 x.r, .int .i64 x.f, .int .i64 x.s, .int .i64 x.ci, .int .i64 x.co, .int .i64 x.len, .int .i64 x.n, .bool x.g], 77) :: (gl, [.int .u8 lx.ty, .string lx.fx, .string lx.ct, .int .u8 lx.tn, .bool lx.ov, .int .i64 lx.crs, .int .i64 lx.dst, .int .i64 lx.rad, .int .i64 lx.tht, .int .i64 lx.lo, .int .i64 lx.hi, .int .i64 lx.spd, .int .i64 lx.rnp], 41) :: (gd, dwC Vk (allW x.n d (es.take k)) rad, 74) :: (Bk ++ R))) (fun i _ => es.length - (intOf i).toNat)
 case atStart => exact ⟨0, V, B, Nat.zero_le _, rfl, hO, hM⟩
 case round =>
  clear hM
  obtain ⟨k, Vk, Bk, hk, rfl, hOk, hM⟩ := hrel
  obtain ⟨dk, hdk⟩ : ∃ dk, allW x.n d (es.take k) = dk := ⟨_, rfl⟩
  rw [hdk] at hOk hM
  by_cases hlt : k < es.length
  · obtain ⟨e, he⟩ : ∃ e, es[k]? = some e := ⟨_, List.getElem?_eq_getElem hlt⟩
    have HC := hide (row_el hcur.out rfl he)
    have HN := hide (show allW x.n d (es.take (k + 1)) = if 1 ≤ e.L then addW dk { e with n := x.n } else dk by rw [take_snocE he, allW_snoc, hdk])
    clear hdk he
    by_cases h1 : 1 ≤ e.L
    · go_wp2_with (first | (go_at_call 58; (with_reducible refine cD hM (fun R' hM' => add_d e.c e.ax e.ay e.bx e.b_y e.cx e.cy e.r e.f e.s e.L x.n e.g hM' hOk) ?_); clear hM; intro d1 V1 B1 W1 hd1 hO1 hM; simp only [List.cons_append, List.nil_append] at hM) | ((with_reducible refine lX ?_); refine rowE hM rfl rfl rfl (by ((repeat constructor) <;> fail)) HC.out ?_) | ((with_reducible refine lX ?_); first | refine aL hM rfl rfl ?_ | refine aM hM rfl rfl ?_) | ((with_reducible refine sX ?_); refine aS hM rfl rfl rfl ?_; clear hM; intro W hM) | ((with_reducible refine bX ?_); refine aB hM rfl rfl ?_; clear hM; intro g W hM) | ((with_reducible refine zX ?_); refine aN hM rfl rfl ?_; clear hM; intro g W hM))
      all_goals
       go_roundw
       case rel => exact ⟨k + 1, V1, B1, hlt, by go_num, by rw [HN.out, if_pos h1]; rw [show addW dk { e with n := x.n } = d1 from hd1.out]; exact hO1, by rw [HN.out, if_pos h1]; rw [show addW dk { e with n := x.n } = d1 from hd1.out]; exact mem_tl hM⟩
       case measure => simp [intOf]; omega
    · go_wp2_with (first | ((with_reducible refine lX ?_); refine rowE hM rfl rfl rfl (by ((repeat constructor) <;> fail)) HC.out ?_) | ((with_reducible refine lX ?_); first | refine aL hM rfl rfl ?_ | refine aM hM rfl rfl ?_) | ((with_reducible refine sX ?_); refine aS hM rfl rfl rfl ?_; clear hM; intro W hM) | ((with_reducible refine bX ?_); refine aB hM rfl rfl ?_; clear hM; intro g W hM) | ((with_reducible refine zX ?_); refine aN hM rfl rfl ?_; clear hM; intro g W hM))
      all_goals
       go_roundw
       case rel => exact ⟨k + 1, Vk, Bk, hlt, by go_num, by rw [HN.out, if_neg h1]; exact hide ⟨hOk.out.1, Nat.le_trans hOk.out.2 (by omega)⟩, by rw [HN.out, if_neg h1]; exact mem_tl hM⟩
       case measure => simp [intOf]; omega
  · have hke : k = es.length := by omega
    have HE := hide (show allW x.n d es = dk by rw [← hdk, hke, List.take_length])
    clear hdk
    go_wp2_with (first | ((with_reducible refine lX ?_); first | refine aL hM rfl rfl ?_ | refine aM hM rfl rfl ?_) | ((with_reducible refine sX ?_); refine aS hM rfl rfl rfl ?_; clear hM; intro W hM) | ((with_reducible refine bX ?_); refine aB hM rfl rfl ?_; clear hM; intro g W hM) | ((with_reducible refine zX ?_); refine aN hM rfl rfl ?_; clear hM; intro g W hM))
    all_goals
     have e2 : (paT rad d lx x).2 = dk := by rw [HP.out]; exact HE.out
     have e1 : (paT rad d lx x).1 = 0 := by rw [HP.out]
     (go_ret; exact ⟨by rw [e1]; rfl, Vk, Bk, by rw [e2]; exact ⟨hOk.out.1, Nat.le_trans hOk.out.2 (by omega)⟩, by rw [e2]; exact mem_tl (mem_tl (mem_tl hM))⟩)
end Go.Proofs.YtbhpklpkcgcmfaaGreatDoor
