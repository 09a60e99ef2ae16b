/-
  A turn that is flown by keeps what is wanted of a path that is drawn. No program.
-/
import Derived.Test.YteanfgobpjdmnaaGreatDoorMSeqR
import Derived.Test.YteanfgobpjdmnaaGreatDoorMTurnL
namespace Go.Proofs.YteanfgobpjdmnaaGreatDoor
set_option linter.unusedVariables false
set_option linter.unusedSimpArgs false
theorem Et {els : List El} {a b : El} {px py C px' py' C' : Int} (h : Good els px py C) (hl : xE els) (ha : a.c = true) (hb : b.c = true) (hw : Ek b px' py' C')
 (hp : Em a px' py' C' ∨ a.over b.bx b.b_y = true) : Good (els ++ [a] ++ [b]) px' py' C' := by
 refine ⟨fun t x y h1 h2 h3 h4 => ?_, fun t x z y h1 h2 h3 h4 h5 h6 => ?_, fun x h1 h2 => ?_, fun t x y h1 h2 h3 h4 h5 => ?_⟩
 · rcases za h2 with h2 | ⟨_, rfl⟩
   · rcases za h2 with h2 | ⟨_, rfl⟩
     · have := (List.getElem?_eq_some_iff.1 h2).1
       rcases za h1 with h1 | ⟨e, _⟩
       · rcases za h1 with h1 | ⟨e, _⟩
         · exact h.one t x y h1 h2 h3 h4
         · omega
       · rw [List.length_append, List.length_singleton] at e; omega
     · rw [ha] at h4; cases h4
   · rw [hb] at h4; cases h4
 · rcases za h3 with h3 | ⟨_, rfl⟩
   · rcases za h3 with h3 | ⟨_, rfl⟩
     · have := (List.getElem?_eq_some_iff.1 h3).1
       have l1 : (els ++ [a] ++ [b])[t]? = els[t]? := by rw [List.append_assoc, List.getElem?_append_left (by omega)]
       have l2 : (els ++ [a] ++ [b])[t + 1]? = els[t + 1]? := by rw [List.append_assoc, List.getElem?_append_left (by omega)]
       rw [l1] at h1
       rw [l2] at h2
       exact h.two t x z y h1 h2 h3 h4 h5 h6
     · rw [ha] at h6; cases h6
   · rw [hb] at h6; cases h6
 · rw [List.getLast?_concat] at h1
   injection h1 with h1
   subst h1
   exact hw
 · rw [List.length_append, List.length_append, List.length_singleton, List.length_singleton] at h3
   have l2 : (els ++ [a] ++ [b])[t + 1]? = some b := by rw [show t + 1 = (els ++ [a]).length by rw [List.length_append, List.length_singleton]; omega, List.getElem?_concat_length]
   have l1 : (els ++ [a] ++ [b])[t]? = some a := xe (by rw [show t = els.length by omega, List.getElem?_concat_length])
   rw [l1] at h1
   rw [l2] at h2
   injection h1 with h1
   injection h2 with h2
   subst h1 h2
   exact hp
theorem tiny {cx cy r f s : Int} (hB : yX cx cy r f s = true) (hr : 600 ≤ r) (h : ¬ 1 ≤ qA cx cy r f s) : r * (s.natAbs : Int) ≤ 10313240 ∧ (s.natAbs : Int) ≤ 17188 := by
 rw [uh hB, JK] at h
 have h0 : 0 ≤ r * (s.natAbs : Int) := Int.mul_nonneg (by omega) (by omega)
 have h1 := Int.mul_le_mul_of_nonneg_right hr (show (0 : Int) ≤ s.natAbs by omega)
 generalize r * (s.natAbs : Int) = z at *
 omega
theorem Eu {r s : Int} (hr : 600 ≤ r) (hh : r * ((s.natAbs : Int) / 2) ≤ 10313240) (hs : (s.natAbs : Int) ≤ 40000) : zT r s ≤ 1 := by
 have L := Zc (r := r) (d := s) (by omega) (by omega)
 obtain ⟨k, hk⟩ : ∃ k, (s.natAbs : Int) / 2 = k := ⟨_, rfl⟩
 rw [hk] at L hh
 have hc := cV (h := k) (by omega) (by omega)
 have hs := QS (a := k) (by omega) (by omega)
 have hq : yo k = kW k := by unfold yo; rw [if_pos (by omega)]
 have h53 := EV (a := k) (by omega) (by omega)
 rw [hs, hq] at L
 have h1 := Int.mul_le_mul_of_nonneg_left h53 (show (0 : Int) ≤ r by omega)
 have h2 : r * (53 * k) = 53 * (r * k) := by grind
 rcases Int.lt_or_le 1 (zT r s) with h | h
 · exfalso
   have h3 := Int.mul_le_mul (show (1 : Int) ≤ zT r s - 1 by omega) hc (by decide) (by omega)
   have := L.1
   generalize (zT r s - 1) * qX k = z1 at *
   generalize r * kW k = z2 at *
   generalize r * k = z3 at *
   omega
 · exact h
theorem Eh {X Y m : Int} (hY : norm Y = norm (X + m)) (hm : -40000 ≤ m ∧ m ≤ 40000) (h : zQ 1 (zg X 64800000) = zQ 1 Y) (h' : zR 1 (zg X 64800000) = zR 1 Y) : False := by
 have hs := Vy (a := zg X 64800000) (x := X) (by rw [jD]; unfold norm; omega)
 unfold zQ at h
 unfold zR at h'
 rw [hs.1, Int.one_mul, Int.one_mul, ve _ _ hY] at h
 rw [hs.2, Int.one_mul, Int.one_mul, kR _ _ hY] at h'
 have l := EZ (t := X) hm
 have r1 := zO (-qV X)
 have r2 := zO (qV (X + m))
 have r3 := zO (-qX X)
 have r4 := zO (qX (X + m))
 have u := iF X
 rw [h] at r1
 rw [h'] at r3
 have s1 := Yh (a := qV X) (m := 540000000) (by omega) (by omega)
 have s2 := Yh (a := qX X) (m := 540000000) (by omega) (by omega)
 generalize qV X * qV X = z1 at *
 generalize qX X * qX X = z2 at *
 omega
theorem Ei {a : El} {px py X qx qy Y m : Int} (h : Ek a px py X) (hY : norm Y = norm (X + m)) (hm : -40000 ≤ m ∧ m ≤ 40000) (hx : -2 ≤ qx - px ∧ qx - px ≤ 2) (hy : -2 ≤ qy - py ∧ qy - py ≤ 2) : Em a qx qy Y := by
 intro x y T hv h1 h2 h3
 refine h x y T hv h1 h2 ?_
 have l := EZ (t := X) hm
 unfold EQ at h3 ⊢
 rw [ve _ _ hY, kR _ _ hY] at h3
 obtain ⟨e1, he1⟩ : ∃ e, e = qV (X + m) - qV X := ⟨_, rfl⟩
 obtain ⟨e2, he2⟩ : ∃ e, e = qX (X + m) - qX X := ⟨_, rfl⟩
 rw [show qV (X + m) = qV X + e1 by omega, show qX (X + m) = qX X + e2 by omega] at h3
 have m1 := zj (x := T) (X := T) (v := e1) (V := 3360000) ⟨by omega, by omega⟩ (by omega)
 have m2 := zj (x := T) (X := T) (v := e2) (V := 3360000) ⟨by omega, by omega⟩ (by omega)
 rw [Int.mul_add, Int.mul_add] at h3
 generalize T * qV X = z1 at *
 generalize T * qX X = z2 at *
 generalize T * e1 = z3 at *
 generalize T * e2 = z4 at *
 omega
theorem AZ {e : El} {g Y px py : Int} (hc : e.c = true) (va : qf e.ax e.ay = true) (vb : qf e.bx e.b_y = true) (hB : yX e.cx e.cy e.r e.f e.s = true) (hr : 300 ≤ e.r) (hg : (0 ≤ e.s ∧ g = 1) ∨ (e.s < 0 ∧ g = -1)) (hs : (e.s.natAbs : Int) ≤ 28000000)
 (hY : norm Y = norm (e.f + e.s + g * 32400000)) (hp : Ends (e.cx + zQ e.r (e.f + e.s)) (e.cy + zR e.r (e.f + e.s)) px py) : Ek e px py Y := by
 intro qx qy T vq h1 h2 h3
 have hb := (vF _ _ _ _ _).1 hB
 unfold Ends at hp
 obtain ⟨hne, d, hd, d0, d1⟩ := Ar (m := 0) (g := g) (C := Y) (px := px) (py := py) (r := e.r) (t := e.f + e.s) hr (by omega) (by omega) hb.1 vq (by omega) (by rw [Int.add_zero]; exact hY) (by decide) h1 h2 (by have := h3.1; omega) (by have := h3.2; omega)
 refine Aq (a := (e.s.natAbs : Int) + d) hc va vb vq hB hne ?_ hg (by omega) (by omega)
 rw [← hd]
 rcases hg with ⟨hg, rfl⟩ | ⟨hg, rfl⟩
 · rw [show e.f + 1 * ((e.s.natAbs : Int) + d) = e.f + e.s + 1 * d by omega]
 · rw [show e.f + -1 * ((e.s.natAbs : Int) + d) = e.f + e.s + -1 * d by omega]
theorem EM {e : El} {g Y px py s : Int} (hc : e.c = true) (va : qf e.ax e.ay = true) (vb : qf e.bx e.b_y = true) (hB : yX e.cx e.cy e.r e.f e.s = true) (hr : 600 ≤ e.r) (hg : (0 ≤ e.s ∧ g = 1 ∧ 0 ≤ s) ∨ (e.s < 0 ∧ g = -1 ∧ s < 0)) (hs : (s.natAbs : Int) ≤ 54000000)
 (hh : 2 * (e.s.natAbs : Int) ≤ s.natAbs ∧ (s.natAbs : Int) ≤ 2 * (e.s.natAbs : Int) + 1) (vp : qf px py = true)
 (hY : norm Y = norm (e.f + s + g * 32400000)) (hp : Ends (e.cx + zQ e.r (e.f + s)) (e.cy + zR e.r (e.f + s)) px py) : Em e px py Y ∨ e.over px py = true := by
 have hb := (vF _ _ _ _ _).1 hB
 unfold Ends at hp
 by_cases hbig : (s.natAbs : Int) ≤ 36000000
 · left
   intro qx qy T vq h1 h2 h3
   obtain ⟨hne, d, hd, d0, d1⟩ := Ar (m := 0) (g := g) (C := Y) (px := px) (py := py) (r := e.r) (t := e.f + s) (by omega) (by omega) (by omega) hb.1 vq (by omega) (by rw [Int.add_zero]; exact hY) (by decide) h1 h2 (by have := h3.1; omega) (by have := h3.2; omega)
   refine Aq (g := g) (a := (s.natAbs : Int) + d) hc va vb vq hB hne ?_ (by omega) (by omega) (by omega)
   rw [← hd]
   rcases hg with ⟨hg, rfl, h⟩ | ⟨hg, rfl, h⟩
   · rw [show e.f + 1 * ((s.natAbs : Int) + d) = e.f + s + 1 * d by omega]
   · rw [show e.f + -1 * ((s.natAbs : Int) + d) = e.f + s + -1 * d by omega]
 · right
   have hne : ¬ (e.cx = px ∧ e.cy = py) := by
    rintro ⟨h1, h2⟩
    have r1 := zO (e.r * qV (e.f + s))
    have r2 := zO (e.r * qX (e.f + s))
    have u := iF (e.f + s)
    have b1 : zQ e.r (e.f + s) = jG 2 (e.r * qV (e.f + s)) 1073741824 := rfl
    have b2 : zR e.r (e.f + s) = jG 2 (e.r * qX (e.f + s)) 1073741824 := rfl
    rw [← b1] at r1
    rw [← b2] at r2
    have c1 : -20000000000 ≤ e.r * qV (e.f + s) ∧ e.r * qV (e.f + s) ≤ 20000000000 := by omega
    have c2 : -20000000000 ≤ e.r * qX (e.f + s) ∧ e.r * qX (e.f + s) ≤ 20000000000 := by omega
    have k : ∀ S : Int, -20000000000 ≤ e.r * S ∧ e.r * S ≤ 20000000000 → -40000000 ≤ S ∧ S ≤ 40000000 := by
     intro S hS
     constructor
     · rcases Int.lt_or_le S (-40000000) with h | h
       · have := Int.mul_le_mul_of_nonneg_left (show S ≤ -40000001 by omega) (show (0 : Int) ≤ e.r by omega)
         omega
       · exact h
     · rcases Int.lt_or_le 40000000 S with h | h
       · have := Int.mul_le_mul_of_nonneg_left (show 40000001 ≤ S by omega) (show (0 : Int) ≤ e.r by omega)
         omega
       · exact h
    have k1 := k _ c1
    have k2 := k _ c2
    have q1 := Yh k1.1 k1.2
    have q2 := Yh k2.1 k2.2
    omega
   have hd : qJ e.cx e.cy px py ≠ 0 := fun h => by
    have z := KJ hb.1 vp (by omega)
    exact hne ⟨z.1.symm, z.2.symm⟩
   obtain ⟨a0, a1, a2, a3, a4⟩ := YE hb.1 vp hd
   obtain ⟨wx, hwx⟩ : ∃ wx, wx = px - e.cx - zQ e.r (e.f + s) := ⟨_, rfl⟩
   obtain ⟨wy, hwy⟩ : ∃ wy, wy = py - e.cy - zR e.r (e.f + s) := ⟨_, rfl⟩
   obtain ⟨d, hd, d1, d2⟩ := EA a0 a3 a4 a1 a2 (show px - e.cx = zQ e.r (e.f + s) + wx by omega) (show py - e.cy = zR e.r (e.f + s) + wy by omega) hr (by omega) (by omega) (by omega)
   refine Aq (g := g) (a := (s.natAbs : Int) + g * d) hc va vb vp hB hne ?_ (by omega) (by rcases hg with ⟨_, rfl, _⟩ | ⟨_, rfl, _⟩ <;> omega) (by rcases hg with ⟨_, rfl, _⟩ | ⟨_, rfl, _⟩ <;> omega)
   rw [← hd]
   rcases hg with ⟨hg, rfl, h⟩ | ⟨hg, rfl, h⟩
   · rw [show e.f + 1 * ((s.natAbs : Int) + 1 * d) = e.f + s + d by omega]
   · rw [show e.f + -1 * ((s.natAbs : Int) + -1 * d) = e.f + s + d by omega]
theorem Am {d : Dw} {qx qy n C C' : Int} (h : CO d.els d.px d.py C) (vp : qf d.px d.py = true) (vq : qf qx qy = true) (hT : ∃ T, 0 ≤ T ∧ T ≤ 6000000 ∧ EQ d.px d.py C qx qy T 5 0) (hne : ¬ (d.px = qx ∧ d.py = qy)) :
 CO (zJ d qx qy n).els qx qy C' ∧ xE (zJ d qx qy n).els ∧ (zJ d qx qy n).els ≠ [] := by
 unfold zJ
 rw [if_neg hne]
 obtain ⟨x, hx⟩ : ∃ x : El, x = { (⟨false, d.px, d.py, qx, qy, 0, 0, 0, 0, 0, qJ d.px d.py qx qy, n, false⟩ : El) with g := d.gp } := ⟨_, rfl⟩
 have e : (ur d ⟨false, d.px, d.py, qx, qy, 0, 0, 0, 0, 0, qJ d.px d.py qx qy, n, false⟩).els = d.els ++ [x] := by rw [hx]; rfl
 rw [e]
 have xc : x.c = false := by rw [hx]
 have xL : x.L = qJ d.px d.py qx qy := by rw [hx]
 have xb : x.bx = qx ∧ x.b_y = qy := by rw [hx]; exact ⟨rfl, rfl⟩
 refine ⟨?_, fun a ha => by rw [List.getLast?_concat] at ha; injection ha with ha; rw [← ha]; exact xc, by simp⟩
 rcases h with h | h
 · exact .inl (wz h)
 by_cases h0 : d.els = []
 · right
   refine Af h xc (fun a ha => by rw [h0] at ha; simp at ha) (fun t a b h1 => by rw [h0] at h1; simp at h1)
 have hlen : 1 ≤ d.els.length := by
  rcases Nat.eq_zero_or_pos d.els.length with h | h
  · exact absurd (List.length_eq_zero_iff.1 h) h0
  · exact h
 by_cases hL : qJ d.px d.py qx qy < 100
 · exact .inl (.inl ⟨d.els.length, x, hlen, List.getElem?_concat_length, xc, by rw [xL]; exact hL⟩)
 · obtain ⟨T, t0, t6, hO⟩ := hT
   have h92 := EF vp vq t0 hO (by omega)
   right
   refine Af h xc (fun a ha hc => ?_) (fun t a b h1 h2 h3 h4 h5 => ?_)
   · rw [xb.1, xb.2]
     exact Lc (h.last a ha hc) qx qy T vq h92 t6 hO
   · rw [xb.1, xb.2]
     rcases h.pair t a b h1 h2 h3 h4 h5 with h | h
     · exact .inl (h qx qy T vq h92 t6 hO)
     · exact .inr h
theorem Ej {d : Dw} {qx qy n C C' : Int} (h : CO d.els d.px d.py C) (hl : xE d.els) :
 CO (zJ d qx qy n).els qx qy C' ∧ xE (zJ d qx qy n).els := by
 unfold zJ
 split
 · refine ⟨?_, hl⟩
   rcases h with h | h
   · exact .inl h
   · exact .inr (Aj h hl)
 obtain ⟨x, hx⟩ : ∃ x : El, x = { (⟨false, d.px, d.py, qx, qy, 0, 0, 0, 0, 0, qJ d.px d.py qx qy, n, false⟩ : El) with g := d.gp } := ⟨_, rfl⟩
 have e : (ur d ⟨false, d.px, d.py, qx, qy, 0, 0, 0, 0, 0, qJ d.px d.py qx qy, n, false⟩).els = d.els ++ [x] := by rw [hx]; rfl
 rw [e]
 have xc : x.c = false := by rw [hx]
 refine ⟨?_, fun a ha => by rw [List.getLast?_concat] at ha; injection ha with ha; rw [← ha]; exact xc⟩
 rcases h with h | h
 · exact .inl (wz h)
 · right
   refine Af h xc (fun a ha hc => by have := hl a ha; rw [hc] at this; cases this) (fun t a b h1 h2 h3 h4 h5 => by have := hl b (MY h2 (by omega)); rw [h5] at this; cases this)
theorem Ae {d : Dw} {qx qy n : Int} (h0 : d.els ≠ []) (hne : ¬ (d.px = qx ∧ d.py = qy)) (hL : qJ d.px d.py qx qy < 100) : AQ (zJ d qx qy n).els := by
 unfold zJ
 rw [if_neg hne]
 refine .inl ⟨d.els.length, { (⟨false, d.px, d.py, qx, qy, 0, 0, 0, 0, 0, qJ d.px d.py qx qy, n, false⟩ : El) with g := d.gp }, ?_, ?_, rfl, hL⟩
 · rcases Nat.eq_zero_or_pos d.els.length with h | h
   · exact absurd (List.length_eq_zero_iff.1 h) h0
   · exact h
 · exact List.getElem?_concat_length
theorem Ao {d : Dw} {qx qy n : Int} (h : AQ d.els) : AQ (zJ d qx qy n).els := by
 unfold zJ
 split
 · exact h
 · exact wz h
theorem Ew {d : Dw} {cx cy r f s qx qy n : Int} (h : AQ d.els) : AQ (yu d cx cy r f s qx qy n).els := by
 unfold yu
 split
 · exact wz h
 · exact Ao h
set_option maxHeartbeats 2000000 in
theorem La {d : Dw} {xn yn ax ay bx b_y cx cy r v0 v1 v2 v3 v4 v5 v6 v7 v8 v9 : Int} (h : vV ax ay bx b_y cx cy r = ([v0, v1, v2, v3, v4, v5, v6, v7, v8, v9], 0))
 (hm : (qI v0 v1 v2 v3 (v4.tdiv 2) (qA v0 v1 v2 v3 (v4.tdiv 2))).2.2.2 = 0) (hr : 600 ≤ r) (hl : v9 ≠ 0) (hne : d.els ≠ []) (hpen : d.px = v5 ∧ d.py = v6) (hi : CO d.els v5 v6 (qZ (bx - ax) (b_y - ay))) :
 CO (yu (yu d v0 v1 v2 v3 (v4.tdiv 2) (qI v0 v1 v2 v3 (v4.tdiv 2) (qA v0 v1 v2 v3 (v4.tdiv 2))).1 (qI v0 v1 v2 v3 (v4.tdiv 2) (qA v0 v1 v2 v3 (v4.tdiv 2))).2.1 xn) v0 v1 v2 (norm (v3 + v4.tdiv 2)) (v4 - v4.tdiv 2) v7 v8 yn).els v7 v8 (qZ (cx - bx) (cy - b_y)) ∧
 (yu (yu d v0 v1 v2 v3 (v4.tdiv 2) (qI v0 v1 v2 v3 (v4.tdiv 2) (qA v0 v1 v2 v3 (v4.tdiv 2))).1 (qI v0 v1 v2 v3 (v4.tdiv 2) (qA v0 v1 v2 v3 (v4.tdiv 2))).2.1 xn) v0 v1 v2 (norm (v3 + v4.tdiv 2)) (v4 - v4.tdiv 2) v7 v8 yn).els ≠ [] := by
 have hB := WT h
 have S := SB h hm
 obtain ⟨g, hg, nY, nX, hE, e9, er⟩ := Ec h
 obtain ⟨⟨w1, w2, w3⟩, n1, n2, hr8, X, Y, l, hX, hY, hl', hD, l1, l2, e5, e6, e7, e8, e0, e1, e3, k1, k2⟩ := Sl h
 subst er
 clear h e0 e1 e3 w1 w2 w3 n1 n2
 rw [← hX] at nX hi
 rw [← hY] at nY ⊢
 obtain ⟨b1, b2, b3, b4, b5, b6, b7⟩ := (vF _ _ _ _ _).1 hB
 have vm := Fz hm
 have hh := mg v4
 generalize hs1 : v4.tdiv 2 = s1 at *
 have hB1 : yX v0 v1 v2 v3 s1 = true := (vF _ _ _ _ _).2 ⟨b1, b2, b3, b4, b5, by omega, by omega⟩
 have nb := zM (v3 + s1)
 have hB2 : yX v0 v1 v2 (norm (v3 + s1)) (v4 - s1) = true := (vF _ _ _ _ _).2 ⟨b1, b2, b3, nb.1, nb.2, by omega, by omega⟩
 have nXY : norm Y = norm (X + v4) := by unfold norm at *; omega
 generalize (qI v0 v1 v2 v3 s1 (qA v0 v1 v2 v3 s1)).1 = mx at *
 generalize (qI v0 v1 v2 v3 s1 (qA v0 v1 v2 v3 s1)).2.1 = my at *
 have l0 : l ≠ 0 := by rw [hl', ← e9]; exact hl
 -- small turns
 have small : ¬ 1 ≤ qA v0 v1 v2 v3 s1 → (v4.natAbs : Int) ≤ 40000 ∧ l = 1 := fun hn => by
  have t := tiny hB1 hr hn
  have t2 : (v4.natAbs : Int) / 2 = s1.natAbs := by omega
  have := Eu (s := v4) hr (by rw [t2]; exact t.1) (by omega)
  have L := (Zc (r := v2) (d := v4) (by omega) (by omega)).2.2
  exact ⟨by omega, by omega⟩
 have near : l = 1 → (-2 ≤ v7 - v5 ∧ v7 - v5 ≤ 2) ∧ (-2 ≤ v8 - v6 ∧ v8 - v6 ≤ 2) := fun hl1 => by
  have x5 := Si (u := v5 - bx) (l := l) (by omega) (kJ (zg X 64800000)) (by unfold zQ at e5; omega)
  have x6 := Si (u := v6 - b_y) (l := l) (by omega) (uj (zg X 64800000)) (by unfold zR at e6; omega)
  have x7 := Si (u := v7 - bx) (l := l) (by omega) (kJ Y) (by unfold zQ at e7; omega)
  have x8 := Si (u := v8 - b_y) (l := l) (by omega) (uj Y) (by unfold zR at e8; omega)
  omega
 by_cases q2 : 1 ≤ qA v0 v1 v2 (norm (v3 + s1)) (v4 - s1)
 · have s0 : v4 ≠ 0 := fun h0 => by
    have z : v4 - s1 = 0 := by omega
    rw [uh hB2, z, JK] at q2
    simp at q2
   have hgb : (0 ≤ v4 - s1 ∧ g = 1) ∨ (v4 - s1 < 0 ∧ g = -1) := by omega
   by_cases q1 : 1 ≤ qA v0 v1 v2 v3 s1
   · -- both halves
     have gp2 : (yu d v0 v1 v2 v3 s1 mx my xn).px = mx ∧ (yu d v0 v1 v2 v3 s1 mx my xn).py = my := lG _ _ _ _ _ _ _ _ _
     obtain ⟨a, ha⟩ : ∃ a : El, a = { (⟨true, d.px, d.py, mx, my, v0, v1, v2, v3, s1, qA v0 v1 v2 v3 s1, xn, false⟩ : El) with g := d.gp } := ⟨_, rfl⟩
     obtain ⟨b, hb⟩ : ∃ b : El, b = (⟨true, mx, my, v7, v8, v0, v1, v2, norm (v3 + s1), v4 - s1, qA v0 v1 v2 (norm (v3 + s1)) (v4 - s1), yn, false⟩ : El) := ⟨_, rfl⟩
     have e : (yu (yu d v0 v1 v2 v3 s1 mx my xn) v0 v1 v2 (norm (v3 + s1)) (v4 - s1) v7 v8 yn).els = d.els ++ [a] ++ [b] := by
      unfold yu
      rw [if_pos q2, if_pos q1, ha, hb]
      rfl
     rw [e]
     refine ⟨?_, by simp⟩
     rcases hi with hi | hi
     · exact .inl (wz (wz hi))
     by_cases hll : xE d.els
     · right
       refine Et hi hll (by rw [ha]) (by rw [hb]) ?_ ?_
       · subst hb
         refine AZ (g := g) rfl vm k2 hB2 (by show 300 ≤ v2; omega) hgb (by show ((v4 - s1).natAbs : Int) ≤ 28000000; omega) ?_ ?_
         · show norm Y = norm (norm (v3 + s1) + (v4 - s1) + g * 32400000)
           rw [nY]
           unfold norm
           omega
         · show Ends (v0 + zQ v2 (norm (v3 + s1) + (v4 - s1))) (v1 + zR v2 (norm (v3 + s1) + (v4 - s1))) v7 v8
           have er := bW (r := v2) (a := norm (v3 + s1) + (v4 - s1)) (b := v3 + v4) (by unfold norm; omega)
           rw [er.1, er.2]
           exact hE
       · have hbb : b.bx = v7 ∧ b.b_y = v8 := by rw [hb]; exact ⟨rfl, rfl⟩
         rw [hbb.1, hbb.2]
         have sz : s1 ≠ 0 := fun z => by
          rw [uh hB1, z, JK] at q1
          simp at q1
         subst ha
         refine EM (e := { (⟨true, d.px, d.py, mx, my, v0, v1, v2, v3, s1, qA v0 v1 v2 v3 s1, xn, false⟩ : El) with g := d.gp }) (g := g) (s := v4) rfl ?_ vm hB1 hr ?_ (by omega) ?_ k2 nY hE
         · show qf d.px d.py = true
           rw [hpen.1, hpen.2]
           exact k1
         · show (0 ≤ s1 ∧ g = 1 ∧ 0 ≤ v4) ∨ (s1 < 0 ∧ g = -1 ∧ v4 < 0)
           omega
         · show 2 * (s1.natAbs : Int) ≤ v4.natAbs ∧ (v4.natAbs : Int) ≤ 2 * (s1.natAbs : Int) + 1
           omega
     · left
       have : ∃ z, d.els.getLast? = some z ∧ z.c = true := by
        apply Classical.byContradiction
        intro hno
        exact hll fun z hz => by
         rcases hzc : z.c with _ | _
         · rfl
         · exact absurd ⟨z, hz, hzc⟩ hno
       obtain ⟨z, hz, hzc⟩ := this
       exact Eo hz hzc (by rw [ha]) (by rw [hb])
   · -- the second half alone
     obtain ⟨t1, t2⟩ := small q1
     have e2 : yu d v0 v1 v2 v3 s1 mx my xn = zJ d mx my xn := by unfold yu; rw [if_neg q1]
     rw [e2]
     by_cases hmid : d.px = mx ∧ d.py = my
     · have e3 : zJ d mx my xn = d := by unfold zJ; rw [if_pos hmid]
       rw [e3]
       obtain ⟨b, hb⟩ : ∃ b : El, b = { (⟨true, d.px, d.py, v7, v8, v0, v1, v2, norm (v3 + s1), v4 - s1, qA v0 v1 v2 (norm (v3 + s1)) (v4 - s1), yn, false⟩ : El) with g := d.gp } := ⟨_, rfl⟩
       have e : (yu d v0 v1 v2 (norm (v3 + s1)) (v4 - s1) v7 v8 yn).els = d.els ++ [b] := by
        unfold yu
        rw [if_pos q2, hb]
        rfl
       rw [e]
       refine ⟨?_, by simp⟩
       rcases hi with hi | hi
       · exact .inl (wz hi)
       right
       refine EE hi (by rw [hb]) ?_ (fun a ha hac => .inl ?_)
       · subst hb
         refine AZ (g := g) rfl (by show qf d.px d.py = true; rw [hpen.1, hpen.2]; exact k1) k2 hB2 (by show 300 ≤ v2; omega) hgb (by show ((v4 - s1).natAbs : Int) ≤ 28000000; omega) ?_ ?_
         · show norm Y = norm (norm (v3 + s1) + (v4 - s1) + g * 32400000)
           rw [nY]
           unfold norm
           omega
         · show Ends (v0 + zQ v2 (norm (v3 + s1) + (v4 - s1))) (v1 + zR v2 (norm (v3 + s1) + (v4 - s1))) v7 v8
           have er := bW (r := v2) (a := norm (v3 + s1) + (v4 - s1)) (b := v3 + v4) (by unfold norm; omega)
           rw [er.1, er.2]
           exact hE
       · have nr := near t2
         exact Ei (hi.last a ha hac) nXY (by omega) (by omega) (by omega)
     · have hbd : AQ (zJ d mx my xn).els := Ae hne hmid (by rw [hpen.1, hpen.2]; have := S.1 q1; omega)
       refine ⟨.inl (Ew hbd), ?_⟩
       unfold yu
       rw [if_pos q2]
       unfold ur
       simp
 · -- no half
   have q1 : ¬ 1 ≤ qA v0 v1 v2 v3 s1 := by
    rw [uh hB1, JK]
    rw [uh hB2, JK] at q2
    have : v2 * (s1.natAbs : Int) ≤ v2 * ((v4 - s1).natAbs : Int) := Int.mul_le_mul_of_nonneg_left (by omega) (by omega)
    clear S hE small near
    omega
   obtain ⟨t1, t2⟩ := small q1
   have e2 : yu d v0 v1 v2 v3 s1 mx my xn = zJ d mx my xn := by unfold yu; rw [if_neg q1]
   have e3 : yu (zJ d mx my xn) v0 v1 v2 (norm (v3 + s1)) (v4 - s1) v7 v8 yn = zJ (zJ d mx my xn) v7 v8 yn := by unfold yu; rw [if_neg q2]
   rw [e2, e3]
   have hbad : AQ (zJ (zJ d mx my xn) v7 v8 yn).els := by
    by_cases hmid : d.px = mx ∧ d.py = my
    · have e4 : zJ d mx my xn = d := by unfold zJ; rw [if_pos hmid]
      rw [e4]
      refine Ae hne ?_ ?_
      · rintro ⟨z1, z2⟩
        rw [t2] at e5 e6 e7 e8
        exact Eh (X := X) (Y := Y) (m := v4) nXY (by omega) (by omega) (by omega)
      · have := S.2 q2
        rw [hmid.1, hmid.2]
        omega
    · exact Ao (Ae hne hmid (by rw [hpen.1, hpen.2]; have := S.1 q1; omega))
   refine ⟨.inl hbad, fun h0 => ?_⟩
   rw [h0] at hbad
   rcases hbad with ⟨i, x, _, h2, _⟩ | ⟨i, a, b, c, h2, _⟩
   · simp at h2
   · simp at h2
structure EW (t : Tk) : Prop where
 k : t.k = 1
 g : t.g = false
 v : ra t
 len : t.len = fP t.ax t.ay t.bx t.b_y
def AG : List Tk → Prop
 | [] => True
 | x :: r => (∀ y, r.head? = some y → y.ax = x.bx ∧ y.ay = x.b_y) ∧ AG r
def zm (t : Tk) : Int := qZ (t.bx - t.ax) (t.b_y - t.ay)
theorem Ea {ax ay bx b_y l1 l2 px py qx qy : Int} (va : qf ax ay = true) (vb : qf bx b_y = true) (hne : qJ ax ay bx b_y ≠ 0)
 (hpx : -536870912 ≤ 1073741824 * (px - ax) - l1 * qV (qZ (bx - ax) (b_y - ay)) ∧ 1073741824 * (px - ax) - l1 * qV (qZ (bx - ax) (b_y - ay)) ≤ 536870912)
 (hpy : -536870912 ≤ 1073741824 * (py - ay) - l1 * qX (qZ (bx - ax) (b_y - ay)) ∧ 1073741824 * (py - ay) - l1 * qX (qZ (bx - ax) (b_y - ay)) ≤ 536870912)
 (hqx : -536870912 ≤ 1073741824 * (qx - bx) + l2 * qV (qZ (bx - ax) (b_y - ay)) ∧ 1073741824 * (qx - bx) + l2 * qV (qZ (bx - ax) (b_y - ay)) ≤ 536870912)
 (hqy : -536870912 ≤ 1073741824 * (qy - b_y) + l2 * qX (qZ (bx - ax) (b_y - ay)) ∧ 1073741824 * (qy - b_y) + l2 * qX (qZ (bx - ax) (b_y - ay)) ≤ 536870912) :
 EQ px py (qZ (bx - ax) (b_y - ay)) qx qy (qJ ax ay bx b_y - l1 - l2) 5 0 := by
 obtain ⟨a0, a1, a2, a3, a4⟩ := YE va vb hne
 have A := Rx a0 a3 a4 a1 a2
 unfold EQ
 generalize qZ (bx - ax) (b_y - ay) = X at *
 generalize qV X = S at *
 generalize qX X = K at *
 have e1 : (qJ ax ay bx b_y - l1 - l2) * S = qJ ax ay bx b_y * S - l1 * S - l2 * S := by grind
 have e2 : (qJ ax ay bx b_y - l1 - l2) * K = qJ ax ay bx b_y * K - l1 * K - l2 * K := by grind
 rw [e1, e2]
 clear a0 a3 a4
 generalize qJ ax ay bx b_y * S = z1 at *
 generalize qJ ax ay bx b_y * K = z2 at *
 generalize l1 * S = z3 at *
 generalize l1 * K = z4 at *
 generalize l2 * S = z5 at *
 generalize l2 * K = z6 at *
 omega
theorem Eb {ax ay bx b_y l u v : Int} (va : qf ax ay = true) (vb : qf bx b_y = true) (h1 : 1 ≤ l) (h2 : 2 * l ≤ qJ ax ay bx b_y) (hu : -l ≤ u ∧ u ≤ l) (hv : -l ≤ v ∧ v ≤ l) : ¬ (bx - ax = u ∧ b_y - ay = v) := by
 rintro ⟨e1, e2⟩
 obtain ⟨a0, a1, a2, a3, a4⟩ := YE va vb (by omega)
 rw [e1, e2] at a3
 have s1 := Yh hu.1 hu.2
 have s2 := Yh hv.1 hv.2
 have s3 : 2 * l * (2 * l) ≤ qJ ax ay bx b_y * qJ ax ay bx b_y := Int.mul_le_mul h2 h2 (by omega) (by omega)
 have s4 : 2 * l * (2 * l) = 4 * (l * l) := by grind
 have s5 : 1 * 1 ≤ l * l := Int.mul_le_mul h1 h1 (by decide) (by omega)
 generalize l * l = z at *
 generalize u * u = z1 at *
 generalize v * v = z2 at *
 generalize qJ ax ay bx b_y * qJ ax ay bx b_y = z3 at *
 omega
theorem Lb (a : Int) : zQ 0 a = 0 ∧ zR 0 a = 0 := by
 unfold zQ zR
 rw [Int.zero_mul, Int.zero_mul]
 exact ⟨cW _ (by decide), cW _ (by decide)⟩
structure EY (d : Dw) (x : Tk) (done : Bool) : Prop where
 v : qf d.px d.py = true
 at0 : done = false → d.px = x.ax ∧ d.py = x.ay ∧ xE d.els
 at1 : done = true → d.els ≠ [] ∧ ∃ l, 1 ≤ l ∧ 2 * l ≤ x.len ∧ d.px = x.ax + zQ l (zm x) ∧ d.py = x.ay + zR l (zm x)
 inv : CO d.els d.px d.py (zm x)
theorem AJ {x : Tk} (h : EW x) (hl : 1 ≤ x.len) : ¬ (x.ax = x.bx ∧ x.ay = x.b_y) ∧ x.len = qJ x.ax x.ay x.bx x.b_y := by
 have e := h.len
 unfold fP at e
 split at e
 · omega
 · rename_i h1; exact ⟨h1, e⟩
theorem EY.num {d : Dw} {x : Tk} {done : Bool} (h : EY d x done) (hx : EW x) : ∃ l, 0 ≤ l ∧ (l = 0 ∨ 2 * l ≤ x.len) ∧ (d.px = x.ax + zQ l (zm x) ∧ d.py = x.ay + zR l (zm x)) ∧ (l = 0 ∨ d.els ≠ []) ∧ (l = 0 → xE d.els) ∧ (1 ≤ l → done = true) ∧ (done = true → 1 ≤ l) := by
 rcases hd : done with _ | _
 · obtain ⟨h1, h2, h3⟩ := h.at0 hd
   have r := Lb (zm x)
   exact ⟨0, by decide, .inl rfl, ⟨by rw [r.1]; omega, by rw [r.2]; omega⟩, .inl rfl, fun _ => h3, (fun h => by omega), fun h => by cases h⟩
 · obtain ⟨h0, l, h1, h2, h3, h4⟩ := h.at1 hd
   exact ⟨l, by omega, .inr h2, ⟨h3, h4⟩, .inr h0, (fun h => by omega), fun _ => rfl, fun _ => h1⟩
theorem Ex {d : Dw} {x : Tk} {done : Bool} {n : Int} (h : EY d x done) (hx : EW x) (C : Int) : CO (zJ d x.bx x.b_y n).els x.bx x.b_y C ∧ xE (zJ d x.bx x.b_y n).els := by
 obtain ⟨l, l0, l2, ⟨p1, p2⟩, le, ll, _, hdl⟩ := h.num hx
 by_cases hp : d.px = x.bx ∧ d.py = x.b_y
 · have e : zJ d x.bx x.b_y n = d := by unfold zJ; rw [if_pos hp]
   rw [e]
   have hl : l = 0 := by
    rcases Int.lt_or_le l 1 with h1 | h1
    · omega
    · exfalso
      have hlen := AJ hx (by omega)
      have x1 := Si (u := zQ l (zm x)) l0 (kJ (zm x)) rfl
      have x2 := Si (u := zR l (zm x)) l0 (uj (zm x)) rfl
      exact Eb hx.v.1 hx.v.2 h1 (by omega) x1 x2 ⟨by omega, by omega⟩
   have hll := ll hl
   refine ⟨?_, hll⟩
   rcases h.inv with hi | hi
   · exact .inl hi
   · exact .inr (Aj hi hll)
 · by_cases hab : x.ax = x.bx ∧ x.ay = x.b_y
   · -- a track without length: the pen would stand at its end
     exfalso
     have hlen : x.len = 0 := by have := hx.len; unfold fP at this; rw [if_pos hab] at this; exact this
     have hl : l = 0 := by omega
     subst hl
     have r := Lb (zm x)
     exact hp ⟨by omega, by omega⟩
   · have hd0 : qJ x.ax x.ay x.bx x.b_y ≠ 0 := Su hx.v.1 hx.v.2 hab
     have hlen : x.len = qJ x.ax x.ay x.bx x.b_y := by have := hx.len; unfold fP at this; rw [if_neg hab] at this; exact this
     have t1 := Sc l (qV (zm x)) (d.px - x.ax) (by have : zQ l (zm x) = jG 2 (l * qV (zm x)) 1073741824 := rfl; omega)
     have t2 := Sc l (qX (zm x)) (d.py - x.ay) (by have : zR l (zm x) = jG 2 (l * qX (zm x)) 1073741824 := rfl; omega)
     have O := Ea (l1 := l) (l2 := 0) (px := d.px) (py := d.py) (qx := x.bx) (qy := x.b_y) hx.v.1 hx.v.2 hd0 t1 t2 (by rw [Int.zero_mul]; omega) (by rw [Int.zero_mul]; omega)
     have bd := kh x.ax x.ay x.bx x.b_y
     have I := Am (n := n) (C' := C) h.inv h.v hx.v.2 ⟨_, by omega, by omega, O⟩ hp
     exact ⟨I.1, I.2.1⟩
set_option maxHeartbeats 2000000 in
theorem Lf {rad : Int} {d d' : Dw} {x y : Tk} {done : Bool} (hrad : 600 ≤ rad) (h : EY d x done) (hx : EW x) (hy : EW y) (hc : y.ax = x.bx ∧ y.ay = x.b_y) (hlx : 1 ≤ x.len) (hly : 1 ≤ y.len) (hd : Kw rad d x y = some d') : EY d' y true := by
 obtain ⟨l, l0, l2, ⟨p1, p2⟩, le, ll, hl1, _⟩ := h.num hx
 obtain ⟨nx, ex⟩ := AJ hx hlx
 obtain ⟨ny, ey⟩ := AJ hy hly
 unfold Kw at hd
 split at hd
 · cases hd
 rename_i r hr0
 have hr : 600 ≤ r := by
  unfold gW at hr0
  split at hr0
  · cases hr0
  split at hr0
  · split at hr0
    · cases hr0
    · injection hr0 with hr0; omega
  · injection hr0 with hr0; omega
 clear hr0
 split at hd
 · cases hd
 rename_i h1
 obtain ⟨F, e, hF⟩ : ∃ F e, vV x.ax x.ay x.bx x.b_y y.bx y.b_y r = (F, e) := ⟨_, _, rfl⟩
 rw [hF] at hd h1
 have he : e = 0 := Classical.byContradiction fun hn => h1 (.inl hn)
 subst he
 obtain ⟨p, q, u, f, s, sx, sy, eex, eey, k, rfl, v1, v2⟩ := PX hF
 have hk0 : k ≠ 0 := fun hk => h1 (.inr (.inl (by simpa using hk)))
 have hk1 : k ≤ US x y := by
  rcases Int.lt_or_le (US x y) k with hlt | hle
  · exact absurd (.inr (.inr (by simpa using hlt))) h1
  · exact hle
 unfold vk at hd
 dsimp only at hd
 split at hd
 · cases hd
 rename_i hm
 injection hd with hd
 have hm := Classical.not_not.1 hm
 have P := Sl hF
 obtain ⟨g, hg, nY, nX, hE, e9, er⟩ := Ec hF
 obtain ⟨⟨w1, w2, w3⟩, n1, n2, hr8, X, Y, L, hX, hY, hL, hD, b1, b2, e5, e6, e7, e8, _, _, _, k1, k2⟩ := P
 have hkL : k = L := by rw [e9, hL]
 have eX : X = zm x := by rw [hX]; rfl
 have eY : Y = zm y := by rw [hY]; unfold zm; rw [hc.1, hc.2]
 have hL0 := (Zc (r := u) (d := s) (by omega) hD).2.2
 have hlim : 2 * L ≤ x.len ∧ 2 * L ≤ y.len := by
  unfold US at hk1
  rw [Int.tdiv_eq_ediv_of_nonneg (by omega), Int.tdiv_eq_ediv_of_nonneg (by omega)] at hk1
  omega
 have hL1 : 1 ≤ L := by omega
 have hd0 : qJ x.ax x.ay x.bx x.b_y ≠ 0 := by omega
 -- the line to the turn
 have hs := Vy (a := zg X 64800000) (x := X) (by rw [jD]; unfold norm; omega)
 have t1 := Sc l (qV (zm x)) (d.px - x.ax) (by have : zQ l (zm x) = jG 2 (l * qV (zm x)) 1073741824 := rfl; omega)
 have t2 := Sc l (qX (zm x)) (d.py - x.ay) (by have : zR l (zm x) = jG 2 (l * qX (zm x)) 1073741824 := rfl; omega)
 have t3 := Sc L (qV (zg X 64800000)) (sx - x.bx) (by have : zQ L (zg X 64800000) = jG 2 (L * qV (zg X 64800000)) 1073741824 := rfl; omega)
 have t4 := Sc L (qX (zg X 64800000)) (sy - x.b_y) (by have : zR L (zg X 64800000) = jG 2 (L * qX (zg X 64800000)) 1073741824 := rfl; omega)
 rw [hs.1, Int.mul_neg] at t3
 rw [hs.2, Int.mul_neg] at t4
 rw [eX] at t3 t4
 have O := Ea (l1 := l) (l2 := L) (px := d.px) (py := d.py) (qx := sx) (qy := sy) hx.v.1 hx.v.2 hd0 t1 t2 (by show -536870912 ≤ 1073741824 * (sx - x.bx) + L * qV (zm x) ∧ 1073741824 * (sx - x.bx) + L * qV (zm x) ≤ 536870912; omega) (by show -536870912 ≤ 1073741824 * (sy - x.b_y) + L * qX (zm x) ∧ 1073741824 * (sy - x.b_y) + L * qX (zm x) ≤ 536870912; omega)
 have bd := kh x.ax x.ay x.bx x.b_y
 have pn := Zu d sx sy x.n
 have I : CO (zJ d sx sy x.n).els sx sy (zm x) ∧ (zJ d sx sy x.n).els ≠ [] := by
  by_cases hp : d.px = sx ∧ d.py = sy
  · have e : zJ d sx sy x.n = d := by unfold zJ; rw [if_pos hp]
    rw [e]
    refine ⟨by have := h.inv; rw [hp.1, hp.2] at this; exact this, ?_⟩
    rcases le with hl | hl
    · exfalso
      subst hl
      have r := Lb (zm x)
      have x1 := Si (l := L) (u := zQ L (zg X 64800000)) (by omega) (kJ (zg X 64800000)) rfl
      have x2 := Si (l := L) (u := zR L (zg X 64800000)) (by omega) (uj (zg X 64800000)) rfl
      exact Eb (u := -zQ L (zg X 64800000)) (v := -zR L (zg X 64800000)) hx.v.1 hx.v.2 hL1 (by omega) (by omega) (by omega) ⟨by omega, by omega⟩
    · exact hl
  · have J := Am (n := x.n) (C' := zm x) h.inv h.v v1 ⟨_, by omega, by omega, O⟩ hp
    exact ⟨J.1, J.2.2⟩
 have B := La (d := zJ d sx sy x.n) (xn := x.n) (yn := y.n) hF hm hr hk0 I.2 pn (by have := I.1; unfold zm at this; exact this)
 rw [hd] at B
 have pe : d'.px = eex ∧ d'.py = eey := by rw [← hd]; exact lG _ _ _ _ _ _ _ _ _
 refine ⟨by rw [pe.1, pe.2]; exact v2, (fun h => by cases h), fun _ => ⟨B.2, L, hL1, by omega, ?_, ?_⟩, ?_⟩
 · rw [pe.1, e7, eY, hc.1]
 · rw [pe.2, e8, eY, hc.2]
 · rw [pe.1, pe.2]
   have := B.1
   rw [show qZ (y.bx - x.bx) (y.b_y - x.b_y) = zm y by unfold zm; rw [hc.1, hc.2]] at this
   exact this
theorem Ey {els : List El} {px py C px' py' C' : Int} (h : CO els px py C) (hl : xE els) : CO els px' py' C' := by
 rcases h with h | h
 · exact .inl h
 · exact .inr (Aj h hl)
theorem Ez {l : List En} {rad : Int} (hrad : 600 ≤ rad) : ∀ (r : List Tk) (first done : Bool) (d : Dw) (x : Tk), (∀ t ∈ x :: r, EW t ∧ (zI l t).ov = false) → AG (x :: r) →
 (done = true → first = false ∧ EY d x true) → (done = false → qf d.px d.py = true ∧ CO d.els d.px d.py 0 ∧ xE d.els) →
 ∃ px py, CO (ze l rad first done d x r).1.els px py 0 ∧ xE (ze l rad first done d x r).1.els := by
 intro r
 induction r with
 | nil =>
   intro first done d x hs hc h1 h0
   have hx := hs x (.head _)
   have hk : x.k = 1 := hx.1.k
   rw [ze]
   rw [if_neg (by rw [hk]; decide), if_neg (by rw [hk]; decide)]
   exact ⟨_, _, Ex (sq_pen hx.1 h1 h0) hx.1 0⟩
 | cons y r ih =>
   intro first done d x hs hc h1 h0
   have hx := hs x (.head _)
   have hy := hs y (.tail _ (.head _))
   have hk : x.k = 1 := hx.1.k
   have hyx := hc.1 y rfl
   have hp := sq_pen (l := l) hx.1 h1 h0
   have hs2 : ∀ t ∈ y :: r, EW t ∧ (zI l t).ov = false := fun t ht => hs t (.tail _ ht)
   rw [ze]
   rw [if_neg (by rw [hk]; decide), if_neg (by rw [hk]; decide)]
   split
   · rename_i d' y' heq
     rw [if_neg (by rw [hy.1.g]; decide)] at heq
     unfold kU at heq
     split at heq
     · cases heq
     rename_i hn
     rw [if_neg (by rw [hx.2]; decide)] at heq
     split at heq
     · cases heq
     rcases hfb : Kw rad (zW l first done d x) x y with _ | dd
     · rw [hfb] at heq; cases heq
     · rw [hfb] at heq
       injection heq with heq
       injection heq with e1 e2
       subst e1 e2
       have O := Lf hrad hp hx.1 hy.1 hyx (by omega) (by omega) hfb
       exact ih false true dd y hs2 hc.2 (fun _ => ⟨rfl, O⟩) (fun h => by cases h)
   · have E := Ex (n := x.n) hp hx.1 0
     have pl := Zu (zW l first done d x) x.bx x.b_y x.n
     exact ih false false _ y hs2 hc.2 (fun h => by cases h) (fun _ => ⟨by rw [pl.1, pl.2]; exact hx.1.v.2, by rw [pl.1, pl.2]; exact E.1, E.2⟩)
where
 sq_pen {l : List En} {first done : Bool} {d : Dw} {x : Tk} (hx : EW x) (h1 : done = true → first = false ∧ EY d x true) (h0 : done = false → qf d.px d.py = true ∧ CO d.els d.px d.py 0 ∧ xE d.els) : EY (zW l first done d x) x done := by
  unfold zW
  dsimp only
  rcases hd : done with _ | _
  · obtain ⟨a1, a2, a3⟩ := h0 hd
    rw [if_neg (by decide)]
    obtain ⟨d1, hd1⟩ : ∃ d1 : Dw, (if x.g = true ∨ (first = true ∧ (zI l x).ty = 1) then ({ d with px := x.ax, py := x.ay, gp := x.g && !d.els.isEmpty } : Dw) else d) = d1 := ⟨_, rfl⟩
    rw [hd1]
    have e : d1.els = d.els := by rw [← hd1]; split <;> rfl
    have I := Ej (d := d1) (qx := x.ax) (qy := x.ay) (n := x.n) (C := 0) (C' := zm x) (by rw [e]; exact Ey a2 a3) (by rw [e]; exact a3)
    have pl := Zu d1 x.ax x.ay x.n
    exact ⟨by rw [pl.1, pl.2]; exact hx.v.1, fun _ => ⟨pl.1, pl.2, I.2⟩, (fun h => by cases h), by rw [pl.1, pl.2]; exact I.1⟩
  · obtain ⟨a1, a2⟩ := h1 hd
    rw [if_pos rfl, if_neg (by rw [hx.g, a1]; simp)]
    exact a2
theorem ER {v b : Int} (hv : 150 ≤ v) (h : (bC v b).2 = 0) : 600 ≤ (bC v b).1 := by
 unfold bC at h ⊢
 split at h
 · rename_i h1
   rw [if_pos h1]
   split at h
   · rename_i h2
     rw [if_pos h2]
     dsimp only
     have hz := h2.1
     have hS := Jj (a := b * 3600) (b := 10800000) (by omega) (by omega) (by decide)
     have hC := Jj (a := 21600000) (b := 32400000 - b * 3600) (by decide) (by omega) (by omega)
     rw [vg] at hC
     have s1 : qV 10800000 ≤ 536900000 := by decide +kernel
     have c1 : 929000000 ≤ qV 21600000 := by decide +kernel
     have hs0 : 0 ≤ qV (b * 3600) := (Vx (by omega) (by omega)).1
     have hvv : 150 * 150 ≤ v * v := Int.mul_le_mul hv hv (by decide) (by omega)
     have hn : 22500 * 87431 * 929000000 ≤ v * v * 87431 * qX (b * 3600) := Int.mul_le_mul (show (22500 * 87431 : Int) ≤ v * v * 87431 by omega) (show (929000000 : Int) ≤ qX (b * 3600) by omega) (by decide) (by omega)
     generalize qV (b * 3600) = s at *
     unfold qM at hz ⊢
     generalize v * v * 87431 * qX (b * 3600) = N at *
     by_cases hc : 1000000 * s = 0
     · rw [if_pos hc] at hz; cases hz
     · rw [if_neg hc] at hz ⊢
       split at hz
       · rename_i h3
         rw [if_pos h3]
         dsimp only
         have hd : 0 < 1000000 * s := by omega
         have hsp := (JA N (1000000 * s) hd).2
         refine Classical.byContradiction fun hn2 => ?_
         have := Int.mul_le_mul_of_nonneg_right (show jG 1 N (1000000 * s) ≤ 599 by omega) (show 0 ≤ 1000000 * s by omega)
         omega
       · cases hz
   · cases h
 · cases h
theorem eV (ax ay bx b_y c : Int) : (qY ax ay bx b_y c).k = 1 ∧ (qY ax ay bx b_y c).g = false ∧ (qY ax ay bx b_y c).len = fP (qY ax ay bx b_y c).ax (qY ax ay bx b_y c).ay (qY ax ay bx b_y c).bx (qY ax ay bx b_y c).b_y ∧
 (qY ax ay bx b_y c).ax = ax ∧ (qY ax ay bx b_y c).ay = ay := by
 unfold qY fP
 split
 · rename_i h
   refine ⟨rfl, rfl, ?_, rfl, rfl⟩
   show (0 : Int) = if ax = bx ∧ ay = b_y then 0 else _
   rw [if_pos h]
 · rename_i h
   refine ⟨rfl, rfl, ?_, rfl, rfl⟩
   show qJ ax ay bx b_y = if ax = bx ∧ ay = b_y then 0 else qJ ax ay bx b_y
   rw [if_neg h]
theorem Ld {fx fy c alt gr : Int} {x y : En} {T : Tk} (hL : vR fx fy c alt x y gr = (T, 0)) (ht : x.ty = 1 ∨ x.ty = 2 ∨ x.ty = 3 ∨ x.ty = 4) :
 T.k = 1 ∧ T.g = false ∧ T.len = fP T.ax T.ay T.bx T.b_y ∧ (x.ty = 2 → T.ax = fx ∧ T.ay = fy) := by
 unfold vR at hL
 by_cases h1 : x.ty = 1
 · rw [if_pos h1] at hL
   injection hL with hL _
   have s := eV x.ex x.ey x.ex x.ey c
   rw [hL] at s
   exact ⟨s.1, s.2.1, s.2.2.1, fun h => by omega⟩
 rw [if_neg h1] at hL
 by_cases h2 : x.ty = 2 ∨ x.ty = 4
 · rw [if_pos h2] at hL
   injection hL with hL _
   have s := eV fx fy x.ex x.ey c
   rw [hL] at s
   exact ⟨s.1, s.2.1, s.2.2.1, fun _ => ⟨s.2.2.2.1, s.2.2.2.2⟩⟩
 rw [if_neg h2, if_pos (by omega)] at hL
 have h3 : x.ty ≠ 2 := by omega
 suffices h : T.k = 1 ∧ T.g = false ∧ T.len = fP T.ax T.ay T.bx T.b_y from ⟨h.1, h.2.1, h.2.2, fun h => absurd h h3⟩
 unfold yS at hL
 dsimp only at hL
 split at hL
 · rename_i h; injection hL with _ h'; exact absurd h' h
 split at hL
 · injection hL with _ h'; cases h'
 split at hL
 · rename_i h; injection hL with _ h'; exact absurd h' h
 split at hL
 · injection hL with hL _
   have s := eV fx fy x.ex x.ey c
   rw [hL] at s
   exact ⟨s.1, s.2.1, s.2.2.1⟩
 split at hL
 · rename_i h; injection hL with _ h'; exact absurd h' h
 · injection hL with hL _
   rw [← hL]
   exact ⟨rfl, rfl, rfl⟩
theorem Ap {L : List En} {spd bank oalt gr : Int} : ∀ (l : List En) (pv : Option En) (i : Nat) (fx fy c alt : Int), l = L.drop i → Zk pv = false →
 (∀ (j : Nat) (x : En), L[j]? = some x → x.gap = false ∧ x.ov = false ∧ (x.ty = 1 ∨ x.ty = 2 ∨ x.ty = 3 ∨ x.ty = 4) ∧ (0 < j → x.ty = 2)) →
 (∀ t ∈ (qU spd bank oalt gr pv i fx fy c alt l).1, (t.k = 1 ∧ t.g = false ∧ t.len = fP t.ax t.ay t.bx t.b_y) ∧ (zI L t).ov = false) ∧ AG (qU spd bank oalt gr pv i fx fy c alt l).1 ∧ (∀ t, (qU spd bank oalt gr pv i fx fy c alt l).1.head? = some t → 0 < i → t.ax = fx ∧ t.ay = fy)
 | [], pv, i, fx, fy, c, alt, hl, hq, ht => ⟨(fun t h => by cases h), trivial, (fun t h => by cases h)⟩
 | x :: r, pv, i, fx, fy, c, alt, hl, hq, ht => by
   obtain ⟨h1, h2⟩ := Sz hl
   have hx := ht i x h1
   by_cases he : (qP pv fx fy c alt x (zH r) spd bank oalt gr).2 = 0
   · obtain ⟨T, hT⟩ : ∃ T, qP pv fx fy c alt x (zH r) spd bank oalt gr = (T, 0) := ⟨_, Prod.ext rfl he⟩
     rw [jc hx.1 hT]
     have hT2 := hT
     unfold qP at hT2
     rw [if_neg (by rw [hq]; simp)] at hT2
     obtain ⟨_, _, _, hvv, _, hL⟩ := Th hT2
     have S := Ld hL hx.2.2.1
     have hlg : (zI L { T with n := (i : Int) }).ov = false := by
      unfold zI
      dsimp only
      rw [Int.toNat_natCast, h1]
      exact hx.2.1
     have ih := Ap (spd := spd) (bank := bank) (oalt := oalt) (gr := gr) r (some x) (i + 1) T.bx T.b_y T.co (kN x alt) h2 (by show x.gap = false; exact hx.1) ht
     unfold yf
     split
     · exact ⟨(fun t h => by cases h), trivial, (fun t h => by cases h)⟩
     · refine ⟨fun t h => ?_, ⟨fun y hy => ?_, ih.2.1⟩, fun t h hi => ?_⟩
       · rcases List.mem_cons.1 h with rfl | h
         · exact ⟨⟨S.1, S.2.1, S.2.2.1⟩, hlg⟩
         · exact ih.1 t h
       · exact ih.2.2 y hy (by omega)
       · injection h with h
         subst h
         exact S.2.2.2 (hx.2.2.2 hi)
   · obtain ⟨T, e, hT⟩ : ∃ T e, qP pv fx fy c alt x (zH r) spd bank oalt gr = (T, e) := ⟨_, _, rfl⟩
     rw [hT] at he
     rw [jz hx.1 hT he]
     exact ⟨(fun t h => by cases h), trivial, (fun t h => by cases h)⟩
theorem Au {els : List El} {px py C : Int} (h : Good els px py C) (hl : xE els) (hb : ¬ AQ els) (hv : ∀ x ∈ els, qf x.ax x.ay = true ∧ qf x.bx x.b_y = true) : Passes els := by
 refine ⟨fun t x hx hc => ?_, h.one, h.two, fun t a b c h1 h2 h3 h4 h5 h6 => hb (.inr ⟨t, a, b, c, h1, h2, h3, h4, h5, h6⟩), fun t x hx hn => ?_⟩
 · have v := hv x (List.mem_of_getElem? hx)
   unfold El.over Ed
   rw [v.1, v.2, hc]
   rw [if_neg (by simp), if_neg (by simp), EL]
   decide
 · refine hl x (MY hx ?_)
   have := (List.getElem?_eq_some_iff.1 hx).1
   have := List.getElem?_eq_none_iff.1 hn
   omega
theorem LI {pa pb : ByteArray} {l : List En} {act : Int} (hx : ∀ (k : Nat) (x : En), l[k]? = some x → x.gap = false ∧ x.ov = false ∧ (0 < k → x.ty = 2)) (hp : jN pa pb l act = 0) :
 ∀ (j : Nat) (x : En), l[j]? = some x → x.gap = false ∧ x.ov = false ∧ (x.ty = 1 ∨ x.ty = 2 ∨ x.ty = 3 ∨ x.ty = 4) ∧ (0 < j → x.ty = 2) := fun j x hj => by
 have hpl := bY hp
 have q := hx j x hj
 refine ⟨q.1, q.2.1, ?_, q.2.2⟩
 rcases Nat.eq_zero_or_pos j with h0 | h0
 · subst h0
   have hg := hpl.1
   cases l with
   | nil => simp at hj
   | cons z r =>
     simp at hj
     subst hj
     rw [yN] at hg
     by_cases hst : (yG none z r.isEmpty 0).1 ≠ 0
     · rw [if_pos hst] at hg; exact absurd hg hst
     · have hst := Classical.not_not.1 hst
       unfold yG at hst
       rw [if_neg (by rw [q.1]; simp)] at hst
       split at hst
       · rename_i ha; exact absurd hst ha
       · dsimp only at hst
         split at hst
         · cases hst
         · rename_i hsb
           unfold bd at hsb
           simp at hsb
           omega
 · exact .inr (.inl (q.2.2 h0))
def LP (d : Dw) : Prop := d.gp = false ∧ ∀ e ∈ d.els, e.g = false
theorem LJ {d : Dw} {x : El} (h : LP d) : LP (ur d x) := ⟨rfl, fun e he => by
 rcases List.mem_append.1 he with he | he
 · exact h.2 e he
 · rw [List.mem_singleton.1 he]; exact h.1⟩
theorem LG {d : Dw} {qx qy n : Int} (h : LP d) : LP (zJ d qx qy n) := by
 unfold zJ
 split
 · exact h
 · exact LJ h
theorem LK {d : Dw} {cx cy r f s qx qy n : Int} (h : LP d) : LP (yu d cx cy r f s qx qy n) := by
 unfold yu
 split
 · exact LJ h
 · exact LG h
theorem LM {l : List En} {first done : Bool} {d : Dw} {x : Tk} (h : LP d) (hg : x.g = false) : LP (zW l first done d x) := by
 have key : LP (if x.g = true ∨ (first = true ∧ (zI l x).ty = 1) then { d with px := x.ax, py := x.ay, gp := x.g && !d.els.isEmpty } else d) := by
  split
  · exact ⟨by show (x.g && !d.els.isEmpty) = false; rw [hg]; rfl, h.2⟩
  · exact h
 unfold zW
 dsimp only
 split
 · exact key
 · exact LG key
theorem LO {rad : Int} {d d' : Dw} {x y : Tk} (h : LP d) (hd : Kw rad d x y = some d') : LP d' := by
 unfold Kw at hd
 split at hd
 · cases hd
 split at hd
 · cases hd
 unfold vk at hd
 split at hd
 · split at hd
   · cases hd
   · injection hd with hd
     rw [← hd]
     exact LK (LK (LG h))
 · cases hd
theorem LN {l : List En} {rad : Int} : ∀ (r : List Tk) (first done : Bool) (d : Dw) (x : Tk), (∀ t ∈ x :: r, (t.k = 1 ∧ t.g = false) ∧ (zI l t).ov = false) → LP d → LP (ze l rad first done d x r).1 := by
 intro r
 induction r with
 | nil =>
   intro first done d x hs h
   have hx := hs x (.head _)
   rw [ze, if_neg (by rw [hx.1.1]; decide), if_neg (by rw [hx.1.1]; decide)]
   exact LG (LM h hx.1.2)
 | cons y r ih =>
   intro first done d x hs h
   have hx := hs x (.head _)
   have hy := hs y (.tail _ (.head _))
   have hs2 : ∀ t ∈ y :: r, (t.k = 1 ∧ t.g = false) ∧ (zI l t).ov = false := fun t ht => hs t (.tail _ ht)
   have hp := LM (l := l) (first := first) (done := done) h hx.1.2
   rw [ze, if_neg (by rw [hx.1.1]; decide), if_neg (by rw [hx.1.1]; decide)]
   split
   · rename_i d' y' heq
     rw [if_neg (by rw [hy.1.2]; decide)] at heq
     unfold kU at heq
     split at heq
     · cases heq
     rw [if_neg (by rw [hx.2]; decide)] at heq
     split at heq
     · cases heq
     rcases hfb : Kw rad (zW l first done d x) x y with _ | dd
     · rw [hfb] at heq; cases heq
     · rw [hfb] at heq
       injection heq with heq
       injection heq with e1 e2
       subst e1 e2
       exact ih false true dd y hs2 (LO hp hfb)
   · exact ih false false _ y hs2 (LG hp)
theorem LH {pa pb : ByteArray} {l : List En} {act fx fy c spd bank oalt gr : Int} {R : Int × Int} (hx : ∀ (k : Nat) (x : En), l[k]? = some x → x.gap = false ∧ x.ov = false ∧ (0 < k → x.ty = 2))
 (h : (ji l fx fy R (qO pa pb l act fx fy c spd bank oalt gr)).2.2 = 0) : ∀ x ∈ (ji l fx fy R (qO pa pb l act fx fy c spd bank oalt gr)).1, x.g = false := by
 have hT : (qO pa pb l act fx fy c spd bank oalt gr).2.2 = 0 := by
  unfold ji at h
  by_cases h1 : (qO pa pb l act fx fy c spd bank oalt gr).2.2 ≠ 0
  · rw [if_pos h1] at h; exact absurd h h1
  · exact Classical.not_not.1 h1
 obtain ⟨hp, hv, hG⟩ := ku hT
 have Q := Ap (spd := spd) (bank := bank) (oalt := oalt) (gr := gr) (l.drop (qN act)) none (qN act) fx fy c oalt rfl rfl (LI hx hp)
 rw [hG] at hT ⊢
 unfold ji
 rw [if_neg (by rw [hT]; simp)]
 by_cases hR : R.2 ≠ 0
 · rw [if_pos hR]; exact fun x hx => by cases hx
 rw [if_neg hR]
 generalize (qU spd bank oalt gr none (qN act) fx fy c oalt (l.drop (qN act))).1 = T at *
 cases T with
 | nil => exact fun x hx => by cases hx
 | cons x r =>
   dsimp only
   split
   · exact fun x hx => by cases hx
   split
   · exact fun x hx => by cases hx
   · exact (LN (l := l) r true false ⟨[], fx, fy, false⟩ x (fun t ht => ⟨⟨(Q.1 t ht).1.1, (Q.1 t ht).1.2.1⟩, (Q.1 t ht).2⟩) ⟨rfl, fun e he => by cases he⟩).2
theorem ES {pa pb : ByteArray} {l : List En} {act fx fy c spd bank oalt gr : Int} (hx : ∀ (k : Nat) (x : En), l[k]? = some x → x.gap = false ∧ x.ov = false ∧ (0 < k → x.ty = 2)) (hs : 150 ≤ spd)
 (h : (ji l fx fy (bC spd bank) (qO pa pb l act fx fy c spd bank oalt gr)).2.2 = 0) :
 AQ (ji l fx fy (bC spd bank) (qO pa pb l act fx fy c spd bank oalt gr)).1 ∨ Passes (ji l fx fy (bC spd bank) (qO pa pb l act fx fy c spd bank oalt gr)).1 := by
 obtain ⟨d, hd, hB⟩ := xK h
 have hT : (qO pa pb l act fx fy c spd bank oalt gr).2.2 = 0 := by
  unfold ji at h
  by_cases h1 : (qO pa pb l act fx fy c spd bank oalt gr).2.2 ≠ 0
  · rw [if_pos h1] at h; exact absurd h h1
  · exact Classical.not_not.1 h1
 obtain ⟨hp, hv, hG⟩ := ku hT
 have V := Jt (spd := spd) (bank := bank) (oalt := oalt) (gr := gr) (l.drop (qN act)) none (qN act) fx fy c oalt (fun x hm hg => rT hp x (List.mem_of_mem_drop hm) hg)
 have ty0 := LI hx hp
 have Q := Ap (spd := spd) (bank := bank) (oalt := oalt) (gr := gr) (l.drop (qN act)) none (qN act) fx fy c oalt rfl rfl ty0
 have hvals : ∀ x ∈ d.els, qf x.ax x.ay = true ∧ qf x.bx x.b_y = true := fun x hm => ⟨(hB.val.els x hm).a, (hB.val.els x hm).b⟩
 rw [hd]
 rw [hd.symm] at hvals ⊢
 clear hB hd
 rw [hG] at hT h hvals ⊢
 unfold ji at h hvals ⊢
 rw [if_neg (by rw [hT]; simp)] at h hvals ⊢
 by_cases hR : (bC spd bank).2 ≠ 0
 · rw [if_pos hR] at h; exact absurd h hR
 rw [if_neg hR] at h hvals ⊢
 have h6 := ER hs (Classical.not_not.1 hR)
 generalize (qU spd bank oalt gr none (qN act) fx fy c oalt (l.drop (qN act))).1 = T at *
 cases T with
 | nil => exact .inr ⟨fun t x hx => by simp at hx, fun t a x hx => by simp at hx, fun t a b x hx => by simp at hx, fun t a b c hx => by simp at hx, fun t x hx => by simp at hx⟩
 | cons x r =>
   dsimp only at h hvals ⊢
   by_cases h1 : (ze l (bC spd bank).1 true false ⟨[], fx, fy, false⟩ x r).2.2 ≠ 0
   · rw [if_pos h1] at h; exact absurd h h1
   rw [if_neg h1] at h hvals ⊢
   by_cases h2 : ((ze l (bC spd bank).1 true false ⟨[], fx, fy, false⟩ x r).1.els.length : Int) > 500
   · rw [if_pos h2] at h; cases h
   rw [if_neg h2] at hvals ⊢
   dsimp only at hvals ⊢
   obtain ⟨px, py, I, LL⟩ := Ez (l := l) h6 r true false ⟨[], fx, fy, false⟩ x (fun t ht => ⟨⟨(Q.1 t ht).1.1, (Q.1 t ht).1.2.1, V t ht, (Q.1 t ht).1.2.2⟩, (Q.1 t ht).2⟩) Q.2.1 (fun e => by cases e) (fun _ => ⟨hv, .inr (ED _ _ _), fun a ha => by simp at ha⟩)
   rcases I with I | I
   · exact .inl I
   · by_cases hb : AQ (ze l (bC spd bank).1 true false ⟨[], fx, fy, false⟩ x r).1.els
     · exact .inl hb
     · exact .inr (Au I LL hb hvals)
end Go.Proofs.YteanfgobpjdmnaaGreatDoor
