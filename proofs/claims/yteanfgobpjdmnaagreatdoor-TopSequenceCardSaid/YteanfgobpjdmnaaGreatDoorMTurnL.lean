/-
  A path that is built has no error. No program.
-/
import Derived.Test.YteanfgobpjdmnaaGreatDoorMBuildV
namespace Go.Proofs.YteanfgobpjdmnaaGreatDoor
set_option linter.unusedVariables false
theorem Sa {x : El} (h : NN x) (hn : lS x) : x.err = 0 := by
 unfold El.err uX
 rw [h.a, h.b]
 simp only [Bool.and_self, Bool.not_true, Bool.false_eq_true, if_false]
 have hp := h.pos
 rcases hc : x.c with _ | _
 · simp only [Bool.false_eq_true, if_false]
   obtain ⟨h1, h2, h3, h4, h5, h6⟩ := h.line hc
   rw [if_neg (by omega), if_neg (by omega)]
 · simp only [if_true]
   obtain ⟨h1, h2⟩ := h.arc hc
   obtain ⟨n1, n2, _⟩ := hn hc hp
   rw [h1, n1, n2]
   simp only [Bool.not_true, Bool.false_eq_true, if_false, Bool.or_self]
   rw [if_neg (by omega)]
theorem RW {len : Int} : ∀ (l : List El) (f : Bool) (en bx b_y sum : Int), (∀ x ∈ l, x.err = 0) → (∀ x, l[0]? = some x → en ≤ x.n ∧ (f = true → x.g = false) ∧ (f = false → x.g = false → x.ax = bx ∧ x.ay = b_y)) →
 (∀ (i : Nat) (x y : El), l[i]? = some x → l[i + 1]? = some y → x.n ≤ y.n ∧ (y.g = false → y.ax = x.bx ∧ y.ay = x.b_y)) → len = sum + jH l → Qh len f en bx b_y sum l = 0
 | [], f, en, bx, b_y, sum, h1, h2, h3, h4 => by
   rw [Kd, if_pos (by rw [h4, Qi]; omega)]
 | x :: l, f, en, bx, b_y, sum, h1, h2, h3, h4 => by
   obtain ⟨a1, a2, a3⟩ := h2 x rfl
   rw [kC, if_neg (by rw [h1 x (.head _)]; simp), if_neg, if_neg]
   · refine RW l _ _ _ _ _ (fun y hy => h1 y (.tail _ hy)) (fun y hy => ?_) (fun i y z hy hz => h3 (i + 1) y z (by simpa using hy) (by simpa using hz)) (by rw [h4, yq]; omega)
     have := h3 0 x y rfl (by simpa using hy)
     exact ⟨this.1, (fun e => by cases e), fun _ => this.2⟩
   · rintro ⟨b1, b2, b3⟩
     exact b3 (a3 b1 b2)
   · rintro (b | ⟨b1, b2⟩)
     · omega
     · rw [a2 b1] at b2
       cases b2
theorem RZ {d : Dw} {k : Int} (h1 : uQ d) (h2 : bT d) (h3 : tk d k) (h4 : vU d) (h5 : xy (0 ≤ ·) d) (h6 : (d.els.length : Int) ≤ 500) : vX d.els (jH d.els) = 0 := by
 unfold vX
 rw [if_neg (by omega)]
 refine RW _ _ _ _ _ _ (fun x hx => Sa (h2.els x hx) (h4.all x hx)) (fun x hx => ⟨h5 x (List.mem_of_getElem? hx), fun _ => h1.head x hx, fun e => by cases e⟩) (fun i x y hx hy => ⟨h3.up i x y hx hy, h1.meet i x y hx hy⟩) (by omega)
theorem RV {l : List En} {act : Int} {d : Dw} (h : mC l act d) : vX d.els (jH d.els) = 0 := by
 obtain ⟨k, hk⟩ := h.ent
 refine RZ h.inv h.val hk h.near (fun a ha => ?_) h.len
 obtain ⟨j, x, e, _⟩ := h.num a ha
 omega
theorem Sj (a t L : Int) (h1 : -L ≤ t) (h2 : t ≤ L) : a * t ≤ a.natAbs * L ∧ -(a.natAbs * L : Int) ≤ a * t := by
 rcases Int.le_total 0 a with h | h
 · rw [show (a.natAbs : Int) = a from by omega]
   have x1 := Int.mul_le_mul_of_nonneg_left h2 h
   have x2 := Int.mul_le_mul_of_nonneg_left h1 h
   rw [Int.mul_neg] at x2
   omega
 · rw [show (a.natAbs : Int) = -a from by omega]
   have x1 := Int.mul_le_mul_of_nonneg_left h2 (show 0 ≤ -a by omega)
   have x2 := Int.mul_le_mul_of_nonneg_left h1 (show 0 ≤ -a by omega)
   rw [Int.neg_mul, Int.neg_mul] at x1 x2
   rw [Int.mul_neg] at x2
   rw [Int.neg_mul]
   omega
theorem Sc (l S u : Int) (hu : u = jG 2 (l * S) 1073741824) : -536870912 ≤ 1073741824 * u - l * S ∧ 1073741824 * u - l * S ≤ 536870912 := by
 have := zO (l * S)
 rw [← hu] at this
 omega
theorem Si {l S u : Int} (hl : 0 ≤ l) (hS : -1073741824 ≤ S ∧ S ≤ 1073741824) (hu : u = jG 2 (l * S) 1073741824) : -l ≤ u ∧ u ≤ l := by
 have h := Sc l S u hu
 have a := Int.mul_le_mul_of_nonneg_left hS.1 hl
 have b := Int.mul_le_mul_of_nonneg_left hS.2 hl
 generalize l * S = z at *
 omega
theorem Sl {ax ay bx b_y cx cy r v0 v1 v2 v3 v4 v5 v6 v7 v8 v9 : Int} (h : vV ax ay bx b_y cx cy r = ([v0, v1, v2, v3, v4, v5, v6, v7, v8, v9], 0)) :
 (qf ax ay = true ∧ qf bx b_y = true ∧ qf cx cy = true) ∧ ¬ (ax = bx ∧ ay = b_y) ∧ ¬ (bx = cx ∧ b_y = cy) ∧ (1 ≤ v2 ∧ v2 ≤ 8000000) ∧ ∃ X Y l : Int, X = qZ (bx - ax) (b_y - ay) ∧ Y = qZ (cx - bx) (cy - b_y) ∧ l = zT v2 v4 ∧
   v4.natAbs ≤ 54000000 ∧ l ≤ qJ ax ay bx b_y ∧ l ≤ qJ bx b_y cx cy ∧ v5 = bx + zQ l (zg X 64800000) ∧ v6 = b_y + zR l (zg X 64800000) ∧ v7 = bx + zQ l Y ∧ v8 = b_y + zR l Y ∧
   v0 = v5 + zQ v2 (zg X (zr v4 32400000)) ∧ v1 = v6 + zR v2 (zg X (zr v4 32400000)) ∧ v3 = zg X (-zr v4 32400000) ∧ qf v5 v6 = true ∧ qf v7 v8 = true := by
 have h0 : (vV ax ay bx b_y cx cy r).2 = 0 := by rw [h]
 have h := h.symm
 unfold vV at h h0
 by_cases h1 : (!(qf ax ay && qf bx b_y && qf cx cy)) = true
 · rw [if_pos h1] at h0; exact (GG (by decide) h0).elim
 rw [if_neg h1] at h h0
 by_cases h2 : r < 1 ∨ r > 8000000
 · rw [if_pos h2] at h0; exact (GG (by decide) h0).elim
 rw [if_neg h2] at h h0
 by_cases h3 : (ax = bx ∧ ay = b_y) ∨ (bx = cx ∧ b_y = cy)
 · rw [if_pos h3] at h0; exact (GG (by decide) h0).elim
 rw [if_neg h3] at h h0
 obtain ⟨g1, g2, g3, X, Y, sx, sy, ex, ey, g4, q1, q2, q3, q4, q5, q6, q7, q8, q9⟩ := GH h0
 rw [← h] at g4
 simp only [List.cons.injEq, and_true] at g4
 obtain ⟨rfl, rfl, rfl, rfl, rfl, rfl, rfl, rfl, rfl, rfl⟩ := g4
 have hv : qf ax ay = true ∧ qf bx b_y = true ∧ qf cx cy = true := by
  cases e1 : qf ax ay <;> cases e2 : qf bx b_y <;> cases e3 : qf cx cy <;> rw [e1, e2, e3] at h1 <;> simp at h1 ⊢
 exact ⟨hv, fun e => h3 (.inl e), fun e => h3 (.inr e), by omega, _, _, _, rfl, rfl, rfl, g1, g2, g3, q1, q2, q3, q4, q5, q6, rfl, q8, q9⟩
theorem Su {ax ay bx b_y : Int} (h1 : qf ax ay = true) (h2 : qf bx b_y = true) (hne : ¬ (ax = bx ∧ ay = b_y)) : qJ ax ay bx b_y ≠ 0 := fun e => by
 have := KJ h1 h2 (by omega)
 omega
theorem Sk {ax ay bx b_y : Int} (hx : -14 ≤ bx - ax ∧ bx - ax ≤ 14) (hy : -14 ≤ b_y - ay ∧ b_y - ay ≤ 14) : qJ ax ay bx b_y < 20 := by
 unfold qJ
 split
 · have a := Sj (bx - ax) (bx - ax) 14 hx.1 hx.2
   have b := Sj (b_y - ay) (b_y - ay) 14 hy.1 hy.2
   have : vO (jv ax ay bx b_y).toNat < 20 := ed (by
    unfold jv
    generalize (bx - ax) * (bx - ax) = z at *
    generalize (b_y - ay) * (b_y - ay) = z2 at *
    omega)
   omega
 · decide
theorem SB {ax ay bx b_y cx cy r v0 v1 v2 v3 v4 v5 v6 v7 v8 v9 : Int} (h : vV ax ay bx b_y cx cy r = ([v0, v1, v2, v3, v4, v5, v6, v7, v8, v9], 0))
 (hm : (qI v0 v1 v2 v3 (v4.tdiv 2) (qA v0 v1 v2 v3 (v4.tdiv 2))).2.2.2 = 0) :
 (¬ 1 ≤ qA v0 v1 v2 v3 (v4.tdiv 2) → qJ v5 v6 (qI v0 v1 v2 v3 (v4.tdiv 2) (qA v0 v1 v2 v3 (v4.tdiv 2))).1 (qI v0 v1 v2 v3 (v4.tdiv 2) (qA v0 v1 v2 v3 (v4.tdiv 2))).2.1 < 20) ∧
 (¬ 1 ≤ qA v0 v1 v2 (norm (v3 + v4.tdiv 2)) (v4 - v4.tdiv 2) → qJ (qI v0 v1 v2 v3 (v4.tdiv 2) (qA v0 v1 v2 v3 (v4.tdiv 2))).1 (qI v0 v1 v2 v3 (v4.tdiv 2) (qA v0 v1 v2 v3 (v4.tdiv 2))).2.1 v7 v8 < 20) := by
 have hB := WT h
 obtain ⟨⟨w1, w2, w3⟩, n1, n2, hr, X, Y, l, hX, hY, hl, hD, l1, l2, e5, e6, e7, e8, e0, e1, e3, k1, k2⟩ := Sl h
 clear h
 obtain ⟨b1, b2, b3, b4, b5, b6, b7⟩ := (vF _ _ _ _ _).1 hB
 have hh := mg v4
 have hopp : qV v3 = -qV (zg X (zr v4 32400000)) ∧ qX v3 = -qX (zg X (zr v4 32400000)) :=
  Vy (by rw [e3, jD, jD]; unfold norm; rcases Zd v4 with ⟨_, h⟩ | ⟨_, h⟩ <;> rw [h] <;> omega)
 obtain ⟨u, hu⟩ : ∃ u, u = v0 + zQ v2 v3 := ⟨_, rfl⟩
 obtain ⟨v, hv⟩ : ∃ v, v = v1 + zR v2 v3 := ⟨_, rfl⟩
 have near : (u - v5 ≤ 1 ∧ v5 - u ≤ 1) ∧ (v - v6 ≤ 1 ∧ v6 - v ≤ 1) := by
  have hu2 := hu
  have hv2 := hv
  unfold zQ at hu2 e0
  unfold zR at hv2 e1
  rw [hopp.1] at hu2
  rw [hopp.2] at hv2
  exact ⟨ZN e0 hu2, ZN e1 hv2⟩
 generalize hs1 : v4.tdiv 2 = s1 at *
 have hB1 : yX v0 v1 v2 v3 s1 = true := (vF _ _ _ _ _).2 ⟨b1, b2, b3, b4, b5, by omega, by omega⟩
 have nb := zM (v3 + s1)
 have hB2 : yX v0 v1 v2 (norm (v3 + s1)) (v4 - s1) = true := (vF _ _ _ _ _).2 ⟨b1, b2, b3, nb.1, nb.2, by omega, by omega⟩
 have len1 := yJ v0 v1 v2 v3 s1
 have len2 := yJ v0 v1 v2 (norm (v3 + s1)) (v4 - s1)
 have q1 := uh hB1
 have q2 := uh hB2
 have mid : ¬ 1 ≤ qA v0 v1 v2 v3 s1 → (qI v0 v1 v2 v3 s1 (qA v0 v1 v2 v3 s1)).1 = u ∧ (qI v0 v1 v2 v3 s1 (qA v0 v1 v2 v3 s1)).2.1 = v := fun hn => by
  have hz : qA v0 v1 v2 v3 s1 = 0 := by omega
  have hat := kG hB1 len1.1 (Int.le_refl _) hm
  rw [hat.1, hat.2, hz, yx _ _ _ b4 b5]
  exact ⟨hu.symm, hv.symm⟩
 refine ⟨fun hn => ?_, fun hn => ?_⟩
 · rw [(mid hn).1, (mid hn).2]
   exact Sk (by omega) (by omega)
 · have hz2 : qA v0 v1 v2 (norm (v3 + s1)) (v4 - s1) = 0 := by omega
   rw [hz2, JK] at q2
   have hp : 0 ≤ v2 * ((v4 - s1).natAbs : Int) := Int.mul_nonneg (by omega) (by omega)
   have hp2 : 2 * (v2 * ((v4 - s1).natAbs : Int)) < 20626481 := by
    clear near hu hv mid hopp e0 e1 e3 e5 e6 e7 e8
    omega
   have hle : v2 * (s1.natAbs : Int) ≤ v2 * ((v4 - s1).natAbs : Int) := Int.mul_le_mul_of_nonneg_left (by omega) (by omega)
   have RI : 0 ≤ v2 * (s1.natAbs : Int) := Int.mul_nonneg (by omega) (by omega)
   have hn1 : ¬ 1 ≤ qA v0 v1 v2 v3 s1 := by
    rw [q1, JK]
    omega
   rw [(mid hn1).1, (mid hn1).2]
   have hrd : v2 * (v4.natAbs : Int) ≤ 2 * (v2 * ((v4 - s1).natAbs : Int)) := by
    have := Int.mul_le_mul_of_nonneg_left (show (v4.natAbs : Int) ≤ 2 * ((v4 - s1).natAbs : Int) by omega) (show 0 ≤ v2 by omega)
    have e : v2 * (2 * ((v4 - s1).natAbs : Int)) = 2 * (v2 * ((v4 - s1).natAbs : Int)) := by grind
    omega
   have L := Zc (r := v2) (d := v4) (by omega) hD
   rw [← hl] at L
   obtain ⟨hd, hhd⟩ : ∃ k : Nat, (v4.natAbs : Int) / 2 = (k : Int) := ⟨v4.natAbs / 2, by omega⟩
   rw [hhd] at L
   have hc := bk (h := (hd : Int)) (by omega) (by omega)
   have lp := (GD hd 0).1
   rw [Int.zero_add, show qV 0 = 0 from by decide +kernel, Int.sub_zero] at lp
   have h1 := Int.mul_le_mul_of_nonneg_left lp.2 (show 0 ≤ v2 by omega)
   have h2 : v2 * (84 * (hd : Int)) ≤ 42 * (v2 * (v4.natAbs : Int)) := by
    have := Int.mul_le_mul_of_nonneg_left (show 84 * (hd : Int) ≤ 42 * (v4.natAbs : Int) by omega) (show 0 ≤ v2 by omega)
    have e : v2 * (42 * (v4.natAbs : Int)) = 42 * (v2 * (v4.natAbs : Int)) := by grind
    omega
   have l4 : l ≤ 4 := by
    rcases Int.lt_or_le 4 l with h | h
    · have h3 := Int.mul_le_mul (show (4 : Int) ≤ l - 1 by omega) hc (by decide) (by omega)
      have L1 := L.1
      clear lp near mid
      generalize (l - 1) * qX (hd : Int) = z1 at *
      generalize v2 * qV (hd : Int) = z2 at *
      generalize v2 * (84 * (hd : Int)) = z3 at *
      generalize v2 * (v4.natAbs : Int) = z4 at *
      generalize v2 * ((v4 - s1).natAbs : Int) = z5 at *
      omega
    · exact h
   have l0 := L.2.2
   have x5 := Si (u := v5 - bx) l0 (kJ (zg X 64800000)) (by unfold zQ at e5; omega)
   have x6 := Si (u := v6 - b_y) l0 (uj (zg X 64800000)) (by unfold zR at e6; omega)
   have x7 := Si (u := v7 - bx) l0 (kJ Y) (by unfold zQ at e7; omega)
   have x8 := Si (u := v8 - b_y) l0 (uj Y) (by unfold zR at e8; omega)
   clear e0 e1 e3 e5 e6 e7 e8 L lp h1 h2 hu hv hopp mid
   exact Sk (by omega) (by omega)
theorem Sz {l r : List En} {i : Nat} {x : En} (h : x :: r = l.drop i) : l[i]? = some x ∧ r = l.drop (i + 1) := by
 have h1 : (l.drop i)[0]? = some x := by rw [← h]; rfl
 rw [List.getElem?_drop] at h1
 refine ⟨h1, ?_⟩
 rw [← List.drop_drop, ← h]
 rfl
end Go.Proofs.YteanfgobpjdmnaaGreatDoor
