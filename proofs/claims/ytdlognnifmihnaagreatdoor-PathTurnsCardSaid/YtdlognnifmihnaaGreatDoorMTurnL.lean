/-
  Where a turn that is flown by begins and ends: on its legs, within three units. No program.
-/
import Derived.Test.YtdlognnifmihnaaGreatDoorMBuildV
namespace Go.Proofs.YtdlognnifmihnaaGreatDoor
set_option linter.unusedVariables false
theorem Sj (a t L : Int) (h1 : -L ≤ t) (h2 : t ≤ L) : a * t ≤ a.natAbs * L ∧ -(a.natAbs * L : Int) ≤ a * t := by
 rcases Int.le_total 0 a with h | h
 · rw [show (a.natAbs : Int) = a from by omega]
   have x1 := Int.mul_le_mul_of_nonneg_left h2 h
   have x2 := Int.mul_le_mul_of_nonneg_left h1 h
   rw [Int.mul_neg] at x2
   omega
 · rw [show (a.natAbs : Int) = -a from by omega]
   have x1 := Int.mul_le_mul_of_nonneg_left h2 (show 0 ≤ -a by omega)
   have x2 := Int.mul_le_mul_of_nonneg_left h1 (show 0 ≤ -a by omega)
   rw [Int.neg_mul, Int.neg_mul] at x1 x2
   rw [Int.mul_neg] at x2
   rw [Int.neg_mul]
   omega
theorem SA {r m S p u : Int} (hr : 1 ≤ r) (hm : -r ≤ m ∧ m ≤ r) (hS : -2147483648 ≤ r * S - 1073741824 * p ∧ r * S - 1073741824 * p ≤ 2147483648) (hu : -536870912 ≤ 1073741824 * u - m * S ∧ 1073741824 * u - m * S ≤ 536870912) :
 -(5 * r) ≤ 2 * (r * u - m * p) ∧ 2 * (r * u - m * p) ≤ 5 * r := by
 have e : 1073741824 * (r * u - m * p) = r * (1073741824 * u - m * S) + m * (r * S - 1073741824 * p) := by grind
 have a1 := Int.mul_le_mul_of_nonneg_left hu.1 (show 0 ≤ r by omega)
 have a2 := Int.mul_le_mul_of_nonneg_left hu.2 (show 0 ≤ r by omega)
 have b := Sj m (r * S - 1073741824 * p) 2147483648 (by omega) (by omega)
 have hb : (m.natAbs : Int) ≤ r := by omega
 generalize m * (r * S - 1073741824 * p) = x at *
 generalize r * (1073741824 * u - m * S) = y at *
 generalize r * u - m * p = z at *
 omega
theorem Ss {p q r m u v S C : Int} (hr : 1 ≤ r) (hm : -r ≤ m ∧ m ≤ r) (hS : -2147483648 ≤ r * S - 1073741824 * p ∧ r * S - 1073741824 * p ≤ 2147483648) (hC : -2147483648 ≤ r * C - 1073741824 * q ∧ r * C - 1073741824 * q ≤ 2147483648)
 (hu : -536870912 ≤ 1073741824 * u - m * S ∧ 1073741824 * u - m * S ≤ 536870912) (hv : -536870912 ≤ 1073741824 * v - m * C ∧ 1073741824 * v - m * C ≤ 536870912) :
 2 * (p * v - q * u) ≤ 5 * (p.natAbs + q.natAbs) ∧ -(5 * (p.natAbs + q.natAbs) : Int) ≤ 2 * (p * v - q * u) := by
 have hU := SA hr hm hS hu
 have hV := SA hr hm hC hv
 have e : 2 * (p * v - q * u) * r = p * (2 * (r * v - m * q)) - q * (2 * (r * u - m * p)) := by grind
 generalize 2 * (r * u - m * p) = U at *
 generalize 2 * (r * v - m * q) = V at *
 have c1 := Sj p V (5 * r) hV.1 hV.2
 have c2 := Sj q U (5 * r) hU.1 hU.2
 generalize hX : 2 * (p * v - q * u) = X at *
 generalize hM : (p.natAbs : Int) + q.natAbs = M at *
 have e1 : 5 * M * r = p.natAbs * (5 * r) + q.natAbs * (5 * r) := by rw [← hM]; grind
 constructor
 · rcases Int.lt_or_le (5 * M) X with h | h
   · have : (5 * M + 1) * r ≤ X * r := Int.mul_le_mul_of_nonneg_right (by omega) (by omega)
     have e2 : (5 * M + 1) * r = 5 * M * r + r := by grind
     omega
   · exact h
 · rcases Int.lt_or_le X (-(5 * M)) with h | h
   · have : X * r ≤ -(5 * M + 1) * r := Int.mul_le_mul_of_nonneg_right (by omega) (by omega)
     have e2 : -(5 * M + 1) * r = -(5 * M * r) - r := by grind
     omega
   · exact h
theorem Sv {n s : Int} (hs : 0 < s) (h : n * n < 16 * s) : -3 ≤ Yr n s ∧ Yr n s ≤ 3 := by
 have h0 : 0 ≤ n * n / s := Int.ediv_nonneg (zx n) (by omega)
 have h1 : n * n / s < 16 := Int.ediv_lt_of_lt_mul hs h
 have h2 : vO (n * n / s).toNat < 4 := ed (by omega)
 unfold Yr
 split <;> omega
theorem SH {p q X : Int} (h0 : ¬ (p = 0 ∧ q = 0)) (h1 : 2 * X ≤ 5 * (p.natAbs + q.natAbs)) (h2 : -(5 * (p.natAbs + q.natAbs) : Int) ≤ 2 * X) : X * X < 16 * (p * p + q * q) := by
 have e1 := SG p
 have e2 := SG q
 have d := zx ((p.natAbs : Int) - q.natAbs)
 have hM : 0 ≤ (p.natAbs : Int) + q.natAbs := by omega
 have hM1 : 1 ≤ (p.natAbs : Int) + q.natAbs := by omega
 generalize (p.natAbs : Int) = a at *
 generalize (q.natAbs : Int) = b at *
 have k : (2 * X) * (2 * X) ≤ (5 * (a + b)) * (5 * (a + b)) := by
  rcases Int.le_total 0 X with h | h
  · exact Int.mul_le_mul h1 h1 (by omega) (by omega)
  · have := Int.mul_le_mul (show -(2 * X) ≤ 5 * (a + b) by omega) (show -(2 * X) ≤ 5 * (a + b) by omega) (by omega) (by omega)
    rw [Int.neg_mul_neg] at this
    exact this
 have k1 : (2 * X) * (2 * X) = 4 * (X * X) := by grind
 have k2 : (5 * (a + b)) * (5 * (a + b)) = 25 * (a * a + 2 * (a * b) + b * b) := by grind
 have k3 : (a - b) * (a - b) = a * a - 2 * (a * b) + b * b := by grind
 have k4 : (1 : Int) ≤ (a + b) * (a + b) := Int.mul_le_mul hM1 hM1 (by decide) (by omega)
 have k5 : (a + b) * (a + b) = a * a + 2 * (a * b) + b * b := by grind
 rw [k1, k2] at k
 rw [k3] at d
 rw [k5] at k4
 rw [← e1, ← e2]
 generalize a * a = aa at *
 generalize b * b = bb at *
 generalize a * b = ab at *
 generalize X * X = xx at *
 omega
def Sg (ax ay bx b_y px py : Int) : Prop := ¬ (ax = bx ∧ ay = b_y) → ∃ o al, VS ax ay bx b_y px py = (o, al, 0) ∧ -3 ≤ o ∧ o ≤ 3
theorem Sh {ax ay bx b_y px py : Int} (h1 : qf ax ay = true) (h2 : qf bx b_y = true) (h3 : qf px py = true)
 (h : 2 * ((bx - ax) * (py - ay) - (b_y - ay) * (px - ax)) ≤ 5 * ((bx - ax).natAbs + (b_y - ay).natAbs) ∧ -(5 * ((bx - ax).natAbs + (b_y - ay).natAbs) : Int) ≤ 2 * ((bx - ax) * (py - ay) - (b_y - ay) * (px - ax))) : Sg ax ay bx b_y px py := by
 intro h4
 have hne : ¬ (bx - ax = 0 ∧ b_y - ay = 0) := by omega
 rw [SM h1 h2 h3 h4]
 have sq := SH hne h.1 h.2
 have hs : jv ax ay bx b_y = (bx - ax) * (bx - ax) + (b_y - ay) * (b_y - ay) := rfl
 have pos : 0 < (bx - ax) * (bx - ax) + (b_y - ay) * (b_y - ay) := by
  have := zx ((bx - ax) * (b_y - ay) * 0)
  rcases Int.lt_or_le 0 ((bx - ax) * (bx - ax) + (b_y - ay) * (b_y - ay)) with h | h
  · exact h
  · have a := zx (bx - ax)
    have b := zx (b_y - ay)
    have c := zx ((bx - ax) * (py - ay) - (b_y - ay) * (px - ax))
    omega
 refine ⟨_, _, rfl, ?_⟩
 rw [hs]
 refine Sv pos ?_
 rw [Int.neg_mul_neg]
 exact sq
theorem SP {ax ay bx b_y : Int} (h1 : qf ax ay = true) (h2 : qf bx b_y = true) : Sg ax ay bx b_y ax ay := Sh h1 h2 h1 (by
 rw [Int.sub_self, Int.sub_self, Int.mul_zero, Int.mul_zero]
 omega)
theorem SR {ax ay bx b_y : Int} (h1 : qf ax ay = true) (h2 : qf bx b_y = true) : Sg ax ay bx b_y bx b_y := Sh h1 h2 h2 (by
 rw [Int.mul_comm (b_y - ay), Int.sub_self]
 omega)
theorem Sc (l S u : Int) (hu : u = jG 2 (l * S) 1073741824) : -536870912 ≤ 1073741824 * u - l * S ∧ 1073741824 * u - l * S ≤ 536870912 := by
 have := zO (l * S)
 rw [← hu] at this
 omega
theorem Si {l S u : Int} (hl : 0 ≤ l) (hS : -1073741824 ≤ S ∧ S ≤ 1073741824) (hu : u = jG 2 (l * S) 1073741824) : -l ≤ u ∧ u ≤ l := by
 have h := Sc l S u hu
 have a := Int.mul_le_mul_of_nonneg_left hS.1 hl
 have b := Int.mul_le_mul_of_nonneg_left hS.2 hl
 generalize l * S = z at *
 omega
theorem Sl {ax ay bx b_y cx cy r v0 v1 v2 v3 v4 v5 v6 v7 v8 v9 : Int} (h : vV ax ay bx b_y cx cy r = ([v0, v1, v2, v3, v4, v5, v6, v7, v8, v9], 0)) :
 (qf ax ay = true ∧ qf bx b_y = true ∧ qf cx cy = true) ∧ ¬ (ax = bx ∧ ay = b_y) ∧ ¬ (bx = cx ∧ b_y = cy) ∧ (1 ≤ v2 ∧ v2 ≤ 8000000) ∧ ∃ X Y l : Int, X = qZ (bx - ax) (b_y - ay) ∧ Y = qZ (cx - bx) (cy - b_y) ∧ l = zT v2 v4 ∧
   v4.natAbs ≤ 54000000 ∧ l ≤ qJ ax ay bx b_y ∧ l ≤ qJ bx b_y cx cy ∧ v5 = bx + zQ l (zg X 64800000) ∧ v6 = b_y + zR l (zg X 64800000) ∧ v7 = bx + zQ l Y ∧ v8 = b_y + zR l Y ∧
   v0 = v5 + zQ v2 (zg X (zr v4 32400000)) ∧ v1 = v6 + zR v2 (zg X (zr v4 32400000)) ∧ v3 = zg X (-zr v4 32400000) ∧ qf v5 v6 = true ∧ qf v7 v8 = true := by
 have h0 : (vV ax ay bx b_y cx cy r).2 = 0 := by rw [h]
 have h := h.symm
 unfold vV at h h0
 by_cases h1 : (!(qf ax ay && qf bx b_y && qf cx cy)) = true
 · rw [if_pos h1] at h0; exact (GG (by decide) h0).elim
 rw [if_neg h1] at h h0
 by_cases h2 : r < 1 ∨ r > 8000000
 · rw [if_pos h2] at h0; exact (GG (by decide) h0).elim
 rw [if_neg h2] at h h0
 by_cases h3 : (ax = bx ∧ ay = b_y) ∨ (bx = cx ∧ b_y = cy)
 · rw [if_pos h3] at h0; exact (GG (by decide) h0).elim
 rw [if_neg h3] at h h0
 obtain ⟨g1, g2, g3, X, Y, sx, sy, ex, ey, g4, q1, q2, q3, q4, q5, q6, q7, q8, q9⟩ := GH h0
 rw [← h] at g4
 simp only [List.cons.injEq, and_true] at g4
 obtain ⟨rfl, rfl, rfl, rfl, rfl, rfl, rfl, rfl, rfl, rfl⟩ := g4
 have hv : qf ax ay = true ∧ qf bx b_y = true ∧ qf cx cy = true := by
  cases e1 : qf ax ay <;> cases e2 : qf bx b_y <;> cases e3 : qf cx cy <;> rw [e1, e2, e3] at h1 <;> simp at h1 ⊢
 exact ⟨hv, fun e => h3 (.inl e), fun e => h3 (.inr e), by omega, _, _, _, rfl, rfl, rfl, g1, g2, g3, q1, q2, q3, q4, q5, q6, rfl, q8, q9⟩
theorem Su {ax ay bx b_y : Int} (h1 : qf ax ay = true) (h2 : qf bx b_y = true) (hne : ¬ (ax = bx ∧ ay = b_y)) : qJ ax ay bx b_y ≠ 0 := fun e => by
 have := KJ h1 h2 (by omega)
 omega
theorem SI {ax ay bx b_y cx cy r v0 v1 v2 v3 v4 v5 v6 v7 v8 v9 : Int} (h : vV ax ay bx b_y cx cy r = ([v0, v1, v2, v3, v4, v5, v6, v7, v8, v9], 0)) :
 Sg ax ay bx b_y v5 v6 ∧ Sg bx b_y cx cy v7 v8 := by
 obtain ⟨⟨w1, w2, w3⟩, n1, n2, hr, X, Y, l, hX, hY, hl, hD, l1, l2, e5, e6, e7, e8, _, _, _, k1, k2⟩ := Sl h
 have l0 : 0 ≤ l := by rw [hl]; exact (Zc (by omega) hD).2.2
 refine ⟨Sh w1 w2 k1 ?_, Sh w2 w3 k2 ?_⟩
 · obtain ⟨a0, a1, a2, a3, a4⟩ := YE w1 w2 (Su w1 w2 n1)
   have A := Rx a0 a3 a4 a1 a2
   rw [← hX] at A
   have hs := Vy (a := zg X 64800000) (x := X) (by rw [jD]; unfold norm; omega)
   unfold zQ at e5
   unfold zR at e6
   rw [hs.1] at e5
   rw [hs.2] at e6
   have u := Sc l (-qV X) (v5 - bx) (by omega)
   have v := Sc l (-qX X) (v6 - b_y) (by omega)
   rw [Int.mul_neg, ← Int.neg_mul] at u v
   have c := Ss (m := -l) a1 (by omega) A.1 A.2 u v
   have e : (bx - ax) * (v6 - ay) - (b_y - ay) * (v5 - ax) = (bx - ax) * (v6 - b_y) - (b_y - ay) * (v5 - bx) := by grind
   rw [e]
   exact c
 · obtain ⟨a0, a1, a2, a3, a4⟩ := YE w2 w3 (Su w2 w3 n2)
   have A := Rx a0 a3 a4 a1 a2
   rw [← hY] at A
   unfold zQ at e7
   unfold zR at e8
   have u := Sc l (qV Y) (v7 - bx) (by omega)
   have v := Sc l (qX Y) (v8 - b_y) (by omega)
   exact Ss (m := l) a1 (by omega) A.1 A.2 u v
theorem Sk {ax ay bx b_y : Int} (hx : -14 ≤ bx - ax ∧ bx - ax ≤ 14) (hy : -14 ≤ b_y - ay ∧ b_y - ay ≤ 14) : qJ ax ay bx b_y < 20 := by
 unfold qJ
 split
 · have a := Sj (bx - ax) (bx - ax) 14 hx.1 hx.2
   have b := Sj (b_y - ay) (b_y - ay) 14 hy.1 hy.2
   have : vO (jv ax ay bx b_y).toNat < 20 := ed (by
    unfold jv
    generalize (bx - ax) * (bx - ax) = z at *
    generalize (b_y - ay) * (b_y - ay) = z2 at *
    omega)
   omega
 · decide
theorem SB {ax ay bx b_y cx cy r v0 v1 v2 v3 v4 v5 v6 v7 v8 v9 : Int} (h : vV ax ay bx b_y cx cy r = ([v0, v1, v2, v3, v4, v5, v6, v7, v8, v9], 0))
 (hm : (qI v0 v1 v2 v3 (v4.tdiv 2) (qA v0 v1 v2 v3 (v4.tdiv 2))).2.2.2 = 0) :
 (¬ 1 ≤ qA v0 v1 v2 v3 (v4.tdiv 2) → qJ v5 v6 (qI v0 v1 v2 v3 (v4.tdiv 2) (qA v0 v1 v2 v3 (v4.tdiv 2))).1 (qI v0 v1 v2 v3 (v4.tdiv 2) (qA v0 v1 v2 v3 (v4.tdiv 2))).2.1 < 20) ∧
 (¬ 1 ≤ qA v0 v1 v2 (norm (v3 + v4.tdiv 2)) (v4 - v4.tdiv 2) → qJ (qI v0 v1 v2 v3 (v4.tdiv 2) (qA v0 v1 v2 v3 (v4.tdiv 2))).1 (qI v0 v1 v2 v3 (v4.tdiv 2) (qA v0 v1 v2 v3 (v4.tdiv 2))).2.1 v7 v8 < 20) := by
 have hB := WT h
 obtain ⟨⟨w1, w2, w3⟩, n1, n2, hr, X, Y, l, hX, hY, hl, hD, l1, l2, e5, e6, e7, e8, e0, e1, e3, k1, k2⟩ := Sl h
 clear h
 obtain ⟨b1, b2, b3, b4, b5, b6, b7⟩ := (vF _ _ _ _ _).1 hB
 have hh := mg v4
 have hopp : qV v3 = -qV (zg X (zr v4 32400000)) ∧ qX v3 = -qX (zg X (zr v4 32400000)) :=
  Vy (by rw [e3, jD, jD]; unfold norm; rcases Zd v4 with ⟨_, h⟩ | ⟨_, h⟩ <;> rw [h] <;> omega)
 obtain ⟨u, hu⟩ : ∃ u, u = v0 + zQ v2 v3 := ⟨_, rfl⟩
 obtain ⟨v, hv⟩ : ∃ v, v = v1 + zR v2 v3 := ⟨_, rfl⟩
 have near : (u - v5 ≤ 1 ∧ v5 - u ≤ 1) ∧ (v - v6 ≤ 1 ∧ v6 - v ≤ 1) := by
  have hu2 := hu
  have hv2 := hv
  unfold zQ at hu2 e0
  unfold zR at hv2 e1
  rw [hopp.1] at hu2
  rw [hopp.2] at hv2
  exact ⟨ZN e0 hu2, ZN e1 hv2⟩
 generalize hs1 : v4.tdiv 2 = s1 at *
 have hB1 : yX v0 v1 v2 v3 s1 = true := (vF _ _ _ _ _).2 ⟨b1, b2, b3, b4, b5, by omega, by omega⟩
 have nb := zM (v3 + s1)
 have hB2 : yX v0 v1 v2 (norm (v3 + s1)) (v4 - s1) = true := (vF _ _ _ _ _).2 ⟨b1, b2, b3, nb.1, nb.2, by omega, by omega⟩
 have len1 := yJ v0 v1 v2 v3 s1
 have len2 := yJ v0 v1 v2 (norm (v3 + s1)) (v4 - s1)
 have q1 := uh hB1
 have q2 := uh hB2
 have mid : ¬ 1 ≤ qA v0 v1 v2 v3 s1 → (qI v0 v1 v2 v3 s1 (qA v0 v1 v2 v3 s1)).1 = u ∧ (qI v0 v1 v2 v3 s1 (qA v0 v1 v2 v3 s1)).2.1 = v := fun hn => by
  have hz : qA v0 v1 v2 v3 s1 = 0 := by omega
  have hat := kG hB1 len1.1 (Int.le_refl _) hm
  rw [hat.1, hat.2, hz, yx _ _ _ b4 b5]
  exact ⟨hu.symm, hv.symm⟩
 refine ⟨fun hn => ?_, fun hn => ?_⟩
 · rw [(mid hn).1, (mid hn).2]
   exact Sk (by omega) (by omega)
 · have hz2 : qA v0 v1 v2 (norm (v3 + s1)) (v4 - s1) = 0 := by omega
   rw [hz2, JK] at q2
   have hp : 0 ≤ v2 * ((v4 - s1).natAbs : Int) := Int.mul_nonneg (by omega) (by omega)
   have hp2 : 2 * (v2 * ((v4 - s1).natAbs : Int)) < 20626481 := by
    clear near hu hv mid hopp e0 e1 e3 e5 e6 e7 e8
    omega
   have hle : v2 * (s1.natAbs : Int) ≤ v2 * ((v4 - s1).natAbs : Int) := Int.mul_le_mul_of_nonneg_left (by omega) (by omega)
   have RI : 0 ≤ v2 * (s1.natAbs : Int) := Int.mul_nonneg (by omega) (by omega)
   have hn1 : ¬ 1 ≤ qA v0 v1 v2 v3 s1 := by
    rw [q1, JK]
    omega
   rw [(mid hn1).1, (mid hn1).2]
   have hrd : v2 * (v4.natAbs : Int) ≤ 2 * (v2 * ((v4 - s1).natAbs : Int)) := by
    have := Int.mul_le_mul_of_nonneg_left (show (v4.natAbs : Int) ≤ 2 * ((v4 - s1).natAbs : Int) by omega) (show 0 ≤ v2 by omega)
    have e : v2 * (2 * ((v4 - s1).natAbs : Int)) = 2 * (v2 * ((v4 - s1).natAbs : Int)) := by grind
    omega
   have L := Zc (r := v2) (d := v4) (by omega) hD
   rw [← hl] at L
   obtain ⟨hd, hhd⟩ : ∃ k : Nat, (v4.natAbs : Int) / 2 = (k : Int) := ⟨v4.natAbs / 2, by omega⟩
   rw [hhd] at L
   have hc := bk (h := (hd : Int)) (by omega) (by omega)
   have lp := (GD hd 0).1
   rw [Int.zero_add, show qV 0 = 0 from by decide +kernel, Int.sub_zero] at lp
   have h1 := Int.mul_le_mul_of_nonneg_left lp.2 (show 0 ≤ v2 by omega)
   have h2 : v2 * (84 * (hd : Int)) ≤ 42 * (v2 * (v4.natAbs : Int)) := by
    have := Int.mul_le_mul_of_nonneg_left (show 84 * (hd : Int) ≤ 42 * (v4.natAbs : Int) by omega) (show 0 ≤ v2 by omega)
    have e : v2 * (42 * (v4.natAbs : Int)) = 42 * (v2 * (v4.natAbs : Int)) := by grind
    omega
   have l4 : l ≤ 4 := by
    rcases Int.lt_or_le 4 l with h | h
    · have h3 := Int.mul_le_mul (show (4 : Int) ≤ l - 1 by omega) hc (by decide) (by omega)
      have L1 := L.1
      clear lp near mid
      generalize (l - 1) * qX (hd : Int) = z1 at *
      generalize v2 * qV (hd : Int) = z2 at *
      generalize v2 * (84 * (hd : Int)) = z3 at *
      generalize v2 * (v4.natAbs : Int) = z4 at *
      generalize v2 * ((v4 - s1).natAbs : Int) = z5 at *
      omega
    · exact h
   have l0 := L.2.2
   have x5 := Si (u := v5 - bx) l0 (kJ (zg X 64800000)) (by unfold zQ at e5; omega)
   have x6 := Si (u := v6 - b_y) l0 (uj (zg X 64800000)) (by unfold zR at e6; omega)
   have x7 := Si (u := v7 - bx) l0 (kJ Y) (by unfold zQ at e7; omega)
   have x8 := Si (u := v8 - b_y) l0 (uj Y) (by unfold zR at e8; omega)
   clear e0 e1 e3 e5 e6 e7 e8 L lp h1 h2 hu hv hopp mid
   exact Sk (by omega) (by omega)
def Sb (P : Int → Int × Int) (n px py : Int) : Prop := Sg (P (n - 1)).1 (P (n - 1)).2 (P n).1 (P n).2 px py
def Aa (P : Int → Int × Int) (x : El) : Prop := x.c = false → 1 ≤ x.n → qJ x.ax x.ay x.bx x.b_y < 20 ∨ (Sb P x.n x.ax x.ay ∧ Sb P x.n x.bx x.b_y)
def ib (P : Int → Int × Int) (d : Dw) : Prop := ∀ x ∈ d.els, Aa P x
theorem SJ {P : Int → Int × Int} {d : Dw} {x : El} (h : ib P d) (hx : Aa P x) : ib P (ur d x) := fun y hy => by
 rcases List.mem_append.1 hy with hy | hy
 · exact h y hy
 · rw [List.mem_singleton.1 hy]
   exact hx
theorem Sn {P : Int → Int × Int} {d : Dw} {qx qy n : Int} (h : ib P d) (hl : 1 ≤ n → qJ d.px d.py qx qy < 20 ∨ (Sb P n d.px d.py ∧ Sb P n qx qy)) : ib P (zJ d qx qy n) := by
 unfold zJ
 split
 · exact h
 · exact SJ h (fun _ hn => hl hn)
theorem SK {P : Int → Int × Int} {d : Dw} {cx cy r f s qx qy n : Int} (h : ib P d) (hl : ¬ 1 ≤ qA cx cy r f s → qJ d.px d.py qx qy < 20) : ib P (yu d cx cy r f s qx qy n) := by
 unfold yu
 split
 · exact SJ h (fun hc => by cases hc)
 · rename_i h1
   exact Sn h (fun _ => .inl (hl h1))
structure SU (P : Int → Int × Int) (t : Tk) : Prop where
 k : t.k = 1
 g : t.g = false
 v : ra t
 b : t.bx = (P t.n).1 ∧ t.b_y = (P t.n).2
 leg : 1 ≤ t.n → t.ax = (P (t.n - 1)).1 ∧ t.ay = (P (t.n - 1)).2
 first : t.n < 1 → t.len < 1 ∧ t.ax = t.bx ∧ t.ay = t.b_y
def Sw : List Tk → Prop
 | [] => True
 | x :: r => (∀ y, r.head? = some y → y.ax = x.bx ∧ y.ay = x.b_y ∧ y.n = x.n + 1) ∧ Sw r
theorem Ab {P : Int → Int × Int} {t : Tk} (h : SU P t) (hn : 1 ≤ t.n) : Sb P t.n t.ax t.ay := by
 unfold Sb
 rw [← (h.leg hn).1, ← (h.leg hn).2, ← h.b.1, ← h.b.2]
 exact SP h.v.1 h.v.2
theorem Ac {P : Int → Int × Int} {t : Tk} (h : SU P t) (hn : 1 ≤ t.n) : Sb P t.n t.bx t.b_y := by
 unfold Sb
 rw [← (h.leg hn).1, ← (h.leg hn).2, ← h.b.1, ← h.b.2]
 exact SR h.v.1 h.v.2
theorem SZ {P : Int → Int × Int} {rad : Int} {d d' : Dw} {x y : Tk} (h : ib P d) (hx : SU P x) (hy : SU P y) (hc : y.ax = x.bx ∧ y.ay = x.b_y ∧ y.n = x.n + 1) (hn : 1 ≤ x.n) (hp : Sb P x.n d.px d.py) (hd : Kw rad d x y = some d') : ib P d' ∧ Sb P y.n d'.px d'.py := by
 unfold Kw at hd
 split at hd
 · cases hd
 rename_i r _
 split at hd
 · cases hd
 rename_i h1
 obtain ⟨F, e, hF⟩ : ∃ F e, vV x.ax x.ay x.bx x.b_y y.bx y.b_y r = (F, e) := ⟨_, _, rfl⟩
 rw [hF] at hd h1
 have he : e = 0 := Classical.byContradiction fun hn => h1 (.inl hn)
 subst he
 obtain ⟨p, q, u, f, s, sx, sy, ex, ey, k, rfl, v1, v2⟩ := PX hF
 unfold vk at hd
 dsimp only at hd
 split at hd
 · cases hd
 · rename_i h2
   injection hd with hd
   subst hd
   have L := SI hF
   have S := SB hF (Classical.not_not.1 h2)
   have e1 := Zu d sx sy x.n
   have oS : Sb P x.n sx sy := by
    unfold Sb
    rw [← (hx.leg hn).1, ← (hx.leg hn).2, ← hx.b.1, ← hx.b.2]
    exact L.1
   have oE : Sb P y.n ex ey := by
    unfold Sb
    have hy1 : 1 ≤ y.n := by omega
    rw [← (hy.leg hy1).1, ← (hy.leg hy1).2, ← hy.b.1, ← hy.b.2, hc.1, hc.2.1]
    exact L.2
   have e2 := lG (zJ d sx sy x.n) p q u f (s.tdiv 2) (qI p q u f (s.tdiv 2) (qA p q u f (s.tdiv 2))).1 (qI p q u f (s.tdiv 2) (qA p q u f (s.tdiv 2))).2.1 x.n
   refine ⟨SK (SK (Sn h (fun _ => .inr ⟨hp, oS⟩)) (fun h3 => ?_)) (fun h3 => ?_), ?_⟩
   · rw [e1.1, e1.2]
     exact S.1 h3
   · rw [e2.1, e2.2]
     exact S.2 h3
   · have e3 := lG (yu (zJ d sx sy x.n) p q u f (s.tdiv 2) (qI p q u f (s.tdiv 2) (qA p q u f (s.tdiv 2))).1 (qI p q u f (s.tdiv 2) (qA p q u f (s.tdiv 2))).2.1 x.n) p q u (norm (f + s.tdiv 2)) (s - s.tdiv 2) ex ey y.n
     rw [e3.1, e3.2]
     exact oE
theorem Sf {P : Int → Int × Int} {l : List En} {rad : Int} : ∀ (r : List Tk) (first done : Bool) (d : Dw), ib P d → (∀ t ∈ r, SU P t) → Sw r → (∀ t ∈ r, (zI l t).ov = false) → (∀ x, r.head? = some x → (first = true → done = false ∧ (zI l x).ty = 1) ∧ (done = true → Sb P x.n d.px d.py ∧ 1 ≤ x.n) ∧ (first = false → done = false → d.px = x.ax ∧ d.py = x.ay)) →
 (yU l rad first done d r).2.2 = 0 → ib P (yU l rad first done d r).1
 | [], first, done, d, h, hT, hC, hO, hP, he => h
 | x :: r, first, done, d, h, hT, hC, hO, hP, he => by
   have tx := hT x (.head _)
   obtain ⟨p1, p2, p3⟩ := hP x rfl
   -- the pen behind zW
   have key : ib P (zW l first done d x) ∧ (1 ≤ x.n → Sb P x.n (zW l first done d x).px (zW l first done d x).py) ∧ (x.n < 1 → (zW l first done d x).px = x.bx ∧ (zW l first done d x).py = x.b_y) := by
    rw [kD]
    rcases done with _ | _
    · rw [if_neg (by simp)]
      have hpen : ib P (vC l first d x) ∧ (vC l first d x).px = x.ax ∧ (vC l first d x).py = x.ay := by
       unfold vC
       rcases first with _ | _
       · rw [if_neg (by rw [tx.g]; simp)]
         exact ⟨h, (p3 rfl rfl).1, (p3 rfl rfl).2⟩
       · rw [if_pos (.inr ⟨rfl, (p1 rfl).2⟩)]
         exact ⟨h, rfl, rfl⟩
      have hl : zJ (vC l first d x) x.ax x.ay x.n = vC l first d x := by
       unfold zJ
       rw [if_pos hpen.2]
      rw [hl, hpen.2.1, hpen.2.2]
      exact ⟨hpen.1, fun hn => Ab tx hn, fun hn => (tx.first hn).2⟩
    · rw [if_pos rfl]
      have hf : first = false := by
       cases hq : first with
       | false => rfl
       | true => have := (p1 hq).1; cases this
      have hdn : vC l first d x = d := by
       unfold vC
       rw [hf, if_neg (by rw [tx.g]; simp)]
      rw [hdn]
      exact ⟨h, fun _ => (p2 rfl).1, fun hn => by have := (p2 rfl).2; omega⟩
   have h2 : x.k ≠ 2 := by rw [tx.k]; decide
   have h3 : x.k ≠ 3 := by rw [tx.k]; decide
   have hT' := fun t ht => hT t (.tail _ ht)
   have hO' := fun t ht => hO t (.tail _ ht)
   generalize hd2 : zW l first done d x = d2 at *
   have hl : ib P (zJ d2 x.bx x.b_y x.n) := Sn key.1 (fun hn => .inr ⟨key.2.1 hn, Ac tx hn⟩)
   have hpl := Zu d2 x.bx x.b_y x.n
   cases r with
   | nil =>
     rw [Qm h2 h3, hd2]
     exact hl
   | cons y r =>
     have hc := hC.1 y rfl
     by_cases hn : y.g = true ∨ kU rad (zW l first done d x) (zI l x) (zI l y) x y = none
     · rw [bi h2 h3 hn, hd2] at he ⊢
       refine Sf (y :: r) _ _ _ hl hT' hC.2 hO' (fun z hz => ?_) he
       injection hz with hz
       subst hz
       exact ⟨(fun e => by cases e), (fun e => by cases e), fun _ _ => by rw [hpl.1, hpl.2, hc.1, hc.2.1]; exact ⟨rfl, rfl⟩⟩
     · have ty := hT' y (.head _)
       obtain ⟨⟨d', y'⟩, hq⟩ : ∃ q, kU rad (zW l first done d x) (zI l x) (zI l y) x y = some q := Option.ne_none_iff_exists'.1 (fun e => hn (.inr e))
       rw [ZB h2 h3 ty.g hq] at he ⊢
       rw [hd2] at hq
       have hxn : 1 ≤ x.n := by
        rcases Int.lt_or_le x.n 1 with h1 | h1
        · have := (tx.first h1).1
          unfold kU at hq
          rw [if_pos (.inr (.inr (.inl this)))] at hq
          cases hq
        · exact h1
       unfold kU at hq
       split at hq
       · cases hq
       rw [hO x (.head _), if_neg (by simp)] at hq
       split at hq
       · cases hq
       obtain ⟨d3, h5, h6⟩ := Option.map_eq_some_iff.1 hq
       injection h6 with h6 h7
       subst h6 h7
       obtain ⟨t1, t2⟩ := SZ key.1 tx ty hc hxn (key.2.1 hxn) h5
       refine Sf (y :: r) _ _ _ t1 hT' hC.2 hO' (fun z hz => ?_) he
       injection hz with hz
       subst hz
       exact ⟨(fun e => by cases e), (fun _ => ⟨t2, by omega⟩), fun _ e => by cases e⟩
termination_by r => r.length
theorem Sz {l r : List En} {i : Nat} {x : En} (h : x :: r = l.drop i) : l[i]? = some x ∧ r = l.drop (i + 1) := by
 have h1 : (l.drop i)[0]? = some x := by rw [← h]; rfl
 rw [List.getElem?_drop] at h1
 refine ⟨h1, ?_⟩
 rw [← List.drop_drop, ← h]
 rfl
def Sq (l : List En) (n : Int) : Int × Int := (((l[n.toNat]?).getD JN).ex, ((l[n.toNat]?).getD JN).ey)
theorem SL (ax ay bx b_y c : Int) : (qY ax ay bx b_y c).k = 1 ∧ (qY ax ay bx b_y c).g = false ∧ (qY ax ay bx b_y c).ax = ax ∧ (qY ax ay bx b_y c).ay = ay ∧ (qY ax ay bx b_y c).bx = bx ∧ (qY ax ay bx b_y c).b_y = b_y := by
 unfold qY
 split <;> exact ⟨rfl, rfl, rfl, rfl, rfl, rfl⟩
theorem Sm {L : List En} {spd bank oalt gr : Int} : ∀ (l : List En) (pv : Option En) (i : Nat) (fx fy c alt : Int), l = L.drop i → Zk pv = false → (∀ x ∈ l, x.gap = false ∧ x.ov = false) → (∀ (j : Nat) (x : En), L[j]? = some x → if j = 0 then x.ty = 1 else x.ty = 2) → (0 < i → fx = (Sq L ((i : Int) - 1)).1 ∧ fy = (Sq L ((i : Int) - 1)).2) → (0 < i → qf fx fy = true) →
 (∀ t ∈ (qU spd bank oalt gr pv i fx fy c alt l).1, SU (Sq L) t ∧ (zI L t).ov = false) ∧ Sw (qU spd bank oalt gr pv i fx fy c alt l).1 ∧ (∀ t, (qU spd bank oalt gr pv i fx fy c alt l).1.head? = some t → t.n = (i : Int) ∧ (0 < i → t.ax = fx ∧ t.ay = fy))
 | [], pv, i, fx, fy, c, alt, hl, hq, hg, ht, hf, hv => ⟨(fun t h => by cases h), trivial, (fun t h => by cases h)⟩
 | x :: r, pv, i, fx, fy, c, alt, hl, hq, hg, ht, hf, hv => by
   obtain ⟨h1, h2⟩ := Sz hl
   have hx := hg x (.head _)
   by_cases he : (qP pv fx fy c alt x (zH r) spd bank oalt gr).2 = 0
   · obtain ⟨T, hT⟩ : ∃ T, qP pv fx fy c alt x (zH r) spd bank oalt gr = (T, 0) := ⟨_, Prod.ext rfl he⟩
     rw [jc hx.1 hT]
     have hT2 := hT
     unfold qP at hT2
     rw [if_neg (by rw [hq]; simp)] at hT2
     obtain ⟨_, _, _, hvv, _, hL⟩ := Th hT2
     have hty := ht i x h1
     have hP : Sq L (i : Int) = (x.ex, x.ey) := by
      unfold Sq
      rw [Int.toNat_natCast, h1]
      rfl
     have hlg : ∀ T : Tk, (zI L { T with n := (i : Int) }).ov = false := fun T => by
      unfold zI
      dsimp only
      rw [Int.toNat_natCast, h1]
      exact hx.2
     have hTT : SU (Sq L) { T with n := (i : Int) } ∧ T.bx = x.ex ∧ T.b_y = x.ey ∧ (0 < i → T.ax = fx ∧ T.ay = fy) := by
      unfold vR at hL
      by_cases h0 : i = 0
      · rw [if_pos h0] at hty
        rw [if_pos hty] at hL
        injection hL with hL _
        have s := SL x.ex x.ey x.ex x.ey c
        have hlen : (qY x.ex x.ey x.ex x.ey c).len = 0 := by unfold qY; rw [if_pos ⟨rfl, rfl⟩]; rfl
        rw [hL] at s hlen
        subst h0
        refine ⟨⟨s.1, s.2.1, ⟨?_, ?_⟩, ?_, fun hn => ?_, fun _ => ⟨?_, ?_, ?_⟩⟩, s.2.2.2.2.1, s.2.2.2.2.2, fun h => by omega⟩
        · show qf T.ax T.ay = true
          rw [s.2.2.1, s.2.2.2.1]; exact hvv.2.1
        · show qf T.bx T.b_y = true
          rw [s.2.2.2.2.1, s.2.2.2.2.2]; exact hvv.2.1
        · show T.bx = (Sq L ((0 : Nat) : Int)).1 ∧ T.b_y = (Sq L ((0 : Nat) : Int)).2
          rw [hP, s.2.2.2.2.1, s.2.2.2.2.2]; exact ⟨rfl, rfl⟩
        · exact absurd hn (by show ¬ (1 : Int) ≤ ((0 : Nat) : Int); decide)
        · show T.len < 1
          rw [hlen]; decide
        · show T.ax = T.bx
          rw [s.2.2.1, s.2.2.2.2.1]
        · show T.ay = T.b_y
          rw [s.2.2.2.1, s.2.2.2.2.2]
      · rw [if_neg h0] at hty
        rw [if_neg (by omega), if_pos (.inl hty)] at hL
        injection hL with hL _
        have s := SL fx fy x.ex x.ey c
        rw [hL] at s
        have hf' := hf (by omega)
        refine ⟨⟨s.1, s.2.1, ⟨?_, ?_⟩, ?_, fun hn => ?_, fun hn => ?_⟩, s.2.2.2.2.1, s.2.2.2.2.2, fun _ => ⟨s.2.2.1, s.2.2.2.1⟩⟩
        · show qf T.ax T.ay = true
          rw [s.2.2.1, s.2.2.2.1]; exact hvv.1
        · show qf T.bx T.b_y = true
          rw [s.2.2.2.2.1, s.2.2.2.2.2]; exact hvv.2.1
        · show T.bx = (Sq L (i : Int)).1 ∧ T.b_y = (Sq L (i : Int)).2
          rw [hP, s.2.2.2.2.1, s.2.2.2.2.2]; exact ⟨rfl, rfl⟩
        · show T.ax = (Sq L ((i : Int) - 1)).1 ∧ T.ay = (Sq L ((i : Int) - 1)).2
          rw [s.2.2.1, s.2.2.2.1]; exact hf'
        · exact absurd hn (by show ¬ (i : Int) < 1; omega)
     have ih := Sm (spd := spd) (bank := bank) (oalt := oalt) (gr := gr) r (some x) (i + 1) T.bx T.b_y T.co (kN x alt) h2 (by show x.gap = false; exact hx.1) (fun z hz => hg z (.tail _ hz)) ht (fun _ => by
      rw [show ((i + 1 : Nat) : Int) - 1 = (i : Int) by omega, hP]
      exact ⟨hTT.2.1, hTT.2.2.1⟩) (fun _ => hTT.1.v.2)
     unfold yf
     split
     · exact ⟨(fun t h => by cases h), trivial, (fun t h => by cases h)⟩
     · refine ⟨fun t h => ?_, ⟨fun y hy => ?_, ih.2.1⟩, fun t h => ?_⟩
       · rcases List.mem_cons.1 h with rfl | h
         · exact ⟨hTT.1, hlg T⟩
         · exact ih.1 t h
       · obtain ⟨a1, a2⟩ := ih.2.2 y hy
         have a3 := a2 (by omega)
         refine ⟨a3.1, a3.2, ?_⟩
         rw [a1]
         show ((i + 1 : Nat) : Int) = (i : Int) + 1
         omega
       · injection h with h
         subst h
         exact ⟨rfl, fun h0 => hTT.2.2.2 h0⟩
   · obtain ⟨T, e, hT⟩ : ∃ T e, qP pv fx fy c alt x (zH r) spd bank oalt gr = (T, e) := ⟨_, _, rfl⟩
     rw [hT] at he
     rw [jz hx.1 hT he]
     exact ⟨(fun t h => by cases h), trivial, (fun t h => by cases h)⟩
theorem SF {pa pb : ByteArray} {l : List En} {fx fy c spd bank oalt gr : Int} {R : Int × Int} (hx : ∀ (k : Nat) (x : En), l[k]? = some x → x.gap = false ∧ x.ov = false ∧ if k = 0 then x.ty = 1 else x.ty = 2)
 (h : (ji l fx fy R (qO pa pb l (-1) fx fy c spd bank oalt gr)).2.2 = 0) : ∀ x ∈ (ji l fx fy R (qO pa pb l (-1) fx fy c spd bank oalt gr)).1, Aa (Sq l) x := by
 have hT : (qO pa pb l (-1) fx fy c spd bank oalt gr).2.2 = 0 := by
  unfold ji at h
  by_cases h1 : (qO pa pb l (-1) fx fy c spd bank oalt gr).2.2 ≠ 0
  · rw [if_pos h1] at h; exact absurd h h1
  · exact Classical.not_not.1 h1
 obtain ⟨hp, hv, hG⟩ := ku hT
 rw [hG] at h hT ⊢
 have hb : qN (-1) = 0 := by decide
 rw [hb, List.drop_zero] at h hT ⊢
 by_cases hl0 : l = []
 · subst hl0
   have e : qU spd bank oalt gr none 0 fx fy c oalt [] = ([], 0, 0) := rfl
   rw [e]
   unfold ji
   rw [if_neg (by simp)]
   split
   · intro x hx; cases hx
   · intro x hx; cases hx
 have hl0 : 0 < l.length := List.length_pos_iff.2 hl0
 have K := Sm (L := l) (spd := spd) (bank := bank) (oalt := oalt) (gr := gr) l none 0 fx fy c oalt rfl rfl (fun x hm => by
  obtain ⟨k, hk⟩ := List.getElem?_of_mem hm
  have := hx k x hk
  exact ⟨this.1, this.2.1⟩) (fun k x hk => (hx k x hk).2.2) (fun h => by omega) (fun h => by omega)
 unfold ji at h ⊢
 rw [if_neg (by rw [hT]; simp)] at h ⊢
 by_cases hR0 : R.2 ≠ 0
 · rw [if_pos hR0] at h; exact absurd h hR0
 rw [if_neg hR0] at h ⊢
 generalize (qU spd bank oalt gr none 0 fx fy c oalt l).1 = T at *
 cases T with
 | nil => intro x hx; cases hx
 | cons y r =>
   dsimp only at h ⊢
   by_cases h1 : (ze l R.1 true false ⟨[], fx, fy, false⟩ y r).2.2 ≠ 0
   · rw [if_pos h1] at h; exact absurd h h1
   rw [if_neg h1] at h ⊢
   by_cases h2 : ((ze l R.1 true false ⟨[], fx, fy, false⟩ y r).1.els.length : Int) > 500
   · rw [if_pos h2] at h; cases h
   rw [if_neg h2]
   have hy := (K.2.2 y rfl).1
   refine Sf (P := Sq l) (l := l) (rad := R.1) (y :: r) true false ⟨[], fx, fy, false⟩ (fun x hx => by cases hx) (fun t ht => (K.1 t ht).1) K.2.1 (fun t ht => (K.1 t ht).2) (fun x hx2 => ?_) (Classical.not_not.1 h1)
   injection hx2 with hx2
   subst hx2
   refine ⟨fun _ => ⟨rfl, ?_⟩, (fun e => by cases e), (fun e => by cases e)⟩
   obtain ⟨e, he⟩ : ∃ e, l[0]? = some e := ⟨_, List.getElem?_eq_getElem hl0⟩
   have h3 := (hx 0 e he).2.2
   rw [if_pos rfl] at h3
   have hlg : zI l y = e := by
    unfold zI
    rw [hy, Int.toNat_natCast, he]
    rfl
   rw [hlg]
   exact h3
end Go.Proofs.YtdlognnifmihnaaGreatDoor
