/-
  A point of an arc is found on it, at its length (chapter 12). No program.
-/
import Derived.Test.YteanfgobpjdmnaaGreatDoorMSeries
namespace Go.Proofs.YteanfgobpjdmnaaGreatDoor
set_option linter.unusedVariables false
theorem Ah (a : Int) : ∃ δ : Int, norm δ = norm a ∧ -64800000 < δ ∧ δ ≤ 64800000 := by
 by_cases h : norm a ≤ 64800000
 · exact ⟨norm a, by unfold norm; omega, by unfold norm at *; omega, h⟩
 · exact ⟨norm a - 129600000, by unfold norm; omega, by omega, by unfold norm at *; omega⟩
theorem Al {d : Int} (h : -64800000 < d ∧ d ≤ 64800000) (hc : 0 < qX d) : -32400000 ≤ d ∧ d ≤ 32400000 := by
 have key : ∀ x : Int, 32400000 < x → x ≤ 64800000 → qX x ≤ 0 := fun x h1 h2 => by
  rw [Dp (by omega) h2]
  have := Qz (a := x - 32400000) (by omega) (by omega)
  omega
 constructor
 · rcases Int.lt_or_le d (-32400000) with h1 | h1
   · have := key (-d) (by omega) (by omega)
     rw [YS] at this
     omega
   · exact h1
 · rcases Int.lt_or_le 32400000 d with h1 | h1
   · have := key d h1 h.2
     omega
   · exact h1
def lz (a : Int) : Prop := (-84 ≤ qV (a + 1) - qV a ∧ qV (a + 1) - qV a ≤ 84) ∧ (-84 ≤ qX (a + 1) - qX a ∧ qX (a + 1) - qX a ≤ 84)
theorem Uf {a : Int} (h : 0 ≤ a) (h2 : a < 32400000) : -84 ≤ qV (a + 1) - qV a ∧ qV (a + 1) - qV a ≤ 84 := by
 have hm := Jj h (show a ≤ a + 1 by omega) (by omega)
 refine ⟨by omega, ?_⟩
 rw [QS h (by omega), QS (by omega) (by omega)]
 by_cases h3 : a < 16200000
 · have := (JU h h3).1
   rw [bf (by omega), bf (by omega)]
   omega
 · have e1 := gz (x := 32400000 - a) (by omega) (by omega)
   have e2 := gz (x := 32400000 - (a + 1)) (by omega) (by omega)
   rw [show 32400000 - (32400000 - a) = a from by omega] at e1
   rw [show 32400000 - (32400000 - (a + 1)) = a + 1 from by omega] at e2
   rw [e1, e2]
   have := (JU (a := 32400000 - (a + 1)) (by omega) (by omega)).2
   rw [show 32400000 - (a + 1) + 1 = 32400000 - a from by omega] at this
   exact this
theorem mP {a : Int} (h : 0 ≤ a) (h2 : a < 32400000) : lz a := by
 refine ⟨Uf h h2, ?_⟩
 have := Uf (a := 32400000 - (a + 1)) (by omega) (by omega)
 rw [show 32400000 - (a + 1) + 1 = 32400000 - a from by omega, vg, vg] at this
 omega
theorem lz.turn {a : Int} (h : lz a) : lz (a + 32400000) := by
 unfold lz at *
 rw [show a + 32400000 + 1 = a + 1 + 32400000 from by omega, je, je, jS, jS]
 omega
theorem Ro (a : Int) : lz a := by
 have hb := zM a
 have e : lz (norm a) := by
  generalize norm a = n at *
  by_cases h1 : n < 32400000
  · exact mP hb.1 h1
  · by_cases h2 : n < 64800000
    · have := (mP (a := n - 32400000) (by omega) (by omega)).turn
      rwa [show n - 32400000 + 32400000 = n from by omega] at this
    · by_cases h3 : n < 97200000
      · have := (mP (a := n - 64800000) (by omega) (by omega)).turn.turn
        rwa [show n - 64800000 + 32400000 + 32400000 = n from by omega] at this
      · have := (mP (a := n - 97200000) (by omega) (by omega)).turn.turn.turn
        rwa [show n - 97200000 + 32400000 + 32400000 + 32400000 = n from by omega] at this
 unfold lz at *
 rw [ve (norm a + 1) (a + 1) (by unfold norm; omega), kR (norm a + 1) (a + 1) (by unfold norm; omega), Kk, Kl] at e
 exact e
theorem GD : ∀ (k : Nat) (a : Int), (-(84 * (k : Int)) ≤ qV (a + k) - qV a ∧ qV (a + k) - qV a ≤ 84 * k) ∧ (-(84 * (k : Int)) ≤ qX (a + k) - qX a ∧ qX (a + k) - qX a ≤ 84 * k)
 | 0, a => by simp
 | k + 1, a => by
   have h := GD k a
   have h1 := Ro (a + k)
   unfold lz at h1
   rw [show a + ((k + 1 : Nat) : Int) = a + k + 1 from by omega]
   omega
theorem Bu {r S p k : Int} (h : -(1073741824 * k) ≤ r * S - 1073741824 * p ∧ r * S - 1073741824 * p ≤ 1073741824 * k) : jG 2 (r * S) 1073741824 - p ≤ k ∧ p - jG 2 (r * S) 1073741824 ≤ k := by
 have := zO (r * S)
 omega
theorem ZM {p q r : Int} (h0 : ¬ (p = 0 ∧ q = 0)) (hr1 : r * r ≤ p * p + q * q) (hr2 : p * p + q * q < (r + 1) * (r + 1)) (hr : 1 ≤ r) (hr8 : r ≤ 6000000) :
 (zQ r (qZ p q) - p ≤ 2 ∧ p - zQ r (qZ p q) ≤ 2) ∧ (zR r (qZ p q) - q ≤ 2 ∧ q - zR r (qZ p q) ≤ 2) := by
 have h := Rx h0 hr1 hr2 hr hr8
 exact ⟨Bu (k := 2) (by omega), Bu (k := 2) (by omega)⟩
theorem wI {p q r n dir : Int} (h0 : ¬ (p = 0 ∧ q = 0)) (hn1 : n * n ≤ p * p + q * q) (hn2 : p * p + q * q < (n + 1) * (n + 1)) (hn : 1 ≤ n) (hn8 : n ≤ 6000000) (hr : r - n ≤ 8 ∧ n - r ≤ 8) (hr0 : 0 ≤ r)
 (hd : norm dir = norm (qZ p q) ∨ ∃ s : Nat, (norm (dir + s) = norm (qZ p q) ∨ norm (qZ p q + s) = norm dir) ∧ 2 * (r * s) < 20626481) :
 (zQ r dir - p ≤ 12 ∧ p - zQ r dir ≤ 12) ∧ (zR r dir - q ≤ 12 ∧ q - zR r dir ≤ 12) := by
 have h := Rx h0 hn1 hn2 hn hn8
 have bs := kJ (qZ p q)
 have bc := uj (qZ p q)
 have m1 := zj (x := r - n) (X := 8) (by omega) bs
 have m2 := zj (x := r - n) (X := 8) (by omega) bc
 rw [Int.sub_mul] at m1 m2
 have hl : (-866312202 ≤ r * (qV dir - qV (qZ p q)) ∧ r * (qV dir - qV (qZ p q)) ≤ 866312202) ∧ (-866312202 ≤ r * (qX dir - qX (qZ p q)) ∧ r * (qX dir - qX (qZ p q)) ≤ 866312202) := by
  rcases hd with hd | ⟨s, hd, hs⟩
  · rw [ve _ _ hd, kR _ _ hd]
    simp
  · have hs' : r * (84 * (s : Int)) ≤ 866312202 := by
     have : r * (84 * (s : Int)) = 84 * (r * s) := by grind
     omega
    have fin : ∀ v : Int, -(84 * (s : Int)) ≤ v ∧ v ≤ 84 * s → -866312202 ≤ r * v ∧ r * v ≤ 866312202 := fun v hv => by
     have a := Int.mul_le_mul_of_nonneg_left hv.1 hr0
     have b := Int.mul_le_mul_of_nonneg_left hv.2 hr0
     rw [Int.mul_neg] at a
     omega
    rcases hd with hd | hd
    · have l := GD s dir
      rw [ve _ _ hd, kR _ _ hd] at l
      exact ⟨fin _ (by omega), fin _ (by omega)⟩
    · have l := GD s (qZ p q)
      rw [ve _ _ hd, kR _ _ hd] at l
      exact ⟨fin _ (by omega), fin _ (by omega)⟩
 rw [Int.mul_sub, Int.mul_sub] at hl
 exact ⟨Bu (k := 12) (by omega), Bu (k := 12) (by omega)⟩
theorem JA (n d : Int) (hd : 0 < d) : (jG 1 n d - 1) * d < n ∧ n ≤ jG 1 n d * d := by
 unfold jG
 simp only [show (1 : Nat) ≠ 0 from by decide, if_false, if_true]
 have := ZW (-n) d hd
 generalize (-n).fdiv d = k at *
 have e1 : (-k - 1) * d = -(k * d) - d := by grind
 have e2 : -k * d = -(k * d) := by grind
 omega
theorem Ug {R lead h m Cx Cy Sx Sy : Int} (hR : 0 ≤ R) (hR8 : R ≤ 8000000) (hl : 0 ≤ lead) (hl8 : lead ≤ 6000000)
 (h1 : (lead - 1) * qX h < R * qV h) (h2 : R * qV h ≤ lead * qX h)
 (hSx : -110 ≤ Sx - qV (m - h) ∧ Sx - qV (m - h) ≤ 110) (hCx : -110 ≤ Cx - qX (m - h) ∧ Cx - qX (m - h) ≤ 110)
 (hSy : -110 ≤ Sy - qV (m + h) ∧ Sy - qV (m + h) ≤ 110) (hCy : -110 ≤ Cy - qX (m + h) ∧ Cy - qX (m + h) ≤ 110) (hC : 0 ≤ qX h) :
 (-(6 * 1073741824) ≤ R * (Cx - Cy) - lead * (Sx + Sy) ∧ R * (Cx - Cy) - lead * (Sx + Sy) ≤ 6 * 1073741824) ∧ (-(6 * 1073741824) ≤ R * (Sy - Sx) - lead * (Cx + Cy) ∧ R * (Sy - Sx) - lead * (Cx + Cy) ≤ 6 * 1073741824) := by
 have a := adds m h
 have s := subs m h
 unfold QO at a
 have bm := kJ m
 have bm' := uj m
 have bh := uj h
 generalize qV (m - h) = Sxm at *
 generalize qX (m - h) = Cxm at *
 generalize qV (m + h) = Sym at *
 generalize qX (m + h) = Cym at *
 have hG : -1073741824 ≤ R * qV h - lead * qX h ∧ R * qV h - lead * qX h ≤ 0 := by
  have e : (lead - 1) * qX h = lead * qX h - qX h := by grind
  omega
 obtain ⟨G, hGe⟩ : ∃ G, G = R * qV h - lead * qX h := ⟨_, rfl⟩
 rw [← hGe] at hG
 have g1 := zj (x := qV m) (X := 1073741824) (v := G) (V := 1073741824) bm (by omega)
 have g2 := zj (x := qX m) (X := 1073741824) (v := G) (V := 1073741824) bm' (by omega)
 -- sums and differences, times the scale
 have d1 : -(2 * 13958643712 + 220 * 1073741824) ≤ 1073741824 * (Cx - Cy) - 2 * (qV m * qV h) ∧ 1073741824 * (Cx - Cy) - 2 * (qV m * qV h) ≤ 2 * 13958643712 + 220 * 1073741824 := by omega
 have d2 : -(2 * 13958643712 + 220 * 1073741824) ≤ 1073741824 * (Sx + Sy) - 2 * (qV m * qX h) ∧ 1073741824 * (Sx + Sy) - 2 * (qV m * qX h) ≤ 2 * 13958643712 + 220 * 1073741824 := by omega
 have d3 : -(2 * 13958643712 + 220 * 1073741824) ≤ 1073741824 * (Sy - Sx) - 2 * (qX m * qV h) ∧ 1073741824 * (Sy - Sx) - 2 * (qX m * qV h) ≤ 2 * 13958643712 + 220 * 1073741824 := by omega
 have d4 : -(2 * 13958643712 + 220 * 1073741824) ≤ 1073741824 * (Cx + Cy) - 2 * (qX m * qX h) ∧ 1073741824 * (Cx + Cy) - 2 * (qX m * qX h) ≤ 2 * 13958643712 + 220 * 1073741824 := by omega
 have p1 := zj (x := R) (X := 8000000) (by omega) d1
 have p2 := zj (x := lead) (X := 6000000) (by omega) d2
 have p3 := zj (x := R) (X := 8000000) (by omega) d3
 have p4 := zj (x := lead) (X := 6000000) (by omega) d4
 have e1 : R * (1073741824 * (Cx - Cy) - 2 * (qV m * qV h)) - lead * (1073741824 * (Sx + Sy) - 2 * (qV m * qX h)) = 1073741824 * (R * (Cx - Cy) - lead * (Sx + Sy)) - 2 * (qV m * G) := by rw [hGe]; grind
 have e2 : R * (1073741824 * (Sy - Sx) - 2 * (qX m * qV h)) - lead * (1073741824 * (Cx + Cy) - 2 * (qX m * qX h)) = 1073741824 * (R * (Sy - Sx) - lead * (Cx + Cy)) - 2 * (qX m * G) := by rw [hGe]; grind
 omega
def zT (r d : Int) : Int := jG 1 (r * qV ((d.natAbs : Int) / 2)) (qX ((d.natAbs : Int) / 2))
def jV : List Int := [0, 0, 0, 0, 0, 0, 0, 0, 0, 0]
def gi (bx b_y x y r m n : Int) : List Int × Int :=
 if 54000000 < (zw x y).natAbs then (jV, 10) else
 if zT r (zw x y) > m ∨ zT r (zw x y) > n then (jV, 10) else
 if (zi bx b_y (zg x 64800000) (zT r (zw x y))).2.2 ≠ 0 then (jV, 2) else
 if (zi bx b_y y (zT r (zw x y))).2.2 ≠ 0 then (jV, 2) else
 if (zi (zi bx b_y (zg x 64800000) (zT r (zw x y))).1 (zi bx b_y (zg x 64800000) (zT r (zw x y))).2.1 (zg x (zr (zw x y) 32400000)) r).2.2 ≠ 0 then (jV, 2) else
 ([(zi (zi bx b_y (zg x 64800000) (zT r (zw x y))).1 (zi bx b_y (zg x 64800000) (zT r (zw x y))).2.1 (zg x (zr (zw x y) 32400000)) r).1,
   (zi (zi bx b_y (zg x 64800000) (zT r (zw x y))).1 (zi bx b_y (zg x 64800000) (zT r (zw x y))).2.1 (zg x (zr (zw x y) 32400000)) r).2.1,
   r, zg x (-zr (zw x y) 32400000), zw x y,
   (zi bx b_y (zg x 64800000) (zT r (zw x y))).1, (zi bx b_y (zg x 64800000) (zT r (zw x y))).2.1,
   (zi bx b_y y (zT r (zw x y))).1, (zi bx b_y y (zT r (zw x y))).2.1, zT r (zw x y)], 0)
def vV (ax ay bx b_y cx cy r : Int) : List Int × Int :=
 if !(qf ax ay && qf bx b_y && qf cx cy) then (jV, 1) else
 if r < 1 ∨ r > 8000000 then (jV, 2) else
 if (ax = bx ∧ ay = b_y) ∨ (bx = cx ∧ b_y = cy) then (jV, 10) else
 gi bx b_y (qZ (bx - ax) (b_y - ay)) (qZ (cx - bx) (cy - b_y)) r (qJ ax ay bx b_y) (qJ bx b_y cx cy)
def JB (cx cy r px py : Int) (right : Bool) : Int :=
 zg (qZ (px - cx) (py - cy)) (if right then -qZ (vO (jv cx cy px py - r * r).toNat) r else qZ (vO (jv cx cy px py - r * r).toNat) r)
def xX (cx cy r px py : Int) (right : Bool) : Int × Int × Int :=
 if !(qf cx cy && qf px py) then (0, 0, 1) else
 if r < 1 ∨ r > 8000000 then (0, 0, 2) else
 if jv cx cy px py ≤ r * r then (0, 0, 10) else
 if (zi cx cy (JB cx cy r px py right) r).2.2 ≠ 0 then (0, 0, 2) else
 ((zi cx cy (JB cx cy r px py right) r).1, (zi cx cy (JB cx cy r px py right) r).2.1, 0)
def kF (right : Bool) (x y : Int) : Int := if right then (if kK true x y = 0 then 129600000 else kK true x y) else -(if kK false x y = 0 then 129600000 else kK false x y)
def JC : List Int := [0, 0, 0, 0, 0]
def jh (ax ay cx cy bx b_y : Int) (right : Bool) : List Int × Int :=
 if !(qf ax ay && qf cx cy && qf bx b_y) then (JC, 1) else
 if qJ cx cy ax ay = 0 ∨ qJ cx cy bx b_y = 0 ∨ qJ cx cy ax ay - qJ cx cy bx b_y > 8 ∨ qJ cx cy bx b_y - qJ cx cy ax ay > 8 then (JC, 10) else
 ([cx, cy, qJ cx cy ax ay, qZ (ax - cx) (ay - cy), kF right (qZ (ax - cx) (ay - cy)) (qZ (bx - cx) (b_y - cy))], 0)
theorem bk {h : Int} (h0 : 0 ≤ h) (h1 : h ≤ 27000000) : 277000000 ≤ qX h := by
 rw [← vg]
 have := Jj (a := 5400000) (b := 32400000 - h) (by omega) (by omega) (by omega)
 have e : 277000000 ≤ qV 5400000 := by decide +kernel
 omega
theorem cV {h : Int} (h0 : 0 ≤ h) (h1 : h ≤ 5200000) : 1030000000 ≤ qX h := by
 rw [← vg]
 have := Jj (a := 27200000) (b := 32400000 - h) (by omega) (by omega) (by omega)
 have e : 1030000000 ≤ qV 27200000 := by decide +kernel
 omega
theorem Vx {h : Int} (h0 : 0 ≤ h) (h1 : h ≤ 32400000) : 0 ≤ qV h ∧ qV h ≤ 84 * h := by
 have := GD h.toNat 0
 have e : ((h.toNat : Nat) : Int) = h := by omega
 rw [e, Int.zero_add, show qV 0 = 0 from by decide +kernel] at this
 have := Qz h0 h1
 rw [QS h0 h1]
 rw [QS h0 h1] at *
 omega
theorem Zc {r d : Int} (hr : 0 ≤ r) (hd : d.natAbs ≤ 54000000) :
 (zT r d - 1) * qX ((d.natAbs : Int) / 2) < r * qV ((d.natAbs : Int) / 2) ∧ r * qV ((d.natAbs : Int) / 2) ≤ zT r d * qX ((d.natAbs : Int) / 2) ∧ 0 ≤ zT r d := by
 have hc := bk (h := (d.natAbs : Int) / 2) (by omega) (by omega)
 have hs := Vx (h := (d.natAbs : Int) / 2) (by omega) (by omega)
 have h := JA (r * qV ((d.natAbs : Int) / 2)) (qX ((d.natAbs : Int) / 2)) (by omega)
 refine ⟨h.1, h.2, ?_⟩
 unfold zT
 have hp : 0 ≤ r * qV ((d.natAbs : Int) / 2) := Int.mul_nonneg hr hs.1
 generalize jG 1 (r * qV ((d.natAbs : Int) / 2)) (qX ((d.natAbs : Int) / 2)) = l at *
 apply Classical.byContradiction
 intro hn
 have : l * qX ((d.natAbs : Int) / 2) ≤ (-1) * qX ((d.natAbs : Int) / 2) := Int.mul_le_mul_of_nonneg_right (by omega) (by omega)
 omega
theorem ai {r d : Int} (hr : 0 ≤ r) (hr8 : r ≤ 8000000) (hd : d.natAbs ≤ 54000000) : zT r d ≤ 40000000 := by
 have h := Zc hr hd
 have hc := bk (h := (d.natAbs : Int) / 2) (by omega) (by omega)
 have hs := kJ ((d.natAbs : Int) / 2)
 apply Classical.byContradiction
 intro hn
 have e1 : r * qV ((d.natAbs : Int) / 2) ≤ 8000000 * 1073741824 := by
  have a := Int.mul_le_mul_of_nonneg_left hs.2 hr
  have b : r * 1073741824 ≤ 8000000 * 1073741824 := Int.mul_le_mul_of_nonneg_right hr8 (by omega)
  omega
 have e2 : 40000000 * qX ((d.natAbs : Int) / 2) ≤ (zT r d - 1) * qX ((d.natAbs : Int) / 2) := Int.mul_le_mul_of_nonneg_right (by omega) (by omega)
 omega
theorem WR (r S : Int) : jG 2 (r * S) 1073741824 + jG 2 (r * -S) 1073741824 ≤ 1 ∧ -1 ≤ jG 2 (r * S) 1073741824 + jG 2 (r * -S) 1073741824 := by
 have := zO (r * S)
 have h := zO (r * -S)
 rw [Int.mul_neg] at *
 omega
theorem cW (d : Int) (hd : 0 < d) : jG 2 0 d = 0 := by
 unfold jG
 simp only [show (2 : Nat) ≠ 0 from by decide, show (2 : Nat) ≠ 1 from by decide, if_false]
 exact yz (by omega) (by omega) (by omega)
theorem GF (s n : Int) (hn : 0 < n) : jG 2 (n * s) n = s := by
 unfold jG
 simp only [show (2 : Nat) ≠ 0 from by decide, show (2 : Nat) ≠ 1 from by decide, if_false]
 have e : s * (2 * n) = 2 * (n * s) := by grind
 exact yz (by omega) (by omega) (by omega)
theorem uh {cx cy r f s : Int} (h : yX cx cy r f s = true) : qA cx cy r f s = jG 2 (r * s.natAbs) 20626481 := by unfold qA; rw [if_pos h]
theorem vF (cx cy r f s : Int) : yX cx cy r f s = true ↔ (qf cx cy = true ∧ 1 ≤ r ∧ r ≤ 8000000 ∧ 0 ≤ f ∧ f < 129600000 ∧ -129600000 ≤ s ∧ s ≤ 129600000) := by
 unfold yX
 rw [Bool.and_eq_true, decide_eq_true_iff]
theorem yJ (cx cy r f s : Int) : 0 ≤ qA cx cy r f s ∧ qA cx cy r f s ≤ 60000000 := by
 unfold qA
 split
 · rename_i h
   obtain ⟨_, h1, h2, _, _, h3, h4⟩ := (vF _ _ _ _ _).1 h
   rw [JK]
   have : 0 ≤ r * (s.natAbs : Int) := Int.mul_nonneg (by omega) (by omega)
   have : r * (s.natAbs : Int) ≤ 8000000 * 129600000 := Int.mul_le_mul h2 (by omega) (by omega) (by omega)
   omega
 · omega
theorem bz {px py c d : Int} (h : (zi px py c d).2.2 = 0) : qf px py = true ∧ -8000000 ≤ d ∧ d ≤ 8000000 ∧ qf (px + zQ d c) (py + zR d c) = true ∧ (zi px py c d).1 = px + zQ d c ∧ (zi px py c d).2.1 = py + zR d c := by
 unfold zi at h ⊢
 by_cases h1 : qf px py = true
 · rw [if_neg (by simp [h1])] at h ⊢
   by_cases h2 : d > 8000000 ∨ d < -8000000
   · rw [if_pos h2] at h
     exact absurd h (fun h => by cases h)
   · rw [if_neg h2] at h ⊢
     by_cases h3 : qf (px + zQ d c) (py + zR d c) = true
     · rw [if_pos h3]
       exact ⟨h1, by omega, by omega, h3, rfl, rfl⟩
     · rw [if_neg h3] at h
       exact absurd h (fun h => by cases h)
 · rw [if_pos (by simp [h1])] at h
   exact absurd h (fun h => by cases h)
theorem kG {cx cy r f s al : Int} (hB : yX cx cy r f s = true) (h0 : 0 ≤ al) (h1 : al ≤ qA cx cy r f s) (h : (qI cx cy r f s al).2.2.2 = 0) :
 (qI cx cy r f s al).1 = cx + zQ r (jM f s (qA cx cy r f s) al) ∧ (qI cx cy r f s al).2.1 = cy + zR r (jM f s (qA cx cy r f s) al) := by
 unfold qI at *
 rw [hB] at *
 simp only [Bool.not_true, Bool.false_eq_true, if_false] at *
 rw [if_neg (by omega)] at *
 split at h
 · rename_i h2
   rw [if_pos h2]
   have := bz h2
   exact ⟨this.2.2.2.2.1, this.2.2.2.2.2⟩
 · exact absurd h (by decide)
theorem yx (f s n : Int) (hf : 0 ≤ f) (hf2 : f < 129600000) : jM f s n 0 = f := by
 unfold jM ba
 have e : (if 0 < n then jG 2 (0 * (s.natAbs : Int)) n else 0) = 0 := by
  split
  · rename_i h; rw [Int.zero_mul]; exact cW n h
  · rfl
 rw [e, jD]
 unfold zr
 split <;> omega
theorem ui (f s n : Int) (hn : 0 < n) : jM f s n n = (f + s) % 129600000 := by
 unfold jM ba
 rw [if_pos hn, GF _ _ hn, jD]
 unfold zr
 split
 · rw [show -(s.natAbs : Int) = s from by omega]
 · rw [show (s.natAbs : Int) = s from by omega]
theorem GG {l : List Int} {c : Int} (hc : c ≠ 0) (h : ((l, c) : List Int × Int).2 = 0) : False := hc h
theorem GH {bx b_y x y r m n : Int} (h : (gi bx b_y x y r m n).2 = 0) :
 (zw x y).natAbs ≤ 54000000 ∧ zT r (zw x y) ≤ m ∧ zT r (zw x y) ≤ n ∧ ∃ cx cy sx sy ex ey,
   (gi bx b_y x y r m n).1 = [cx, cy, r, zg x (-zr (zw x y) 32400000), zw x y, sx, sy, ex, ey, zT r (zw x y)] ∧
   sx = bx + zQ (zT r (zw x y)) (zg x 64800000) ∧ sy = b_y + zR (zT r (zw x y)) (zg x 64800000) ∧
   ex = bx + zQ (zT r (zw x y)) y ∧ ey = b_y + zR (zT r (zw x y)) y ∧
   cx = sx + zQ r (zg x (zr (zw x y) 32400000)) ∧ cy = sy + zR r (zg x (zr (zw x y) 32400000)) ∧
   qf cx cy = true ∧ qf sx sy = true ∧ qf ex ey = true := by
 unfold gi at h ⊢
 by_cases h1 : 54000000 < (zw x y).natAbs
 · rw [if_pos h1] at h; exact (GG (by decide) h).elim
 rw [if_neg h1] at h ⊢
 by_cases h2 : zT r (zw x y) > m ∨ zT r (zw x y) > n
 · rw [if_pos h2] at h; exact (GG (by decide) h).elim
 rw [if_neg h2] at h ⊢
 by_cases h3 : (zi bx b_y (zg x 64800000) (zT r (zw x y))).2.2 ≠ 0
 · rw [if_pos h3] at h; exact (GG (by decide) h).elim
 rw [if_neg h3] at h ⊢
 by_cases h4 : (zi bx b_y y (zT r (zw x y))).2.2 ≠ 0
 · rw [if_pos h4] at h; exact (GG (by decide) h).elim
 rw [if_neg h4] at h ⊢
 by_cases h5 : (zi (zi bx b_y (zg x 64800000) (zT r (zw x y))).1 (zi bx b_y (zg x 64800000) (zT r (zw x y))).2.1 (zg x (zr (zw x y) 32400000)) r).2.2 ≠ 0
 · rw [if_pos h5] at h; exact (GG (by decide) h).elim
 rw [if_neg h5]
 obtain ⟨a1, a2, a3, a4, a5, a6⟩ := bz (Decidable.of_not_not h3)
 obtain ⟨b1, b2, b3, b4, b5, b6⟩ := bz (Decidable.of_not_not h4)
 obtain ⟨c1, c2, c3, c4, c5, c6⟩ := bz (Decidable.of_not_not h5)
 rw [a5, a6] at c1 c4 c5 c6
 rw [a5, a6, b5, b6, c5, c6]
 exact ⟨by omega, by omega, by omega, _, _, _, _, _, _, rfl, rfl, rfl, rfl, rfl, rfl, rfl, c4, a4, b4⟩
theorem Zd (d : Int) : (0 ≤ d ∧ zr d 32400000 = 32400000) ∨ (d < 0 ∧ zr d 32400000 = -32400000) := by unfold zr; split <;> omega
theorem JD {a b : Int} (h : norm a = norm b) : qV a = qV b ∧ qX a = qX b := ⟨ve _ _ h, kR _ _ h⟩
theorem JE {a x : Int} (h : norm a = norm (x + 32400000)) : qV a = qX x ∧ qX a = -qV x := by
 have := JD h
 rw [je, jS] at this
 exact this
theorem GI {a x : Int} (h : norm a = norm (x - 32400000)) : qV a = -qX x ∧ qX a = qV x := by
 have h2 : norm a = norm ((x + 64800000) + 32400000) := by rw [h]; unfold norm; omega
 have := JE h2
 rw [kS, vT, Int.neg_neg] at this
 exact this
theorem Vy {a x : Int} (h : norm a = norm (x + 64800000)) : qV a = -qV x ∧ qX a = -qX x := by
 have := JD h
 rw [vT, kS] at this
 exact this
theorem Nf (a : Int) (s : Int) (hs : s = 0 ∨ s = 1) : (-110 ≤ qV a - qV (a + s) ∧ qV a - qV (a + s) ≤ 110) ∧ (-110 ≤ qX a - qX (a + s) ∧ qX a - qX (a + s) ≤ 110) := by
 have h := Ro a
 unfold lz at h
 rcases hs with rfl | rfl
 · simp
 · omega
theorem Ng (a : Int) : (-110 ≤ qV a - qV a ∧ qV a - qV a ≤ 110) ∧ (-110 ≤ qX a - qX a ∧ qX a - qX a ≤ 110) := by simp
theorem four {A B L S T u : Int} (h : -(6 * 1073741824) ≤ A + B - (L * S + L * T) ∧ A + B - (L * S + L * T) ≤ 6 * 1073741824) (hu : u = jG 2 (L * -S) 1073741824 + jG 2 A 1073741824 + jG 2 B 1073741824 - jG 2 (L * T) 1073741824) : u ≤ 8 ∧ -u ≤ 8 := by
 have a := zO A
 have b := zO B
 have c := zO (L * -S)
 have d := zO (L * T)
 rw [Int.mul_neg] at *
 omega
theorem GJ (l S : Int) (hl : l = 0 ∨ l = 1) (hS : -1073741824 ≤ S ∧ S ≤ 1073741824) : -1 ≤ jG 2 (l * S) 1073741824 ∧ jG 2 (l * S) 1073741824 ≤ 1 := by
 have := zO (l * S)
 rcases hl with rfl | rfl
 · rw [Int.zero_mul] at *; omega
 · rw [Int.one_mul] at *; omega
theorem ZN {r S c s u : Int} (hc : c = s + jG 2 (r * S) 1073741824) (hu : u = c + jG 2 (r * -S) 1073741824) : u - s ≤ 1 ∧ s - u ≤ 1 := by
 have a := WR r S
 generalize jG 2 (r * S) 1073741824 = p at *
 generalize jG 2 (r * -S) 1073741824 = q at *
 omega
theorem cX {x y r l d : Int} (hr : 0 ≤ r) (hr8 : r ≤ 8000000) (hd0 : 0 ≤ d) (hd5 : d ≤ 54000000) (hl0 : 0 ≤ l) (hl8 : l ≤ 6000000) (hdn : norm (x + d) = norm y)
 (h1 : (l - 1) * qX (d / 2) < r * qV (d / 2)) (h2 : r * qV (d / 2) ≤ l * qX (d / 2)) (hC : 0 ≤ qX (d / 2)) :
 (-(6 * 1073741824) ≤ r * qX x + r * -qX y - (l * qV x + l * qV y) ∧ r * qX x + r * -qX y - (l * qV x + l * qV y) ≤ 6 * 1073741824) ∧
 (-(6 * 1073741824) ≤ r * -qV x + r * qV y - (l * qX x + l * qX y) ∧ r * -qV x + r * qV y - (l * qX x + l * qX y) ≤ 6 * 1073741824) := by
 have hy' : (-110 ≤ qV y - qV (x + d / 2 + d / 2) ∧ qV y - qV (x + d / 2 + d / 2) ≤ 110) ∧ (-110 ≤ qX y - qX (x + d / 2 + d / 2) ∧ qX y - qX (x + d / 2 + d / 2) ≤ 110) := by
  have e := JD hdn
  have s := Nf (x + d / 2 + d / 2) (d - 2 * (d / 2)) (by omega)
  rw [show x + d / 2 + d / 2 + (d - 2 * (d / 2)) = x + d from by omega, e.1, e.2] at s
  clear h1 h2 hC e hdn
  generalize qV y = a at *
  generalize qX y = b at *
  generalize qV (x + d / 2 + d / 2) = c at *
  generalize qX (x + d / 2 + d / 2) = e at *
  omega
 have hx' := Ng x
 have H := Ug (R := r) (lead := l) (h := d / 2) (m := x + d / 2) (Cx := qX x) (Cy := qX y) (Sx := qV x) (Sy := qV y) hr hr8 hl0 hl8 h1 h2
  (by rw [show x + d / 2 - d / 2 = x from by omega]; exact hx'.1) (by rw [show x + d / 2 - d / 2 = x from by omega]; exact hx'.2) hy'.1 hy'.2 hC
 clear hx' hy' h1 h2 hC hdn
 generalize qV y = a at *
 generalize qX y = b at *
 generalize qV x = c at *
 generalize qX x = e at *
 rw [Int.mul_sub, Int.mul_add, Int.mul_sub, Int.mul_add] at H
 rw [Int.mul_neg, Int.mul_neg]
 omega
theorem aj {x y r l d : Int} (hr : 0 ≤ r) (hr8 : r ≤ 8000000) (hd0 : 0 ≤ d) (hd5 : d ≤ 54000000) (hl0 : 0 ≤ l) (hl8 : l ≤ 6000000) (hdn : norm (x - d) = norm y)
 (h1 : (l - 1) * qX (d / 2) < r * qV (d / 2)) (h2 : r * qV (d / 2) ≤ l * qX (d / 2)) (hC : 0 ≤ qX (d / 2)) :
 (-(6 * 1073741824) ≤ r * -qX x + r * qX y - (l * qV x + l * qV y) ∧ r * -qX x + r * qX y - (l * qV x + l * qV y) ≤ 6 * 1073741824) ∧
 (-(6 * 1073741824) ≤ r * qV x + r * -qV y - (l * qX x + l * qX y) ∧ r * qV x + r * -qV y - (l * qX x + l * qX y) ≤ 6 * 1073741824) := by
 have hy' : (-110 ≤ qV y - qV (x - d / 2 - d / 2) ∧ qV y - qV (x - d / 2 - d / 2) ≤ 110) ∧ (-110 ≤ qX y - qX (x - d / 2 - d / 2) ∧ qX y - qX (x - d / 2 - d / 2) ≤ 110) := by
  have e := JD hdn
  have s := Nf (x - d) (d - 2 * (d / 2)) (by omega)
  rw [show x - d + (d - 2 * (d / 2)) = x - d / 2 - d / 2 from by omega, e.1, e.2] at s
  clear h1 h2 hC e hdn
  generalize qV y = a at *
  generalize qX y = b at *
  generalize qV (x - d / 2 - d / 2) = c at *
  generalize qX (x - d / 2 - d / 2) = e at *
  omega
 have hx' := Ng x
 have H := Ug (R := r) (lead := l) (h := d / 2) (m := x - d / 2) (Cx := qX y) (Cy := qX x) (Sx := qV y) (Sy := qV x) hr hr8 hl0 hl8 h1 h2
  hy'.1 hy'.2 (by rw [show x - d / 2 + d / 2 = x from by omega]; exact hx'.1) (by rw [show x - d / 2 + d / 2 = x from by omega]; exact hx'.2) hC
 clear hx' hy' h1 h2 hC hdn
 generalize qV y = a at *
 generalize qX y = b at *
 generalize qV x = c at *
 generalize qX x = e at *
 rw [Int.mul_sub, Int.mul_add, Int.mul_sub, Int.mul_add] at H
 rw [Int.mul_neg, Int.mul_neg]
 omega
theorem YD {B A A' L S T s c u e : Int} (h : -(6 * 1073741824) ≤ A + A' - (L * S + L * T) ∧ A + A' - (L * S + L * T) ≤ 6 * 1073741824)
 (hs : s = B + jG 2 (L * -S) 1073741824) (hc : c = s + jG 2 A 1073741824) (hu : u = c + jG 2 A' 1073741824) (he : e = B + jG 2 (L * T) 1073741824) : u - e ≤ 8 ∧ e - u ≤ 8 := by
 have f := four h rfl
 generalize jG 2 (L * -S) 1073741824 = w1 at *
 generalize jG 2 A 1073741824 = w2 at *
 generalize jG 2 A' 1073741824 = w3 at *
 generalize jG 2 (L * T) 1073741824 = w4 at *
 omega
theorem wJ {r h l D : Int} (hr : 1 ≤ r) (hD : 0 ≤ D) (hh : h = D / 2) (hRd : 2 * (r * D) < 20626481) (h1 : (l - 1) * qX h < r * qV h) (hl0 : 0 ≤ l) : l = 0 ∨ l = 1 := by
 have hd1 : D ≤ r * D := by
  have := Int.mul_le_mul_of_nonneg_right hr hD
  omega
 have hCb := cV (h := h) (by omega) (by omega)
 have hSb := Vx (h := h) (by omega) (by omega)
 have e0 : r * qV h ≤ r * (84 * h) := Int.mul_le_mul_of_nonneg_left hSb.2 (by omega)
 have e : r * (84 * h) = 84 * (r * h) := by grind
 have e2 : 2 * (r * h) ≤ r * D := by
  have : r * (2 * h) ≤ r * D := Int.mul_le_mul_of_nonneg_left (by omega) (by omega)
  have e : r * (2 * h) = 2 * (r * h) := by grind
  omega
 apply Classical.byContradiction
 intro hno
 have e3 : 1 * qX h ≤ (l - 1) * qX h := Int.mul_le_mul_of_nonneg_right (by omega) (by omega)
 clear hSb hh
 generalize (l - 1) * qX h = w1 at *
 generalize r * qV h = w2 at *
 generalize qX h = w3 at *
 generalize r * D = w4 at *
 generalize r * h = w5 at *
 omega
theorem Uh {B S T s u e l : Int} (hl : l = 0 ∨ l = 1) (hS : -1073741824 ≤ S ∧ S ≤ 1073741824) (hT : -1073741824 ≤ T ∧ T ≤ 1073741824)
 (hs : s = B + jG 2 (l * S) 1073741824) (he : e = B + jG 2 (l * T) 1073741824) (hu : u - s ≤ 1 ∧ s - u ≤ 1) : u - e ≤ 8 ∧ e - u ≤ 8 := by
 have a := GJ l S hl hS
 have b := GJ l T hl hT
 generalize jG 2 (l * S) 1073741824 = w1 at *
 generalize jG 2 (l * T) 1073741824 = w2 at *
 omega
def Ends (u v sx sy : Int) : Prop := (u - sx ≤ 8 ∧ sx - u ≤ 8) ∧ (v - sy ≤ 8 ∧ sy - v ≤ 8)
theorem WS {x y r m d l cx cy bx b_y sx sy ex ey f : Int} (hr : 1 ≤ r) (hr8 : r ≤ 8000000) (hm : m ≤ 6000000)
 (hd : d = zw x y) (hl : l = zT r d) (hd5 : d.natAbs ≤ 54000000) (hlm : l ≤ m)
 (esx : sx = bx + zQ l (zg x 64800000)) (esy : sy = b_y + zR l (zg x 64800000)) (eex : ex = bx + zQ l y) (eey : ey = b_y + zR l y)
 (ecx : cx = sx + zQ r (zg x (zr d 32400000))) (ecy : cy = sy + zR r (zg x (zr d 32400000))) (hc : qf cx cy = true) (hf : f = zg x (-zr d 32400000)) :
 yX cx cy r f d = true ∧
 ((qI cx cy r f d 0).2.2.2 = 0 → Ends (qI cx cy r f d 0).1 (qI cx cy r f d 0).2.1 sx sy) ∧
 ((qI cx cy r f d (qA cx cy r f d)).2.2.2 = 0 → Ends (qI cx cy r f d (qA cx cy r f d)).1 (qI cx cy r f d (qA cx cy r f d)).2.1 ex ey) := by
 have hdb := ZX x y
 rw [← hd] at hdb
 have hdn : norm (x + d) = norm y := by rw [hd]; unfold zw norm; omega
 have hfb : 0 ≤ f ∧ f < 129600000 := by rw [hf]; exact zM _
 have hB : yX cx cy r f d = true := (vF _ _ _ _ _).2 ⟨hc, hr, hr8, hfb.1, hfb.2, by omega, by omega⟩
 have hlen := yJ cx cy r f d
 have hs := Vy (a := zg x 64800000) (x := x) (by rw [jD]; unfold norm; omega)
 have hopp : qV f = -qV (zg x (zr d 32400000)) ∧ qX f = -qX (zg x (zr d 32400000)) :=
  Vy (by rw [hf, jD, jD]; unfold norm; rcases Zd d with ⟨_, h⟩ | ⟨_, h⟩ <;> rw [h] <;> omega)
 have hst : ∀ u v : Int, u = cx + zQ r f → v = cy + zR r f → (u - sx ≤ 1 ∧ sx - u ≤ 1) ∧ (v - sy ≤ 1 ∧ sy - v ≤ 1) := fun u v hu hv => by
  unfold zQ at hu ecx
  unfold zR at hv ecy
  rw [hopp.1] at hu
  rw [hopp.2] at hv
  exact ⟨ZN ecx hu, ZN ecy hv⟩
 have hlsp := Zc (r := r) (d := d) (by omega) hd5
 rw [← hl] at hlsp
 refine ⟨hB, fun h0 => ?_, fun h0 => ?_⟩
 · have h1 := kG hB (Int.le_refl 0) hlen.1 h0
   rw [yx _ _ _ hfb.1 hfb.2] at h1
   have h2 := hst _ _ h1.1 h1.2
   unfold Ends
   clear h1 h0
   generalize (qI cx cy r f d 0).1 = w1 at *
   generalize (qI cx cy r f d 0).2.1 = w2 at *
   omega
 · have hat := kG hB hlen.1 (Int.le_refl _) h0
   have hal := uh hB
   unfold Ends
   clear h0
   generalize (qI cx cy r f d (qA cx cy r f d)).1 = u at *
   generalize (qI cx cy r f d (qA cx cy r f d)).2.1 = v at *
   generalize qA cx cy r f d = n at *
   by_cases hn : n = 0
   · subst hn
     rw [yx _ _ _ hfb.1 hfb.2] at hat
     have h1 := hst _ _ hat.1 hat.2
     have hRd : 2 * (r * (d.natAbs : Int)) < 20626481 := by
      rw [JK] at hal
      clear hlsp h1 hat hst hopp hs ecx ecy esx esy eex eey hB hf hl hdn hd
      omega
     have hl1 := wJ (r := r) (h := (d.natAbs : Int) / 2) (l := l) (D := (d.natAbs : Int)) hr (by omega) rfl hRd hlsp.1 hlsp.2.2
     unfold zQ at esx eex
     unfold zR at esy eey
     exact ⟨Uh hl1 (kJ _) (kJ _) esx eex h1.1, Uh hl1 (uj _) (uj _) esy eey h1.2⟩
   · have hdir := ui f d n (by omega)
     rw [hdir] at hat
     unfold zQ at esx eex ecx hat
     unfold zR at esy eey ecy hat
     rw [hs.1] at esx
     rw [hs.2] at esy
     have hl8 : l ≤ 6000000 := by omega
     clear hst hopp hs hal hlen hdir hB hc
     rcases Zd d with ⟨hd0, hq⟩ | ⟨hd0, hq⟩
     · rw [hq] at hf ecx ecy
       have hdd : (d.natAbs : Int) = d := by omega
       have c1 := JE (a := zg x 32400000) (x := x) (by rw [jD]; unfold norm; omega)
       have c2 := GI (a := (f + d) % 129600000) (x := y) (by rw [hf, jD]; unfold norm at hdn ⊢; clear hf; omega)
       rw [c1.1] at ecx
       rw [c1.2] at ecy
       rw [c2.1, c2.2] at hat
       rw [hdd] at hlsp
       have hCh := bk (h := d / 2) (by omega) (by omega)
       have H := cX (x := x) (y := y) (r := r) (l := l) (d := d) (by omega) hr8 hd0 (by omega) hlsp.2.2 hl8 hdn hlsp.1 hlsp.2.1 (by omega)
       exact ⟨YD H.1 esx ecx hat.1 eex, YD H.2 esy ecy hat.2 eey⟩
     · rw [hq] at hf ecx ecy
       rw [Int.neg_neg] at hf
       have hdd : (d.natAbs : Int) = -d := by omega
       have c1 := GI (a := zg x (-32400000)) (x := x) (by rw [jD]; unfold norm; omega)
       have c2 := JE (a := (f + d) % 129600000) (x := y) (by rw [hf, jD]; unfold norm at hdn ⊢; clear hf; omega)
       rw [c1.1] at ecx
       rw [c1.2] at ecy
       rw [c2.1, c2.2] at hat
       rw [hdd] at hlsp
       have hCh := bk (h := -d / 2) (by omega) (by omega)
       have H := aj (x := x) (y := y) (r := r) (l := l) (d := -d) (by omega) hr8 (by omega) (by omega) hlsp.2.2 hl8 (by rw [show x - -d = x + d from by omega]; exact hdn) hlsp.1 hlsp.2.1 (by omega)
       exact ⟨YD H.1 esx ecx hat.1 eex, YD H.2 esy ecy hat.2 eey⟩
theorem WT {ax ay bx b_y cx cy r v0 v1 v2 v3 v4 v5 v6 v7 v8 v9 : Int} (h : vV ax ay bx b_y cx cy r = ([v0, v1, v2, v3, v4, v5, v6, v7, v8, v9], 0)) : yX v0 v1 v2 v3 v4 = true := by
 have h0 : (vV ax ay bx b_y cx cy r).2 = 0 := by rw [h]
 have h := h.symm
 unfold vV at h h0
 by_cases h1 : (!(qf ax ay && qf bx b_y && qf cx cy)) = true
 · rw [if_pos h1] at h0; exact (GG (by decide) h0).elim
 rw [if_neg h1] at h h0
 by_cases h2 : r < 1 ∨ r > 8000000
 · rw [if_pos h2] at h0; exact (GG (by decide) h0).elim
 rw [if_neg h2] at h h0
 by_cases h3 : (ax = bx ∧ ay = b_y) ∨ (bx = cx ∧ b_y = cy)
 · rw [if_pos h3] at h0; exact (GG (by decide) h0).elim
 rw [if_neg h3] at h h0
 obtain ⟨g1, g2, g3, X, Y, sx, sy, ex, ey, g4, q1, q2, q3, q4, q5, q6, q7, q8, q9⟩ := GH h0
 rw [← h] at g4
 simp only [List.cons.injEq, and_true] at g4
 obtain ⟨rfl, rfl, rfl, rfl, rfl, rfl, rfl, rfl, rfl, rfl⟩ := g4
 have hfb := zM (qF ax ay bx b_y).1
 exact (vF _ _ _ _ _).2 ⟨q7, by omega, by omega, (zM _).1, (zM _).2, by omega, by omega⟩
def bC (v b : Int) : Int × Int :=
 if 1 ≤ v ∧ v ≤ 1000 ∧ 1 ≤ b ∧ b ≤ 3000 then
  (if (qM 1 (v * v * 87431) (qX (b * 3600)) (1000000 * qV (b * 3600))).2 = 0 ∧ (qM 1 (v * v * 87431) (qX (b * 3600)) (1000000 * qV (b * 3600))).1 ≤ 8000000 then
    ((qM 1 (v * v * 87431) (qX (b * 3600)) (1000000 * qV (b * 3600))).1, 0) else (0, 2))
 else (0, 2)
def Nh (v b : Int) : Int × Int :=
 if 1 ≤ v ∧ v ≤ 1000 ∧ 1 ≤ b ∧ b ≤ 3000 then qM 0 20626481000000 (qV (b * 3600)) (87431 * v * qX (b * 3600)) else (0, 2)
theorem wK (right : Bool) (x y : Int) (hx : 0 ≤ x) (hx2 : x < 129600000) (hy : 0 ≤ y) (hy2 : y < 129600000) :
 (kF right x y).natAbs ≤ 129600000 ∧ 1 ≤ (kF right x y).natAbs ∧ norm (x + kF right x y) = y := by
 unfold kF kK norm
 cases right <;> simp <;> split <;> omega
theorem Ui {ax ay cx cy bx b_y : Int} {right : Bool} (h : (jh ax ay cx cy bx b_y right).2 = 0) :
 qf ax ay = true ∧ qf cx cy = true ∧ qf bx b_y = true ∧ qJ cx cy ax ay ≠ 0 ∧ qJ cx cy bx b_y ≠ 0 ∧ (qJ cx cy ax ay - qJ cx cy bx b_y ≤ 8 ∧ qJ cx cy bx b_y - qJ cx cy ax ay ≤ 8) ∧
 (jh ax ay cx cy bx b_y right).1 = [cx, cy, qJ cx cy ax ay, qZ (ax - cx) (ay - cy), kF right (qZ (ax - cx) (ay - cy)) (qZ (bx - cx) (b_y - cy))] := by
 unfold jh at h ⊢
 by_cases h1 : (!(qf ax ay && qf cx cy && qf bx b_y)) = true
 · rw [if_pos h1] at h; exact absurd h (fun h => by cases h)
 rw [if_neg h1] at h ⊢
 by_cases h2 : qJ cx cy ax ay = 0 ∨ qJ cx cy bx b_y = 0 ∨ qJ cx cy ax ay - qJ cx cy bx b_y > 8 ∨ qJ cx cy bx b_y - qJ cx cy ax ay > 8
 · rw [if_pos h2] at h; exact absurd h (fun h => by cases h)
 rw [if_neg h2]
 have hv : (qf ax ay = true ∧ qf cx cy = true) ∧ qf bx b_y = true := by simpa using h1
 exact ⟨hv.1.1, hv.1.2, hv.2, by omega, by omega, by omega, rfl⟩
theorem YE {cx cy ax ay : Int} (h1 : qf cx cy = true) (h2 : qf ax ay = true) (h : qJ cx cy ax ay ≠ 0) :
 ¬ (ax - cx = 0 ∧ ay - cy = 0) ∧ 1 ≤ qJ cx cy ax ay ∧ qJ cx cy ax ay ≤ 6000000 ∧ qJ cx cy ax ay * qJ cx cy ax ay ≤ (ax - cx) * (ax - cx) + (ay - cy) * (ay - cy) ∧ (ax - cx) * (ax - cx) + (ay - cy) * (ay - cy) < (qJ cx cy ax ay + 1) * (qJ cx cy ax ay + 1) := by
 have hb := kh cx cy ax ay
 have he : qJ cx cy ax ay = vO (jv cx cy ax ay).toNat := by unfold qJ; rw [h1, h2]; rfl
 have hs := QA _ (Jb cx cy ax ay)
 rw [← he] at hs
 refine ⟨?_, by omega, by omega, hs.1, hs.2⟩
 rintro ⟨e1, e2⟩
 have : jv cx cy ax ay = 0 := by unfold jv; rw [e1, e2]; rfl
 rw [he, this] at h
 exact h (by simp; exact (ZV 0).2 rfl)
theorem WU {ax ay cx cy bx b_y r x s : Int} {right : Bool} (h : (jh ax ay cx cy bx b_y right).2 = 0) (hr : r = qJ cx cy ax ay) (hx : x = qZ (ax - cx) (ay - cy)) (hs : s = kF right (qZ (ax - cx) (ay - cy)) (qZ (bx - cx) (b_y - cy))) :
 yX cx cy r x s = true ∧
 ((qI cx cy r x s 0).2.2.2 = 0 → ((qI cx cy r x s 0).1 - ax ≤ 4 ∧ ax - (qI cx cy r x s 0).1 ≤ 4) ∧ ((qI cx cy r x s 0).2.1 - ay ≤ 4 ∧ ay - (qI cx cy r x s 0).2.1 ≤ 4)) ∧
 ((qI cx cy r x s (qA cx cy r x s)).2.2.2 = 0 → ((qI cx cy r x s (qA cx cy r x s)).1 - bx ≤ 12 ∧ bx - (qI cx cy r x s (qA cx cy r x s)).1 ≤ 12) ∧ ((qI cx cy r x s (qA cx cy r x s)).2.1 - b_y ≤ 12 ∧ b_y - (qI cx cy r x s (qA cx cy r x s)).2.1 ≤ 12)) := by
 obtain ⟨h1, h2, h3, h4, h5, h6, _⟩ := Ui h
 obtain ⟨a0, a1, a2, a3, a4⟩ := YE h2 h1 h4
 obtain ⟨b0, b1, b2, b3, b4⟩ := YE h2 h3 h5
 rw [← hr] at a1 a2 a3 a4 h6
 have hxb := uk (ax - cx) (ay - cy)
 have hyb := uk (bx - cx) (b_y - cy)
 have hsw := wK right _ _ hxb.1 hxb.2 hyb.1 hyb.2
 rw [← hs] at hsw
 have hB : yX cx cy r x s = true := by
  refine (vF _ _ _ _ _).2 ⟨h2, a1, by omega, ?_, ?_, ?_, ?_⟩ <;> clear a3 a4 b3 b4 hr <;> omega
 have hlen := yJ cx cy r x s
 have hle := uh hB
 refine ⟨hB, fun h0 => ?_, fun h0 => ?_⟩
 · have hat := kG hB (Int.le_refl 0) hlen.1 h0
   rw [yx _ _ _ (by omega) (by omega)] at hat
   have S := ZM a0 a3 a4 a1 (by omega)
   rw [← hx] at S
   rw [hat.1, hat.2]
   clear hat h0
   generalize zQ r x = u at *
   generalize zR r x = v at *
   clear a3 a4 b3 b4
   omega
 · have hat := kG hB hlen.1 (Int.le_refl _) h0
   rw [hat.1, hat.2]
   clear hat h0
   have E := wI (r := r) (dir := jM x s (qA cx cy r x s) (qA cx cy r x s)) b0 b3 b4 b1 b2 (by omega) (by omega) (by
    by_cases hn : qA cx cy r x s = 0
    · rw [hn, yx _ _ _ (by omega) (by omega)]
      refine .inr ⟨s.natAbs, ?_, ?_⟩
      · have e := hsw.2.2
        rw [← hx] at e
        have hyy : norm (qZ (bx - cx) (b_y - cy)) = qZ (bx - cx) (b_y - cy) := Qw hyb.1 hyb.2
        rw [hyy]
        by_cases h0 : 0 ≤ s
        · left
          rw [show ((s.natAbs : Nat) : Int) = s from by omega]
          exact e
        · right
          rw [show ((s.natAbs : Nat) : Int) = -s from by omega, ← e]
          unfold norm
          omega
      · rw [hn, JK] at hle
        have : 0 ≤ r * (s.natAbs : Int) := Int.mul_nonneg (by omega) (by omega)
        clear a3 a4 b3 b4
        omega
    · left
      rw [ui _ _ _ (by omega)]
      have e := hsw.2.2
      rw [← hx] at e
      rw [Qw hyb.1 hyb.2, ← e]
      unfold norm
      omega)
   clear a3 a4 b3 b4
   generalize zQ r (jM x s (qA cx cy r x s) (qA cx cy r x s)) = u at *
   generalize zR r (jM x s (qA cx cy r x s) (qA cx cy r x s)) = v at *
   omega
theorem aq (m : Int) (h : 0 < m) : kZ m 0 = 0 := by
 unfold kZ
 rw [fq (Pj m 0) CF 0 (Nat.zero_le _) (.inl rfl) ?_]
 · rfl
 · intro d h1 h2
   rw [BG] at h2
   unfold Pj
   refine decide_eq_false ?_
   rw [Int.mul_zero]
   have := Jj (a := 1) (b := d) (by omega) (by omega) (by omega)
   have e : 0 < qV 1 := by decide +kernel
   have := Int.mul_pos (show 0 < qV d by omega) h
   omega
theorem MF {ax ay bx b_y cx cy r : Int} (h : (qf ax ay && qf bx b_y && qf cx cy) = false) : vV ax ay bx b_y cx cy r = (jV, 1) := by unfold vV; rw [h]; rfl
theorem WV {ax ay bx b_y cx cy r : Int} (h : (qf ax ay && qf bx b_y && qf cx cy) = true) (h2 : r < 1 ∨ r > 8000000) : vV ax ay bx b_y cx cy r = (jV, 2) := by unfold vV; rw [h, if_neg (by simp), if_pos h2]
theorem ar {ax ay bx b_y cx cy r : Int} (h : (qf ax ay && qf bx b_y && qf cx cy) = true) (h2 : ¬ (r < 1 ∨ r > 8000000)) (h3 : (ax = bx ∧ ay = b_y) ∨ (bx = cx ∧ b_y = cy)) : vV ax ay bx b_y cx cy r = (jV, 10) := by
 unfold vV; rw [h, if_neg (by simp), if_neg h2, if_pos h3]
theorem tZ {ax ay bx b_y : Int} (h1 : qf ax ay = true) (h2 : qf bx b_y = true) (h : ¬ (ax = bx ∧ ay = b_y)) : qF ax ay bx b_y = (qZ (bx - ax) (b_y - ay), 0) := by
 unfold qF
 rw [h1, h2, if_neg (by simp), if_neg h]
theorem Yc {ax ay bx b_y : Int} (h1 : qf ax ay = true) (h2 : qf bx b_y = true) (h : ax = bx ∧ ay = b_y) : qF ax ay bx b_y = (0, 10) := by
 unfold qF
 rw [h1, h2, if_neg (by simp), if_pos h]
theorem MG {ax ay bx b_y cx cy r : Int} (h0 : qf ax ay = true) (h1 : qf bx b_y = true) (hc : qf cx cy = true) (h2 : ¬ (r < 1 ∨ r > 8000000)) (h3 : ¬ (ax = bx ∧ ay = b_y)) (h4 : ¬ (bx = cx ∧ b_y = cy)) :
 vV ax ay bx b_y cx cy r = gi bx b_y (qF ax ay bx b_y).1 (qF bx b_y cx cy).1 r (qJ ax ay bx b_y) (qJ bx b_y cx cy) := by
 rw [tZ h0 h1 h3, tZ h1 hc h4]
 unfold vV
 rw [h0, h1, hc, if_neg (by simp), if_neg h2, if_neg (by omega)]
theorem cY {bx b_y x y r m n d : Int} (hd : d = zw x y) (h : 54000000 < d.natAbs) : gi bx b_y x y r m n = (jV, 10) := by
 unfold gi; rw [← hd, if_pos h]
theorem wL {bx b_y x y r m n d l : Int} (hd : d = zw x y) (h : ¬ 54000000 < d.natAbs) (hl : l = zT r d) (h2 : l > m ∨ l > n) : gi bx b_y x y r m n = (jV, 10) := by
 unfold gi; rw [← hd, ← hl, if_neg h, if_pos h2]
theorem wM {bx b_y x y r m n d l sx sy e1 ex ey e2 kx ky e3 : Int} (hd : d = zw x y) (h : ¬ 54000000 < d.natAbs) (hl : l = zT r d) (h2 : ¬ (l > m ∨ l > n))
 (h3 : (sx, sy, e1) = zi bx b_y (zg x 64800000) l) (h4 : (ex, ey, e2) = zi bx b_y y l) (h5 : (kx, ky, e3) = zi sx sy (zg x (zr d 32400000)) r) :
 gi bx b_y x y r m n = if e1 ≠ 0 then (jV, 2) else if e2 ≠ 0 then (jV, 2) else if e3 ≠ 0 then (jV, 2) else ([kx, ky, r, zg x (-zr d 32400000), d, sx, sy, ex, ey, l], 0) := by
 unfold gi
 rw [← hd, ← hl, if_neg h, if_neg h2, ← h3, ← h4]
 simp only
 rw [← h5]
theorem mQ {r d l : Int} (hr : 1 ≤ r) (hr8 : r ≤ 8000000) (hd : d.natAbs ≤ 54000000) (hl : l = zT r d) : qM 1 r (qV ((d.natAbs : Int) / 2)) (qX ((d.natAbs : Int) / 2)) = (l, 0) ∧ 0 ≤ l ∧ l ≤ 40000000 := by
 have a := Zc (r := r) (d := d) (by omega) hd
 have b := ai (r := r) (d := d) (by omega) hr8 hd
 have hc := bk (h := (d.natAbs : Int) / 2) (by omega) (by omega)
 rw [← hl] at a b
 refine ⟨?_, a.2.2, b⟩
 unfold zT at hl
 unfold qM
 rw [← hl, if_neg (by omega), if_pos]
 unfold Zj
 exact decide_eq_true (by omega)
end Go.Proofs.YteanfgobpjdmnaaGreatDoor
