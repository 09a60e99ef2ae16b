/-
  Plain arithmetic: whole square roots, rounded quotients, and the steps of long division by two words. No program.
-/
namespace Go.Proofs.YteanfgobpjdmnaaGreatDoor
set_option linter.unusedVariables false
def vO : Nat → Nat
 | 0 => 0
 | n + 1 => if (vO n + 1) * (vO n + 1) ≤ n + 1 then vO n + 1 else vO n
theorem ux : ∀ n : Nat, vO n * vO n ≤ n ∧ n < (vO n + 1) * (vO n + 1)
 | 0 => by simp [vO]
 | n + 1 => by
   have ih := ux n
   unfold vO
   split
   · rename_i h
     refine ⟨h, ?_⟩
     have e : (vO n + 1 + 1) * (vO n + 1 + 1) = (vO n + 1) * (vO n + 1) + 2 * (vO n + 1) + 1 := by grind
     omega
   · omega
theorem mY {a b : Nat} (h : a * a < b * b) : a < b := by
 rcases Nat.lt_or_ge a b with h1 | h1
 · exact h1
 · have := Nat.mul_le_mul h1 h1
   omega
theorem aZ {n r : Nat} (h1 : r * r ≤ n) (h2 : n < (r + 1) * (r + 1)) : vO n = r := by
 have h := ux n
 have a := mY (Nat.lt_of_le_of_lt h.1 h2)
 have b := mY (Nat.lt_of_le_of_lt h1 h.2)
 omega
theorem ed {n r : Nat} (h : n < r * r) : vO n < r := by
 have h1 := ux n
 exact mY (Nat.lt_of_le_of_lt h1.1 h)
theorem MP {n r : Nat} (h : r * r ≤ n) : r ≤ vO n := by
 have h1 := ux n
 have := mY (Nat.lt_of_le_of_lt h h1.2)
 omega
theorem ZV (n : Nat) : vO n = 0 ↔ n = 0 := by
 constructor
 · intro h
   have := (ux n).2
   rw [h] at this
   omega
 · rintro rfl; rfl
def jG (m : Nat) (n d : Int) : Int := if m = 0 then n.fdiv d else if m = 1 then -((-n).fdiv d) else (2 * n + d).fdiv (2 * d)
theorem yz {x d k : Int} (hd : 0 < d) (h1 : k * d ≤ x) (h2 : x < k * d + d) : x.fdiv d = k := by
 rw [Int.fdiv_eq_ediv_of_nonneg _ (by omega)]
 have h := Int.emod_add_mul_ediv x d
 have h3 := Int.emod_nonneg x (show d ≠ 0 by omega)
 have h4 := Int.emod_lt_of_pos x hd
 have e : d * (x / d) - k * d = (x / d - k) * d := by grind
 rcases Int.lt_trichotomy (x / d) k with h5 | h5 | h5
 · have : (x / d - k) * d ≤ (-1) * d := Int.mul_le_mul_of_nonneg_right (by omega) (by omega)
   omega
 · exact h5
 · have : 1 * d ≤ (x / d - k) * d := Int.mul_le_mul_of_nonneg_right (by omega) (by omega)
   omega
theorem ZW (x d : Int) (hd : 0 < d) : x.fdiv d * d ≤ x ∧ x < x.fdiv d * d + d := by
 rw [Int.fdiv_eq_ediv_of_nonneg _ (by omega)]
 have h := Int.emod_add_mul_ediv x d
 have h3 := Int.emod_nonneg x (show d ≠ 0 by omega)
 have h4 := Int.emod_lt_of_pos x hd
 have e : d * (x / d) = x / d * d := Int.mul_comm _ _
 omega
def away (m : Nat) (neg : Bool) (r d : Nat) : Bool := if m = 0 then neg && decide (0 < r) else if m = 1 then !neg && decide (0 < r) else decide (d - r < r) || (!neg && decide (r = d - r))
def ri (neg : Bool) (n : Nat) : Int := if neg then -(n : Int) else n
theorem Pg (m : Nat) (N D : Nat) (hD : 0 < D) : jG m N D = ri false (N / D + (away m false (N % D) D).toNat) := by
 have h := Nat.div_add_mod N D
 have h1 := Nat.mod_lt N hD
 have e : D * (N / D) = N / D * D := Nat.mul_comm _ _
 generalize N / D = q at *
 generalize N % D = r at *
 have hN : (N : Int) = (q : Int) * D + r := by rw [← h, e]; simp
 unfold jG ri away
 split
 · rename_i hm
   simp
   exact yz (by omega) (by omega) (by omega)
 · split
   · simp
     by_cases hr : 0 < r
     · have : (-(N : Int)).fdiv D = -(q + 1 : Int) := yz (by omega) (by rw [Int.neg_mul, Int.add_mul]; omega) (by rw [Int.neg_mul, Int.add_mul]; omega)
       rw [this]; simp [hr]
     · have : (-(N : Int)).fdiv D = -(q : Int) := yz (by omega) (by rw [Int.neg_mul]; omega) (by rw [Int.neg_mul]; omega)
       rw [this]; simp [hr]
   · simp
     by_cases hr : D - r < r ∨ r = D - r
     · have : (2 * (N : Int) + D).fdiv (2 * D) = q + 1 := yz (by omega) (by rw [Int.add_mul, ← Int.mul_assoc, Int.mul_comm (q : Int) 2, Int.mul_assoc]; omega) (by rw [Int.add_mul, ← Int.mul_assoc, Int.mul_comm (q : Int) 2, Int.mul_assoc]; omega)
       rw [this]
       have : (decide (D - r < r) || decide (r = D - r)) = true := by simpa using hr
       simp [this]
     · have : (2 * (N : Int) + D).fdiv (2 * D) = q := yz (by omega) (by rw [← Int.mul_assoc, Int.mul_comm (q : Int) 2, Int.mul_assoc]; omega) (by rw [← Int.mul_assoc, Int.mul_comm (q : Int) 2, Int.mul_assoc]; omega)
       rw [this]
       have : (decide (D - r < r) || decide (r = D - r)) = false := by simpa [not_or] using hr
       simp [this]
theorem Ph (m : Nat) (N D : Nat) (hD : 0 < D) : jG m (-(N : Int)) D = ri true (N / D + (away m true (N % D) D).toNat) := by
 have h := Nat.div_add_mod N D
 have h1 := Nat.mod_lt N hD
 have e : D * (N / D) = N / D * D := Nat.mul_comm _ _
 generalize N / D = q at *
 generalize N % D = r at *
 have hN : (N : Int) = (q : Int) * D + r := by rw [← h, e]; simp
 unfold jG ri away
 split
 · rename_i hm
   simp
   by_cases hr : 0 < r
   · have : (-(N : Int)).fdiv D = -(q + 1 : Int) := yz (by omega) (by rw [Int.neg_mul, Int.add_mul]; omega) (by rw [Int.neg_mul, Int.add_mul]; omega)
     rw [this]; simp [hr]
   · have : (-(N : Int)).fdiv D = -(q : Int) := yz (by omega) (by rw [Int.neg_mul]; omega) (by rw [Int.neg_mul]; omega)
     rw [this]; simp [hr]
 · split
   · simp
     exact yz (by omega) (by omega) (by omega)
   · simp
     by_cases hr : D - r < r
     · have : (2 * -(N : Int) + D).fdiv (2 * D) = -(q + 1 : Int) := yz (by omega) (by rw [Int.neg_mul, Int.add_mul, ← Int.mul_assoc, Int.mul_comm (q : Int) 2, Int.mul_assoc]; omega) (by rw [Int.neg_mul, Int.add_mul, ← Int.mul_assoc, Int.mul_comm (q : Int) 2, Int.mul_assoc]; omega)
       rw [this]; simp [hr]
     · have : (2 * -(N : Int) + D).fdiv (2 * D) = -(q : Int) := yz (by omega) (by rw [Int.neg_mul, ← Int.mul_assoc, Int.mul_comm (q : Int) 2, Int.mul_assoc]; omega) (by rw [Int.neg_mul, ← Int.mul_assoc, Int.mul_comm (q : Int) 2, Int.mul_assoc]; omega)
       rw [this]; simp [hr]
theorem GP (m : Nat) (n d : Int) : jG m (-n) (-d) = jG m n d := by
 unfold jG
 rw [show 2 * -n + -d = -(2 * n + d) from by omega, show 2 * -d = -(2 * d) from by omega, Int.neg_fdiv_neg, Int.neg_fdiv_neg, Int.neg_fdiv_neg]
theorem fk (m : Nat) (n d : Int) (neg : Bool) (hd : d ≠ 0) (hneg : n ≠ 0 → (neg = true ↔ (n < 0 ↔ ¬ d < 0))) :
 jG m n d = ri neg (n.natAbs / d.natAbs + (away m neg (n.natAbs % d.natAbs) d.natAbs).toNat) := by
 have hD : 0 < d.natAbs := by omega
 by_cases h0 : n = 0
 · subst h0
   have e : jG m 0 d = 0 := by
    unfold jG
    split
    · simp
    · split
      · simp
      · rcases Int.lt_or_lt_of_ne hd with h | h
        · rw [show (2 * 0 + d : Int) = -(-d) from by omega, show 2 * d = -(2 * (-d)) from by omega, Int.neg_fdiv_neg]
          exact yz (by omega) (by omega) (by omega)
        · exact yz (by omega) (by omega) (by omega)
   rw [e]
   have ea : away m neg 0 d.natAbs = false := by
    unfold away
    by_cases h1 : m = 0
    · simp [h1]
    · by_cases h2 : m = 1
      · simp [h2]
      · simp [h1, h2]
        omega
   simp [ea, ri]
 · have hneg := hneg h0
   cases neg with
   | false =>
     have hs : ¬ (n < 0 ↔ ¬ d < 0) := fun h => by simpa using hneg.2 h
     rw [← Pg m _ _ hD]
     by_cases h : d < 0
     · rw [← GP]
       congr 1 <;> omega
     · congr 1 <;> omega
   | true =>
     have hs := hneg.1 rfl
     rw [← Ph m _ _ hD]
     by_cases h : d < 0
     · rw [← GP]
       congr 1 <;> omega
     · congr 1 <;> omega
theorem GQ {u v y1 y0 : Nat} (hy : 0 < y1) (hv : v < 4294967296) : (u * 4294967296 + v) / (y1 * 4294967296 + y0) ≤ u / y1 := by
 have h : (u * 4294967296 + v) / (y1 * 4294967296 + y0) < u / y1 + 1 := by
  rw [Nat.div_lt_iff_lt_mul (by omega)]
  have h1 : u < (u / y1 + 1) * y1 := by
   rw [Nat.add_mul, Nat.one_mul]
   have := Nat.div_add_mod u y1
   have := Nat.mod_lt u hy
   have e : y1 * (u / y1) = u / y1 * y1 := Nat.mul_comm _ _
   omega
  have e : (u / y1 + 1) * (y1 * 4294967296 + y0) = (u / y1 + 1) * y1 * 4294967296 + (u / y1 + 1) * y0 := by rw [Nat.mul_add, ← Nat.mul_assoc]
  rw [e]
  omega
 omega
theorem fo {u y1 y0 : Nat} (hy : 2147483648 ≤ y1) (hy0 : y0 < 4294967296) (hu : u < y1 * 4294967296 + y0) : u / y1 ≤ 4294967297 := by
 have : u / y1 < 4294967298 := by
  rw [Nat.div_lt_iff_lt_mul (by omega)]
  omega
 omega
theorem GR {u v y : Nat} (hu : u < y) (hv : v < 4294967296) : (u * 4294967296 + v) / y < 4294967296 := by
 rw [Nat.div_lt_iff_lt_mul (by omega)]
 omega
theorem Yf {u v y1 y0 Y E : Int} (hY : Y = y1 * 4294967296 + y0) (hE : (u * 4294967296 + v) / Y = E) (hy : 2147483648 ≤ y1) (hy0 : 0 ≤ y0) (hy2 : y0 < 4294967296) (hu0 : 0 ≤ u) (hu : u < Y) (hv0 : 0 ≤ v) (hv : v < 4294967296) :
 0 ≤ E ∧ E < 4294967296 ∧ E ≤ u / y1 ∧ u / y1 ≤ 4294967297 := by
 obtain ⟨u, rfl⟩ := Int.eq_ofNat_of_zero_le hu0
 obtain ⟨a, rfl⟩ := Int.eq_ofNat_of_zero_le (show 0 ≤ y1 by omega)
 obtain ⟨b, rfl⟩ := Int.eq_ofNat_of_zero_le hy0
 obtain ⟨c, rfl⟩ := Int.eq_ofNat_of_zero_le hv0
 have f1 := GQ (u := u) (v := c) (y1 := a) (y0 := b) (by omega) (by omega)
 have f2 := fo (u := u) (y1 := a) (y0 := b) (by omega) (by omega) (by omega)
 have f3 := GR (u := u) (v := c) (y := a * 4294967296 + b) (by omega) (by omega)
 have e1 : E = (((u * 4294967296 + c) / (a * 4294967296 + b) : Nat) : Int) := by rw [← hE, hY]; simp
 have e2 : (u : Int) / a = ((u / a : Nat) : Int) := by simp
 rw [e1, e2]
 generalize (u * 4294967296 + c) / (a * 4294967296 + b) = k at *
 generalize u / a = l at *
 omega
theorem xd {u v y1 y0 Y E q r : Int} (hY : Y = y1 * 4294967296 + y0) (hE : (u * 4294967296 + v) / Y = E) (hYp : 0 < Y) (hu : u = q * y1 + r) (hq : E ≤ q) (h : q * y0 ≤ 4294967296 * r + v) : q = E := by
 have e : q * Y = q * y1 * 4294967296 + q * y0 := by rw [hY, Int.mul_add, ← Int.mul_assoc]
 have : q ≤ (u * 4294967296 + v) / Y := by
  rw [Int.le_ediv_iff_mul_le hYp, e]
  omega
 omega
theorem VO {u v y1 y0 Y E q r : Int} (hY : Y = y1 * 4294967296 + y0) (hE : (u * 4294967296 + v) / Y = E) (hYp : 0 < Y) (hu : u = q * y1 + r) (h : 4294967296 * r + v < q * y0) : E ≤ q - 1 := by
 have e : q * Y = q * y1 * 4294967296 + q * y0 := by rw [hY, Int.mul_add, ← Int.mul_assoc]
 have : (u * 4294967296 + v) / Y < q := by
  rw [Int.ediv_lt_iff_lt_mul hYp, e]
  omega
 omega
theorem VP {u y1 q r : Int} (hu : u = q * y1 + r) : u = (q - 1) * y1 + (r + y1) := by rw [hu]; grind
theorem fp {N y Y p U V v1 v0 E F W : Int} (hp : 0 < p) (hyp : 0 < y) (hN : N * p = U * 18446744073709551616 + V) (hY : y * p = Y) (hV : V = v1 * 4294967296 + v0)
 (hW : W = U * 4294967296 + v1 - E * Y) (hZ0 : 0 ≤ W * 4294967296 + v0 - F * Y) (hZ : W * 4294967296 + v0 - F * Y < Y) :
 N / y = E * 4294967296 + F ∧ N % y = (W * 4294967296 + v0 - F * Y) / p := by
 have e : (N - (E * 4294967296 + F) * y) * p = W * 4294967296 + v0 - F * Y := by
  rw [hW, Int.sub_mul, hN, hV, ← hY]; grind
 rw [← e] at hZ0 hZ ⊢
 rw [← hY] at hZ
 have h1 : 0 ≤ N - (E * 4294967296 + F) * y := by
  rcases Int.lt_or_le (N - (E * 4294967296 + F) * y) 0 with h | h
  · have := Int.mul_neg_of_neg_of_pos h hp; omega
  · exact h
 have h2 : N - (E * 4294967296 + F) * y < y := Int.lt_of_mul_lt_mul_right hZ (by omega)
 rw [Int.mul_ediv_cancel _ (by omega)]
 have h3 := Int.emod_add_mul_ediv N y
 have h4 := Int.emod_nonneg N (show y ≠ 0 by omega)
 have h5 := Int.emod_lt_of_pos N hyp
 have h6 : N / y = E * 4294967296 + F := by
  have h7 : (N / y - (E * 4294967296 + F)) * y = (N - (E * 4294967296 + F) * y) - N % y := by
   have : y * (N / y) = N / y * y := Int.mul_comm _ _
   rw [Int.sub_mul]; omega
  rcases Int.lt_trichotomy (N / y) (E * 4294967296 + F) with h8 | h8 | h8
  · have : (N / y - (E * 4294967296 + F)) * y ≤ (-1) * y := Int.mul_le_mul_of_nonneg_right (by omega) (by omega)
    omega
  · exact h8
  · have : 1 * y ≤ (N / y - (E * 4294967296 + F)) * y := Int.mul_le_mul_of_nonneg_right (by omega) (by omega)
    omega
 refine ⟨h6, ?_⟩
 rw [h6] at h3
 have : y * (E * 4294967296 + F) = (E * 4294967296 + F) * y := Int.mul_comm _ _
 omega
def norm (a : Int) : Int := a % 129600000
def zg (a b : Int) : Int := norm (norm a + norm b)
def zw (a b : Int) : Int := if 64800000 < norm (norm b - norm a) then norm (norm b - norm a) - 129600000 else norm (norm b - norm a)
theorem zM (a : Int) : 0 ≤ norm a ∧ norm a < 129600000 := by unfold norm; omega
theorem Qw {a : Int} (h : 0 ≤ a) (h1 : a < 129600000) : norm a = a := by unfold norm; omega
theorem jD (a b : Int) : zg a b = (a + b) % 129600000 := by unfold zg norm; omega
theorem ZX (a b : Int) : -64800000 < zw a b ∧ zw a b ≤ 64800000 := by unfold zw norm; omega
def tA (a : Int) : Int := (a * 6746518852 + 32400000) / 64800000
def zf (x y : Int) : Int := (x * y + 1073741824) / 2147483648
def jm (x n : Int) : Int := (x + n / 2) / n
def Um (u : Int) : Int := 2147483648 - jm u 110
def Un (u : Int) : Int := 2147483648 - jm (zf u (Um u)) 72
def Uo (u : Int) : Int := 2147483648 - jm (zf u (Un u)) 42
def KD (u : Int) : Int := 2147483648 - jm (zf u (Uo u)) 20
def bJ (u : Int) : Int := 2147483648 - jm (zf u (KD u)) 6
def Uq (u : Int) : Int := 2147483648 - jm u 90
def Ur (u : Int) : Int := 2147483648 - jm (zf u (Uq u)) 56
def Us (u : Int) : Int := 2147483648 - jm (zf u (Ur u)) 30
def Ut (u : Int) : Int := 2147483648 - jm (zf u (Us u)) 12
def xj (u : Int) : Int := 2147483648 - jm (zf u (Ut u)) 2
def uA (a : Int) : Int := zf (tA a) (tA a)
def kW (a : Int) : Int := (zf (tA a) (bJ (uA a)) + 1) / 2
def jB (a : Int) : Int := (xj (uA a) + 1) / 2
def yo (a : Int) : Int := if a ≤ 16200000 then kW a else jB (32400000 - a)
def qV (a : Int) : Int :=
 if norm a ≤ 32400000 then yo (norm a) else if norm a ≤ 64800000 then yo (64800000 - norm a) else if norm a ≤ 97200000 then -yo (norm a - 64800000) else -yo (129600000 - norm a)
def qX (a : Int) : Int := qV (zg a 32400000)
theorem ZY (f : Int → Int) (lo hi : Int) (h : ∀ x, lo ≤ x → x < hi → f x ≤ f (x + 1)) : ∀ (n : Nat) (x : Int), lo ≤ x → x + n ≤ hi → f x ≤ f (x + n)
 | 0, x, _, _ => by simp
 | n + 1, x, h1, h2 => by
   have := ZY f lo hi h n x h1 (by omega)
   have h3 := h (x + n) (by omega) (by omega)
   rw [show x + n + 1 = x + ((n + 1 : Nat) : Int) from by omega] at h3
   omega
theorem YK {f : Int → Int} {lo hi : Int} (h : ∀ x, lo ≤ x → x < hi → f x ≤ f (x + 1)) {x y : Int} (h1 : lo ≤ x) (h2 : x ≤ y) (h3 : y ≤ hi) : f x ≤ f y := by
 have := ZY f lo hi h (y - x).toNat x h1 (by omega)
 rwa [show x + ((y - x).toNat : Int) = y from by omega] at this
theorem ym {u r : Int} (hu : 0 ≤ u) (hr : 0 ≤ r) (hr2 : r ≤ 2147483648) : 0 ≤ zf u r ∧ zf u r ≤ u := by
 have h1 : 0 ≤ u * r := Int.mul_nonneg hu hr
 have h2 : u * r ≤ u * 2147483648 := Int.mul_le_mul_of_nonneg_left hr2 hu
 unfold zf
 omega
theorem kB {u r r' : Int} (hu : 0 ≤ u) (h : r' ≤ r) (h' : r ≤ r' + 1) (hr : u + 1 ≤ r) (hr2 : r ≤ 2147483648) : zf u r ≤ zf (u + 1) r' ∧ zf (u + 1) r' ≤ zf u r + 1 := by
 have h1 : (u + 1) * (r - 1) ≤ (u + 1) * r' := Int.mul_le_mul_of_nonneg_left (by omega) (by omega)
 have h2 : (u + 1) * r' ≤ (u + 1) * r := Int.mul_le_mul_of_nonneg_left h (by omega)
 have e : (u + 1) * r = u * r + r := by rw [Int.add_mul, Int.one_mul]
 rw [Int.mul_sub, e] at h1
 rw [e] at h2
 unfold zf
 omega
theorem pg {u : Int} (h : 0 ≤ u) (h2 : u ≤ 1325000000) : 2135000000 ≤ Um u ∧ Um u ≤ 2147483648 := by unfold Um jm; omega
theorem pq {u : Int} (h : 0 ≤ u) (h2 : u ≤ 1325000000) : 2129000000 ≤ Un u ∧ Un u ≤ 2147483648 := by
 have a := pg h h2
 have b := ym h (show 0 ≤ Um u by omega) a.2
 unfold Un jm; omega
theorem pu {u : Int} (h : 0 ≤ u) (h2 : u ≤ 1325000000) : 2115000000 ≤ Uo u ∧ Uo u ≤ 2147483648 := by
 have a := pq h h2
 have b := ym h (show 0 ≤ Un u by omega) a.2
 unfold Uo jm; omega
theorem pw {u : Int} (h : 0 ≤ u) (h2 : u ≤ 1325000000) : 2081000000 ≤ KD u ∧ KD u ≤ 2147483648 := by
 have a := pu h h2
 have b := ym h (show 0 ≤ Uo u by omega) a.2
 unfold KD jm; omega
theorem Zi {u : Int} (h : 0 ≤ u) (h2 : u ≤ 1325000000) : 1926000000 ≤ bJ u ∧ bJ u ≤ 2147483648 := by
 have a := pw h h2
 have b := ym h (show 0 ≤ KD u by omega) a.2
 unfold bJ jm; omega
theorem pz {u : Int} (h : 0 ≤ u) (h2 : u ≤ 1325000000) : 2132000000 ≤ Uq u ∧ Uq u ≤ 2147483648 := by unfold Uq jm; omega
theorem pC {u : Int} (h : 0 ≤ u) (h2 : u ≤ 1325000000) : 2123000000 ≤ Ur u ∧ Ur u ≤ 2147483648 := by
 have a := pz h h2
 have b := ym h (show 0 ≤ Uq u by omega) a.2
 unfold Ur jm; omega
theorem pD {u : Int} (h : 0 ≤ u) (h2 : u ≤ 1325000000) : 2103000000 ≤ Us u ∧ Us u ≤ 2147483648 := by
 have a := pC h h2
 have b := ym h (show 0 ≤ Ur u by omega) a.2
 unfold Us jm; omega
theorem pE {u : Int} (h : 0 ≤ u) (h2 : u ≤ 1325000000) : 2037000000 ≤ Ut u ∧ Ut u ≤ 2147483648 := by
 have a := pD h h2
 have b := ym h (show 0 ≤ Us u by omega) a.2
 unfold Ut jm; omega
theorem pF {u : Int} (h : 0 ≤ u) (h2 : u ≤ 1325000000) : 1484000000 ≤ xj u ∧ xj u ≤ 2147483648 := by
 have a := pE h h2
 have b := ym h (show 0 ≤ Ut u by omega) a.2
 unfold xj jm; omega
theorem ee {u : Int} (h : 0 ≤ u) (h2 : u < 1325000000) : Um (u + 1) ≤ Um u ∧ Um u ≤ Um (u + 1) + 1 := by unfold Um jm; omega
theorem ef {u : Int} (h : 0 ≤ u) (h2 : u < 1325000000) : Un (u + 1) ≤ Un u ∧ Un u ≤ Un (u + 1) + 1 := by
 have b := pg h (by omega)
 have a := ee h h2
 have c := kB h a.1 a.2 (by omega) b.2
 unfold Un jm; omega
theorem eu {u : Int} (h : 0 ≤ u) (h2 : u < 1325000000) : Uo (u + 1) ≤ Uo u ∧ Uo u ≤ Uo (u + 1) + 1 := by
 have b := pq h (by omega)
 have a := ef h h2
 have c := kB h a.1 a.2 (by omega) b.2
 unfold Uo jm; omega
theorem eD {u : Int} (h : 0 ≤ u) (h2 : u < 1325000000) : KD (u + 1) ≤ KD u ∧ KD u ≤ KD (u + 1) + 1 := by
 have b := pu h (by omega)
 have a := eu h h2
 have c := kB h a.1 a.2 (by omega) b.2
 unfold KD jm; omega
def lA (u : Int) : Int := zf u (KD u)
theorem ZZ {u : Int} (h : 0 ≤ u) (h2 : u < 1325000000) : lA u ≤ lA (u + 1) ∧ lA (u + 1) ≤ lA u + 1 := by
 have b := pw h (by omega)
 have a := eD h h2
 exact kB h a.1 a.2 (by omega) b.2
theorem eE {u : Int} (h : 0 ≤ u) (h2 : u < 1325000000) : Uq (u + 1) ≤ Uq u ∧ Uq u ≤ Uq (u + 1) + 1 := by unfold Uq jm; omega
theorem eF {u : Int} (h : 0 ≤ u) (h2 : u < 1325000000) : Ur (u + 1) ≤ Ur u ∧ Ur u ≤ Ur (u + 1) + 1 := by
 have b := pz h (by omega)
 have a := eE h h2
 have c := kB h a.1 a.2 (by omega) b.2
 unfold Ur jm; omega
theorem eG {u : Int} (h : 0 ≤ u) (h2 : u < 1325000000) : Us (u + 1) ≤ Us u ∧ Us u ≤ Us (u + 1) + 1 := by
 have b := pC h (by omega)
 have a := eF h h2
 have c := kB h a.1 a.2 (by omega) b.2
 unfold Us jm; omega
theorem eH {u : Int} (h : 0 ≤ u) (h2 : u < 1325000000) : Ut (u + 1) ≤ Ut u ∧ Ut u ≤ Ut (u + 1) + 1 := by
 have b := pD h (by omega)
 have a := eG h h2
 have c := kB h a.1 a.2 (by omega) b.2
 unfold Ut jm; omega
theorem GS {u : Int} (h : 0 ≤ u) (h2 : u < 1325000000) : xj (u + 1) ≤ xj u ∧ xj u ≤ xj (u + 1) + 1 := by
 have b := pE h (by omega)
 have a := eH h h2
 have c := kB h a.1 a.2 (by omega) b.2
 unfold xj jm; omega
theorem eI {u v : Int} (h : 0 ≤ u) (h1 : u ≤ v) (h2 : v ≤ 1325000000) : xj v ≤ xj u := by
 have : -xj u ≤ -xj v := YK (f := fun x => -xj x) (lo := 0) (hi := 1325000000) (fun x a b => by have := GS a b; show -xj x ≤ -xj (x + 1); omega) h h1 h2
 omega
theorem Ja {a b : Int} (h : 0 ≤ a) (h1 : a ≤ b) : a * a ≤ b * b := Int.mul_le_mul h1 h1 h (by omega)
theorem bK {t : Int} (h : 0 ≤ t) (h2 : t ≤ 1686629713) : 0 ≤ zf t t ∧ zf t t ≤ 1325000000 := by
 have h1 : 0 ≤ t * t := Int.mul_nonneg h h
 have h3 := Ja h h2
 unfold zf
 omega
theorem eJ {t t' : Int} (h : 0 ≤ t) (h2 : t ≤ t') : zf t t ≤ zf t' t' := by
 have h3 := Ja h h2
 unfold zf
 omega
def sT (t : Int) : Int := zf t (bJ (zf t t))
theorem Pi {t : Int} (h : 0 ≤ t) (h2 : t < 1686629713) : sT t ≤ sT (t + 1) := by
 have h0 : 0 ≤ t * t := Int.mul_nonneg h h
 have e : (t + 1) * (t + 1) = t * t + 2 * t + 1 := by grind
 have u1 := bK h (by omega)
 have u2 := bK (t := t + 1) (by omega) (by omega)
 have d1 : zf t t ≤ zf (t + 1) (t + 1) ∧ zf (t + 1) (t + 1) ≤ zf t t + 2 := by unfold zf; rw [e]; omega
 have hv : lA (zf t t) ≤ lA (zf (t + 1) (t + 1)) ∧ lA (zf (t + 1) (t + 1)) ≤ lA (zf t t) + 2 := by
  generalize zf (t + 1) (t + 1) = u' at *
  generalize zf t t = u at *
  have : u' = u ∨ u' = u + 1 ∨ u' = u + 1 + 1 := by omega
  rcases this with rfl | rfl | rfl
  · omega
  · have := ZZ u1.1 (by omega)
    omega
  · have a := ZZ u1.1 (by omega)
    have b := ZZ (u := u + 1) (by omega) (by omega)
    omega
 have r1 := Zi u1.1 u1.2
 have r2 := Zi u2.1 u2.2
 have dr : bJ (zf t t) - 1 ≤ bJ (zf (t + 1) (t + 1)) := by
  unfold lA at hv
  unfold bJ jm
  omega
 have h3 : (t + 1) * (bJ (zf t t) - 1) ≤ (t + 1) * bJ (zf (t + 1) (t + 1)) := Int.mul_le_mul_of_nonneg_left dr (by omega)
 have e3 : (t + 1) * bJ (zf t t) = t * bJ (zf t t) + bJ (zf t t) := by rw [Int.add_mul, Int.one_mul]
 rw [Int.mul_sub, e3] at h3
 unfold sT
 unfold zf at *
 omega
theorem xx {a : Int} (h : 0 ≤ a) (h2 : a ≤ 16200000) : 0 ≤ tA a ∧ tA a ≤ 1686629713 := by unfold tA; omega
theorem mZ {a b : Int} (h : a ≤ b) : tA a ≤ tA b := by unfold tA; omega
theorem Qx {a b : Int} (h : 0 ≤ a) (h1 : a ≤ b) (h2 : b ≤ 16200000) : kW a ≤ kW b := by
 have ta := xx h (by omega)
 have tb := xx (a := b) (by omega) h2
 have := YK (f := sT) (lo := 0) (hi := 1686629713) (fun x p q => Pi p q) ta.1 (mZ h1) tb.2
 unfold kW uA
 unfold sT at this
 omega
theorem gk {a b : Int} (h : 0 ≤ a) (h1 : a ≤ b) (h2 : b ≤ 16200000) : jB b ≤ jB a := by
 have ta := xx h (by omega)
 have tb := xx (a := b) (by omega) h2
 have ua := bK ta.1 ta.2
 have ub := bK tb.1 tb.2
 have := eI ua.1 (eJ ta.1 (mZ h1)) ub.2
 unfold jB uA
 omega
theorem YL {a : Int} (h : 0 ≤ a) (h2 : a ≤ 16200000) : 0 ≤ kW a ∧ kW a ≤ 759250125 := by
 have h0 := Qx (Int.le_refl 0) h h2
 have h1 := Qx h h2 (Int.le_refl _)
 have e0 : kW 0 = 0 := by decide
 have e1 : kW 16200000 = 759250125 := by decide
 omega
theorem Qy {a : Int} (h : 0 ≤ a) (h2 : a ≤ 16200000) : 759250125 ≤ jB a ∧ jB a ≤ 1073741824 := by
 have h0 := gk (Int.le_refl 0) h h2
 have h1 := gk h h2 (Int.le_refl _)
 have e0 : jB 0 = 1073741824 := by decide
 have e1 : jB 16200000 = 759250125 := by decide
 omega
theorem Qz {a : Int} (h : 0 ≤ a) (h2 : a ≤ 32400000) : 0 ≤ yo a ∧ yo a ≤ 1073741824 := by
 unfold yo
 split
 · have := YL h (by omega); omega
 · have := Qy (a := 32400000 - a) (by omega) (by omega); omega
theorem kJ (a : Int) : -1073741824 ≤ qV a ∧ qV a ≤ 1073741824 := by
 have n := zM a
 unfold qV
 split
 · have := Qz n.1 (by omega); omega
 · split
   · have := Qz (a := 64800000 - norm a) (by omega) (by omega); omega
   · split
     · have := Qz (a := norm a - 64800000) (by omega) (by omega); omega
     · have := Qz (a := 129600000 - norm a) (by omega) (by omega); omega
theorem uj (a : Int) : -1073741824 ≤ qX a ∧ qX a ≤ 1073741824 := kJ _
def Nk (x lo hi : Int) : Int := if x < lo then lo else if hi < x then hi else x
def sat (x : Int) : Int := Nk x (-9223372036854775808) 9223372036854775807
def Zj (x : Int) : Bool := decide (-9223372036854775808 ≤ x ∧ x ≤ 9223372036854775807)
def qM (m : Nat) (a b c : Int) : Int × Int := if c = 0 then (0, 1) else if Zj (jG m (a * b) c) then (jG m (a * b) c, 0) else (0, 2)
def bL (p : Nat → Bool) : Nat → Nat
 | 0 => 0
 | k + 1 => if p (k + 1) then k + 1 else bL p k
theorem fq (p : Nat → Bool) (N c : Nat) (hc : c ≤ N) (h : c = 0 ∨ p c = true) (hn : ∀ d, c < d → d ≤ N → p d = false) : bL p N = c := by
 induction N with
 | zero => simp [bL]; omega
 | succ k ih =>
   unfold bL
   by_cases e : c = k + 1
   · subst e
     rcases h with h | h
     · omega
     · rw [if_pos h]
   · rw [hn (k + 1) (by omega) (Nat.le_refl _)]
     simp
     exact ih (by omega) (fun d h1 h2 => hn d h1 (by omega))
theorem GU (p : Nat → Bool) (N : Nat) : bL p N ≤ N ∧ (bL p N = 0 ∨ p (bL p N) = true) ∧ ∀ d, bL p N < d → d ≤ N → p d = false := by
 induction N with
 | zero => simp [bL]; omega
 | succ k ih =>
   unfold bL
   split
   · rename_i h
     exact ⟨Nat.le_refl _, .inr h, fun d h1 h2 => by omega⟩
   · rename_i h
     refine ⟨by omega, ih.2.1, fun d h1 h2 => ?_⟩
     by_cases e : d = k + 1
     · subst e; simpa using h
     · exact ih.2.2 d h1 (by omega)
theorem VQ {c : Int} (h : 0 ≤ c) (h2 : c ≤ 16200000) : qV c = kW c := by
 unfold qV
 rw [Qw h (by omega), if_pos (by omega)]
 unfold yo
 rw [if_pos h2]
theorem VR {c : Int} (h : 0 ≤ c) (h2 : c ≤ 16200000) : qX c = jB c := by
 unfold qX qV
 have e : norm (zg c 32400000) = c + 32400000 := by rw [jD]; unfold norm; omega
 rw [e]
 by_cases h0 : c = 0
 · subst h0; decide
 · rw [if_neg (by omega), if_pos (by omega)]
   unfold yo
   by_cases h3 : c = 16200000
   · subst h3; decide
   · rw [if_neg (by omega), show 32400000 - (64800000 - (c + 32400000)) = c from by omega]
def Pj (m n : Int) (c : Nat) : Bool := decide (qV c * m ≤ qX c * n)
theorem eK {m n : Int} (hm : 0 ≤ m) (hn : 0 ≤ n) {c d : Nat} (h : c ≤ d) (hd : d ≤ 16200000) (hp : Pj m n d = true) : Pj m n c = true := by
 have e1 : qV d * m ≤ qX d * n := of_decide_eq_true hp
 clear hp
 refine decide_eq_true (?_ : qV c * m ≤ qX c * n)
 rw [VQ (Int.natCast_nonneg d) (by omega), VR (Int.natCast_nonneg d) (by omega)] at e1
 rw [VQ (Int.natCast_nonneg c) (by omega), VR (Int.natCast_nonneg c) (by omega)]
 have a := Qx (Int.natCast_nonneg c) (show (c : Int) ≤ d by omega) (by omega)
 have b := gk (Int.natCast_nonneg c) (show (c : Int) ≤ d by omega) (by omega)
 have a' := Int.mul_le_mul_of_nonneg_right a hm
 have b' := Int.mul_le_mul_of_nonneg_right b hn
 exact Int.le_trans a' (Int.le_trans e1 b')
def CF : Nat := 16200000
theorem BG : CF = 16200000 := rfl
def kZ (m n : Int) : Int := bL (Pj m n) CF
theorem JJ (m n : Int) : ∃ g : Nat, kZ m n = g ∧ g ≤ CF ∧ (g = 0 ∨ Pj m n g = true) ∧ ∀ d, g < d → d ≤ CF → Pj m n d = false :=
 ⟨_, rfl, GU _ _⟩
theorem Qd (m n : Int) : 0 ≤ kZ m n ∧ kZ m n ≤ 16200000 := by
 obtain ⟨g, h, h1, _⟩ := JJ m n
 have h2 := BG
 rw [h]
 constructor
 · exact Int.natCast_nonneg g
 · clear h
   omega
def yL (y x : Int) : Int := if x.natAbs < y.natAbs then 32400000 - kZ y.natAbs x.natAbs else kZ x.natAbs y.natAbs
def qZ (y x : Int) : Int :=
 if 0 ≤ y then (if 0 ≤ x then yL y x else 64800000 - yL y x) else if x < 0 then 64800000 + yL y x else norm (-yL y x)
theorem GV (y x : Int) : 0 ≤ yL y x ∧ yL y x ≤ 32400000 := by
 unfold yL
 have := Qd y.natAbs x.natAbs
 have := Qd x.natAbs y.natAbs
 split <;> omega
theorem uk (y x : Int) : 0 ≤ qZ y x ∧ qZ y x < 129600000 := by
 have := GV y x
 unfold qZ norm
 split <;> split <;> omega
def qf (x y : Int) : Bool := decide (-2000000 ≤ x ∧ x ≤ 2000000 ∧ -2000000 ≤ y ∧ y ≤ 2000000)
def jv (ax ay bx b_y : Int) : Int := (bx - ax) * (bx - ax) + (b_y - ay) * (b_y - ay)
def qJ (ax ay bx b_y : Int) : Int := if qf ax ay && qf bx b_y then vO (jv ax ay bx b_y).toNat else 0
def qF (ax ay bx b_y : Int) : Int × Int :=
 if !(qf ax ay && qf bx b_y) then (0, 1) else if ax = bx ∧ ay = b_y then (0, 10) else (qZ (bx - ax) (b_y - ay), 0)
def bM (a b : Int) : Int := if a < b then -1 else if a > b then 1 else 0
def BH (ax ay bx b_y px py : Int) : Int :=
 if qf ax ay && qf bx b_y && qf px py then bM ((bx - ax) * (px - bx) + (b_y - ay) * (py - b_y)) 0 else 0
def Yr (n s : Int) : Int := if n < 0 then -(vO (n * n / s).toNat : Int) else vO (n * n / s).toNat
def VS (ax ay bx b_y px py : Int) : Int × Int × Int :=
 if !(qf ax ay && qf bx b_y && qf px py) then (0, 0, 1) else if ax = bx ∧ ay = b_y then (0, 0, 10) else
 (Yr (-((bx - ax) * (py - ay) - (b_y - ay) * (px - ax))) (jv ax ay bx b_y), Yr ((bx - ax) * (px - ax) + (b_y - ay) * (py - ay)) (jv ax ay bx b_y), 0)
def ul (ax ay vx vy n d : Int) : Int × Int × Int :=
 if (qM 2 vx n d).2 = 0 ∧ (qM 2 vy n d).2 = 0 then
  (if qf (sat (ax + (qM 2 vx n d).1)) (sat (ay + (qM 2 vy n d).1)) then (sat (ax + (qM 2 vx n d).1), sat (ay + (qM 2 vy n d).1), 0) else (0, 0, 2))
 else (0, 0, 2)
def VT (ax ay bx b_y px py : Int) : Int × Int × Int :=
 if !(qf ax ay && qf bx b_y && qf px py) then (0, 0, 1) else if ax = bx ∧ ay = b_y then (0, 0, 10) else
 ul ax ay (bx - ax) (b_y - ay) ((bx - ax) * (px - ax) + (b_y - ay) * (py - ay)) (jv ax ay bx b_y)
def Yg (ax ay bx b_y cx cy dx dy : Int) : Int × Int × Int :=
 if !(qf ax ay && qf bx b_y && qf cx cy && qf dx dy) then (0, 0, 1) else if (bx - ax) * (dy - cy) - (b_y - ay) * (dx - cx) = 0 then (0, 0, 10) else
 ul ax ay (bx - ax) (b_y - ay) ((cx - ax) * (dy - cy) - (cy - ay) * (dx - cx)) ((bx - ax) * (dy - cy) - (b_y - ay) * (dx - cx))
def zQ (dist course : Int) : Int := jG 2 (dist * qV course) 1073741824
def zR (dist course : Int) : Int := jG 2 (dist * qX course) 1073741824
def zi (px py course dist : Int) : Int × Int × Int :=
 if !qf px py then (0, 0, 1) else if dist > 8000000 ∨ dist < -8000000 then (0, 0, 2) else
 if qf (px + zQ dist course) (py + zR dist course) then (px + zQ dist course, py + zR dist course, 0) else (0, 0, 2)
def yX (cx cy r f s : Int) : Bool := qf cx cy && decide (1 ≤ r ∧ r ≤ 8000000 ∧ 0 ≤ f ∧ f < 129600000 ∧ -129600000 ≤ s ∧ s ≤ 129600000)
def qA (cx cy r f s : Int) : Int := if yX cx cy r f s then jG 2 (r * s.natAbs) 20626481 else 0
def zr (s w : Int) : Int := if s < 0 then -w else w
def ba (n s along : Int) : Int := if 0 < n then jG 2 (along * s.natAbs) n else 0
def jM (f s n along : Int) : Int := zg f (zr s (ba n s along))
def qI (cx cy r f s along : Int) : Int × Int × Int × Int :=
 if !yX cx cy r f s then (0, 0, 0, 1) else if along < 0 ∨ along > qA cx cy r f s then (0, 0, 0, 2) else
 if (zi cx cy (jM f s (qA cx cy r f s) along) r).2.2 = 0 then
  ((zi cx cy (jM f s (qA cx cy r f s) along) r).1, (zi cx cy (jM f s (qA cx cy r f s) along) r).2.1, zg (jM f s (qA cx cy r f s) along) (zr s 32400000), 0)
 else (0, 0, 0, 2)
def kK (right : Bool) (a b : Int) : Int := if right then norm (norm b - norm a) else norm (norm a - norm b)
theorem Qe (x y : Int) : qf x y = true ↔ (-2000000 ≤ x ∧ x ≤ 2000000 ∧ -2000000 ≤ y ∧ y ≤ 2000000) := by unfold qf; exact decide_eq_true_iff
theorem GW (a b c d : Int) : (a * c + b * d) * (a * c + b * d) + (a * d - b * c) * (a * d - b * c) = (a * a + b * b) * (c * c + d * d) := by grind
theorem zx (a : Int) : 0 ≤ a * a := by
 rcases Int.le_total 0 a with h | h
 · exact Int.mul_nonneg h h
 · exact Int.mul_nonneg_of_nonpos_of_nonpos h h
theorem da {a b : Int} (hb : 0 ≤ b) (h : a * a < b * b) : a < b := by
 rcases Int.lt_or_le a b with h1 | h1
 · exact h1
 · have := Int.mul_le_mul h1 h1 hb (by omega)
   omega
theorem gm {a b : Int} (hb : 0 ≤ b) (h : a * a ≤ b * b) : a ≤ b := by
 rcases Int.lt_or_le b a with h1 | h1
 · have h2 : (b + 1) * (b + 1) ≤ a * a := Int.mul_le_mul (by omega) (by omega) (by omega) (by omega)
   have e : (b + 1) * (b + 1) = b * b + 2 * b + 1 := by grind
   omega
 · exact h1
theorem Jb (ax ay bx b_y : Int) : 0 ≤ jv ax ay bx b_y := by
 unfold jv
 have := zx (bx - ax)
 have := zx (b_y - ay)
 omega
theorem QA (n : Int) (h : 0 ≤ n) : (vO n.toNat : Int) * vO n.toNat ≤ n ∧ n < ((vO n.toNat : Int) + 1) * ((vO n.toNat : Int) + 1) := by
 obtain ⟨k, rfl⟩ := Int.eq_ofNat_of_zero_le h
 have := ux k
 simp only [Int.toNat_natCast]
 constructor
 · exact_mod_cast this.1
 · exact_mod_cast this.2
theorem Yh {a m : Int} (h : -m ≤ a) (h2 : a ≤ m) : a * a ≤ m * m := by
 rcases Int.le_total 0 a with h3 | h3
 · exact Int.mul_le_mul h2 h2 h3 (by omega)
 · have : (-a) * (-a) ≤ m * m := Int.mul_le_mul (by omega) (by omega) (by omega) (by omega)
   rwa [Int.neg_mul_neg] at this
theorem VU {ax ay bx b_y : Int} (h1 : qf ax ay = true) (h2 : qf bx b_y = true) : jv ax ay bx b_y ≤ 32000000000000 := by
 rw [Qe] at h1 h2
 have := Yh (a := bx - ax) (m := 4000000) (by omega) (by omega)
 have := Yh (a := b_y - ay) (m := 4000000) (by omega) (by omega)
 unfold jv
 omega
theorem kh (ax ay bx b_y : Int) : 0 ≤ qJ ax ay bx b_y ∧ qJ ax ay bx b_y ≤ 5656854 := by
 unfold qJ
 split
 · rename_i h
   rw [Bool.and_eq_true] at h
   have h1 := VU h.1 h.2
   have h2 : vO (jv ax ay bx b_y).toNat < 5656855 := ed (by omega)
   omega
 · omega
theorem EL (ax ay bx b_y : Int) : BH ax ay bx b_y bx b_y = 0 := by
 unfold BH bM
 simp
theorem fu {ax ay bx b_y : Int} (h : ¬ (ax = bx ∧ ay = b_y)) : 0 < jv ax ay bx b_y := by
 unfold jv
 by_cases hx : bx - ax = 0
 · have hy : b_y - ay ≠ 0 := by omega
   have := zx (bx - ax)
   rcases Int.lt_or_lt_of_ne hy with h | h
   · have := Int.mul_pos_of_neg_of_neg h h; omega
   · have := Int.mul_pos h h; omega
 · have := zx (b_y - ay)
   rcases Int.lt_or_lt_of_ne hx with h | h
   · have := Int.mul_pos_of_neg_of_neg h h; omega
   · have := Int.mul_pos h h; omega
theorem MQ (a b c d : Int) : (a * d - b * c) * (a * d - b * c) ≤ (c * c + d * d) * (a * a + b * b) := by
 have h := GW a b c d
 have := zx (a * c + b * d)
 have e : (c * c + d * d) * (a * a + b * b) = (a * a + b * b) * (c * c + d * d) := Int.mul_comm _ _
 omega
theorem MR (a b c d : Int) : (a * c + b * d) * (a * c + b * d) ≤ (c * c + d * d) * (a * a + b * b) := by
 have h := GW a b c d
 have := zx (a * d - b * c)
 have e : (c * c + d * d) * (a * a + b * b) = (a * a + b * b) * (c * c + d * d) := Int.mul_comm _ _
 omega
theorem QC (n d : Int) (hd : d ≠ 0) : -(d.natAbs : Int) ≤ 2 * (jG 2 n d * d - n) ∧ 2 * (jG 2 n d * d - n) ≤ d.natAbs := by
 unfold jG
 simp only [show (2 : Nat) ≠ 0 from by decide, show (2 : Nat) ≠ 1 from by decide, if_false]
 rcases Int.lt_or_lt_of_ne hd with h | h
 · have e : (2 * n + d).fdiv (2 * d) = (-(2 * n + d)).fdiv (-(2 * d)) := (Int.neg_fdiv_neg _ _).symm
   rw [e]
   have b := ZW (-(2 * n + d)) (-(2 * d)) (by omega)
   generalize (-(2 * n + d)).fdiv (-(2 * d)) = k at *
   have e2 : k * -(2 * d) = -(2 * (k * d)) := by grind
   omega
 · have b := ZW (2 * n + d) (2 * d) (by omega)
   generalize (2 * n + d).fdiv (2 * d) = k at *
   have e2 : k * (2 * d) = 2 * (k * d) := by grind
   omega
theorem JK (n : Int) : jG 2 n 20626481 = (2 * n + 20626481) / 41252962 := by
 unfold jG
 simp only [show (2 : Nat) ≠ 0 from by decide, show (2 : Nat) ≠ 1 from by decide, if_false]
 rw [show (2 : Int) * 20626481 = 41252962 from by decide, Int.fdiv_eq_ediv_of_nonneg _ (by decide)]
end Go.Proofs.YteanfgobpjdmnaaGreatDoor
