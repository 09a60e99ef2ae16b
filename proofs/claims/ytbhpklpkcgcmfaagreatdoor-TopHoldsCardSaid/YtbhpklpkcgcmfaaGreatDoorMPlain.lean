/-
  Plain arithmetic: whole square roots, rounded quotients, and the steps of long division by two words. No program.
-/
namespace Go.Proofs.YtbhpklpkcgcmfaaGreatDoor
set_option linter.unusedVariables false
def isq : Nat → Nat
 | 0 => 0
 | n + 1 => if (isq n + 1) * (isq n + 1) ≤ n + 1 then isq n + 1 else isq n
theorem isq_spec : ∀ n : Nat, isq n * isq n ≤ n ∧ n < (isq n + 1) * (isq n + 1)
 | 0 => by simp [isq]
 | n + 1 => by
   have ih := isq_spec n
   unfold isq
   split
   · rename_i h
     refine ⟨h, ?_⟩
     have e : (isq n + 1 + 1) * (isq n + 1 + 1) = (isq n + 1) * (isq n + 1) + 2 * (isq n + 1) + 1 := by grind
     omega
   · omega
theorem sq_lt {a b : Nat} (h : a * a < b * b) : a < b := by
 rcases Nat.lt_or_ge a b with h1 | h1
 · exact h1
 · have := Nat.mul_le_mul h1 h1
   omega
theorem isq_eq {n r : Nat} (h1 : r * r ≤ n) (h2 : n < (r + 1) * (r + 1)) : isq n = r := by
 have h := isq_spec n
 have a := sq_lt (Nat.lt_of_le_of_lt h.1 h2)
 have b := sq_lt (Nat.lt_of_le_of_lt h1 h.2)
 omega
theorem isq_lt {n r : Nat} (h : n < r * r) : isq n < r := by
 have h1 := isq_spec n
 exact sq_lt (Nat.lt_of_le_of_lt h1.1 h)
theorem le_isq {n r : Nat} (h : r * r ≤ n) : r ≤ isq n := by
 have h1 := isq_spec n
 have := sq_lt (Nat.lt_of_le_of_lt h h1.2)
 omega
theorem isq_zero_iff (n : Nat) : isq n = 0 ↔ n = 0 := by
 constructor
 · intro h
   have := (isq_spec n).2
   rw [h] at this
   omega
 · rintro rfl; rfl
def rnd (m : Nat) (n d : Int) : Int := if m = 0 then n.fdiv d else if m = 1 then -((-n).fdiv d) else (2 * n + d).fdiv (2 * d)
theorem floor_of {x d k : Int} (hd : 0 < d) (h1 : k * d ≤ x) (h2 : x < k * d + d) : x.fdiv d = k := by
 rw [Int.fdiv_eq_ediv_of_nonneg _ (by omega)]
 have h := Int.emod_add_mul_ediv x d
 have h3 := Int.emod_nonneg x (show d ≠ 0 by omega)
 have h4 := Int.emod_lt_of_pos x hd
 have e : d * (x / d) - k * d = (x / d - k) * d := by grind
 rcases Int.lt_trichotomy (x / d) k with h5 | h5 | h5
 · have : (x / d - k) * d ≤ (-1) * d := Int.mul_le_mul_of_nonneg_right (by omega) (by omega)
   omega
 · exact h5
 · have : 1 * d ≤ (x / d - k) * d := Int.mul_le_mul_of_nonneg_right (by omega) (by omega)
   omega
theorem floor_bd (x d : Int) (hd : 0 < d) : x.fdiv d * d ≤ x ∧ x < x.fdiv d * d + d := by
 rw [Int.fdiv_eq_ediv_of_nonneg _ (by omega)]
 have h := Int.emod_add_mul_ediv x d
 have h3 := Int.emod_nonneg x (show d ≠ 0 by omega)
 have h4 := Int.emod_lt_of_pos x hd
 have e : d * (x / d) = x / d * d := Int.mul_comm _ _
 omega
def away (m : Nat) (neg : Bool) (r d : Nat) : Bool := if m = 0 then neg && decide (0 < r) else if m = 1 then !neg && decide (0 < r) else decide (d - r < r) || (!neg && decide (r = d - r))
def sgn (neg : Bool) (n : Nat) : Int := if neg then -(n : Int) else n
theorem rnd_pos (m : Nat) (N D : Nat) (hD : 0 < D) : rnd m N D = sgn false (N / D + (away m false (N % D) D).toNat) := by
 have h := Nat.div_add_mod N D
 have h1 := Nat.mod_lt N hD
 have e : D * (N / D) = N / D * D := Nat.mul_comm _ _
 generalize N / D = q at *
 generalize N % D = r at *
 have hN : (N : Int) = (q : Int) * D + r := by rw [← h, e]; simp
 unfold rnd sgn away
 split
 · rename_i hm
   simp
   exact floor_of (by omega) (by omega) (by omega)
 · split
   · simp
     by_cases hr : 0 < r
     · have : (-(N : Int)).fdiv D = -(q + 1 : Int) := floor_of (by omega) (by rw [Int.neg_mul, Int.add_mul]; omega) (by rw [Int.neg_mul, Int.add_mul]; omega)
       rw [this]; simp [hr]
     · have : (-(N : Int)).fdiv D = -(q : Int) := floor_of (by omega) (by rw [Int.neg_mul]; omega) (by rw [Int.neg_mul]; omega)
       rw [this]; simp [hr]
   · simp
     by_cases hr : D - r < r ∨ r = D - r
     · have : (2 * (N : Int) + D).fdiv (2 * D) = q + 1 := floor_of (by omega) (by rw [Int.add_mul, ← Int.mul_assoc, Int.mul_comm (q : Int) 2, Int.mul_assoc]; omega) (by rw [Int.add_mul, ← Int.mul_assoc, Int.mul_comm (q : Int) 2, Int.mul_assoc]; omega)
       rw [this]
       have : (decide (D - r < r) || decide (r = D - r)) = true := by simpa using hr
       simp [this]
     · have : (2 * (N : Int) + D).fdiv (2 * D) = q := floor_of (by omega) (by rw [← Int.mul_assoc, Int.mul_comm (q : Int) 2, Int.mul_assoc]; omega) (by rw [← Int.mul_assoc, Int.mul_comm (q : Int) 2, Int.mul_assoc]; omega)
       rw [this]
       have : (decide (D - r < r) || decide (r = D - r)) = false := by simpa [not_or] using hr
       simp [this]
theorem rnd_neg (m : Nat) (N D : Nat) (hD : 0 < D) : rnd m (-(N : Int)) D = sgn true (N / D + (away m true (N % D) D).toNat) := by
 have h := Nat.div_add_mod N D
 have h1 := Nat.mod_lt N hD
 have e : D * (N / D) = N / D * D := Nat.mul_comm _ _
 generalize N / D = q at *
 generalize N % D = r at *
 have hN : (N : Int) = (q : Int) * D + r := by rw [← h, e]; simp
 unfold rnd sgn away
 split
 · rename_i hm
   simp
   by_cases hr : 0 < r
   · have : (-(N : Int)).fdiv D = -(q + 1 : Int) := floor_of (by omega) (by rw [Int.neg_mul, Int.add_mul]; omega) (by rw [Int.neg_mul, Int.add_mul]; omega)
     rw [this]; simp [hr]
   · have : (-(N : Int)).fdiv D = -(q : Int) := floor_of (by omega) (by rw [Int.neg_mul]; omega) (by rw [Int.neg_mul]; omega)
     rw [this]; simp [hr]
 · split
   · simp
     exact floor_of (by omega) (by omega) (by omega)
   · simp
     by_cases hr : D - r < r
     · have : (2 * -(N : Int) + D).fdiv (2 * D) = -(q + 1 : Int) := floor_of (by omega) (by rw [Int.neg_mul, Int.add_mul, ← Int.mul_assoc, Int.mul_comm (q : Int) 2, Int.mul_assoc]; omega) (by rw [Int.neg_mul, Int.add_mul, ← Int.mul_assoc, Int.mul_comm (q : Int) 2, Int.mul_assoc]; omega)
       rw [this]; simp [hr]
     · have : (2 * -(N : Int) + D).fdiv (2 * D) = -(q : Int) := floor_of (by omega) (by rw [Int.neg_mul, ← Int.mul_assoc, Int.mul_comm (q : Int) 2, Int.mul_assoc]; omega) (by rw [Int.neg_mul, ← Int.mul_assoc, Int.mul_comm (q : Int) 2, Int.mul_assoc]; omega)
       rw [this]; simp [hr]
theorem rnd_neg2 (m : Nat) (n d : Int) : rnd m (-n) (-d) = rnd m n d := by
 unfold rnd
 rw [show 2 * -n + -d = -(2 * n + d) from by omega, show 2 * -d = -(2 * d) from by omega, Int.neg_fdiv_neg, Int.neg_fdiv_neg, Int.neg_fdiv_neg]
theorem rnd_sizes (m : Nat) (n d : Int) (neg : Bool) (hd : d ≠ 0) (hneg : n ≠ 0 → (neg = true ↔ (n < 0 ↔ ¬ d < 0))) :
 rnd m n d = sgn neg (n.natAbs / d.natAbs + (away m neg (n.natAbs % d.natAbs) d.natAbs).toNat) := by
 have hD : 0 < d.natAbs := by omega
 by_cases h0 : n = 0
 · subst h0
   have e : rnd m 0 d = 0 := by
    unfold rnd
    split
    · simp
    · split
      · simp
      · rcases Int.lt_or_lt_of_ne hd with h | h
        · rw [show (2 * 0 + d : Int) = -(-d) from by omega, show 2 * d = -(2 * (-d)) from by omega, Int.neg_fdiv_neg]
          exact floor_of (by omega) (by omega) (by omega)
        · exact floor_of (by omega) (by omega) (by omega)
   rw [e]
   have ea : away m neg 0 d.natAbs = false := by
    unfold away
    by_cases h1 : m = 0
    · simp [h1]
    · by_cases h2 : m = 1
      · simp [h2]
      · simp [h1, h2]
        omega
   simp [ea, sgn]
 · have hneg := hneg h0
   cases neg with
   | false =>
     have hs : ¬ (n < 0 ↔ ¬ d < 0) := fun h => by simpa using hneg.2 h
     rw [← rnd_pos m _ _ hD]
     by_cases h : d < 0
     · rw [← rnd_neg2]
       congr 1 <;> omega
     · congr 1 <;> omega
   | true =>
     have hs := hneg.1 rfl
     rw [← rnd_neg m _ _ hD]
     by_cases h : d < 0
     · rw [← rnd_neg2]
       congr 1 <;> omega
     · congr 1 <;> omega
theorem guess_first {u v y1 y0 : Nat} (hy : 0 < y1) (hv : v < 4294967296) : (u * 4294967296 + v) / (y1 * 4294967296 + y0) ≤ u / y1 := by
 have h : (u * 4294967296 + v) / (y1 * 4294967296 + y0) < u / y1 + 1 := by
  rw [Nat.div_lt_iff_lt_mul (by omega)]
  have h1 : u < (u / y1 + 1) * y1 := by
   rw [Nat.add_mul, Nat.one_mul]
   have := Nat.div_add_mod u y1
   have := Nat.mod_lt u hy
   have e : y1 * (u / y1) = u / y1 * y1 := Nat.mul_comm _ _
   omega
  have e : (u / y1 + 1) * (y1 * 4294967296 + y0) = (u / y1 + 1) * y1 * 4294967296 + (u / y1 + 1) * y0 := by rw [Nat.mul_add, ← Nat.mul_assoc]
  rw [e]
  omega
 omega
theorem guess_big {u y1 y0 : Nat} (hy : 2147483648 ≤ y1) (hy0 : y0 < 4294967296) (hu : u < y1 * 4294967296 + y0) : u / y1 ≤ 4294967297 := by
 have : u / y1 < 4294967298 := by
  rw [Nat.div_lt_iff_lt_mul (by omega)]
  omega
 omega
theorem exact_small {u v y : Nat} (hu : u < y) (hv : v < 4294967296) : (u * 4294967296 + v) / y < 4294967296 := by
 rw [Nat.div_lt_iff_lt_mul (by omega)]
 omega
theorem gstep_first {u v y1 y0 Y E : Int} (hY : Y = y1 * 4294967296 + y0) (hE : (u * 4294967296 + v) / Y = E) (hy : 2147483648 ≤ y1) (hy0 : 0 ≤ y0) (hy2 : y0 < 4294967296) (hu0 : 0 ≤ u) (hu : u < Y) (hv0 : 0 ≤ v) (hv : v < 4294967296) :
 0 ≤ E ∧ E < 4294967296 ∧ E ≤ u / y1 ∧ u / y1 ≤ 4294967297 := by
 obtain ⟨u, rfl⟩ := Int.eq_ofNat_of_zero_le hu0
 obtain ⟨a, rfl⟩ := Int.eq_ofNat_of_zero_le (show 0 ≤ y1 by omega)
 obtain ⟨b, rfl⟩ := Int.eq_ofNat_of_zero_le hy0
 obtain ⟨c, rfl⟩ := Int.eq_ofNat_of_zero_le hv0
 have f1 := guess_first (u := u) (v := c) (y1 := a) (y0 := b) (by omega) (by omega)
 have f2 := guess_big (u := u) (y1 := a) (y0 := b) (by omega) (by omega) (by omega)
 have f3 := exact_small (u := u) (v := c) (y := a * 4294967296 + b) (by omega) (by omega)
 have e1 : E = (((u * 4294967296 + c) / (a * 4294967296 + b) : Nat) : Int) := by rw [← hE, hY]; simp
 have e2 : (u : Int) / a = ((u / a : Nat) : Int) := by simp
 rw [e1, e2]
 generalize (u * 4294967296 + c) / (a * 4294967296 + b) = k at *
 generalize u / a = l at *
 omega
theorem gstep_done {u v y1 y0 Y E q r : Int} (hY : Y = y1 * 4294967296 + y0) (hE : (u * 4294967296 + v) / Y = E) (hYp : 0 < Y) (hu : u = q * y1 + r) (hq : E ≤ q) (h : q * y0 ≤ 4294967296 * r + v) : q = E := by
 have e : q * Y = q * y1 * 4294967296 + q * y0 := by rw [hY, Int.mul_add, ← Int.mul_assoc]
 have : q ≤ (u * 4294967296 + v) / Y := by
  rw [Int.le_ediv_iff_mul_le hYp, e]
  omega
 omega
theorem gstep_more {u v y1 y0 Y E q r : Int} (hY : Y = y1 * 4294967296 + y0) (hE : (u * 4294967296 + v) / Y = E) (hYp : 0 < Y) (hu : u = q * y1 + r) (h : 4294967296 * r + v < q * y0) : E ≤ q - 1 := by
 have e : q * Y = q * y1 * 4294967296 + q * y0 := by rw [hY, Int.mul_add, ← Int.mul_assoc]
 have : (u * 4294967296 + v) / Y < q := by
  rw [Int.ediv_lt_iff_lt_mul hYp, e]
  omega
 omega
theorem gstep_next {u y1 q r : Int} (hu : u = q * y1 + r) : u = (q - 1) * y1 + (r + y1) := by rw [hu]; grind
theorem two_steps {N y Y p U V v1 v0 E F W : Int} (hp : 0 < p) (hyp : 0 < y) (hN : N * p = U * 18446744073709551616 + V) (hY : y * p = Y) (hV : V = v1 * 4294967296 + v0)
 (hW : W = U * 4294967296 + v1 - E * Y) (hZ0 : 0 ≤ W * 4294967296 + v0 - F * Y) (hZ : W * 4294967296 + v0 - F * Y < Y) :
 N / y = E * 4294967296 + F ∧ N % y = (W * 4294967296 + v0 - F * Y) / p := by
 have e : (N - (E * 4294967296 + F) * y) * p = W * 4294967296 + v0 - F * Y := by
  rw [hW, Int.sub_mul, hN, hV, ← hY]; grind
 rw [← e] at hZ0 hZ ⊢
 rw [← hY] at hZ
 have h1 : 0 ≤ N - (E * 4294967296 + F) * y := by
  rcases Int.lt_or_le (N - (E * 4294967296 + F) * y) 0 with h | h
  · have := Int.mul_neg_of_neg_of_pos h hp; omega
  · exact h
 have h2 : N - (E * 4294967296 + F) * y < y := Int.lt_of_mul_lt_mul_right hZ (by omega)
 rw [Int.mul_ediv_cancel _ (by omega)]
 have h3 := Int.emod_add_mul_ediv N y
 have h4 := Int.emod_nonneg N (show y ≠ 0 by omega)
 have h5 := Int.emod_lt_of_pos N hyp
 have h6 : N / y = E * 4294967296 + F := by
  have h7 : (N / y - (E * 4294967296 + F)) * y = (N - (E * 4294967296 + F) * y) - N % y := by
   have : y * (N / y) = N / y * y := Int.mul_comm _ _
   rw [Int.sub_mul]; omega
  rcases Int.lt_trichotomy (N / y) (E * 4294967296 + F) with h8 | h8 | h8
  · have : (N / y - (E * 4294967296 + F)) * y ≤ (-1) * y := Int.mul_le_mul_of_nonneg_right (by omega) (by omega)
    omega
  · exact h8
  · have : 1 * y ≤ (N / y - (E * 4294967296 + F)) * y := Int.mul_le_mul_of_nonneg_right (by omega) (by omega)
    omega
 refine ⟨h6, ?_⟩
 rw [h6] at h3
 have : y * (E * 4294967296 + F) = (E * 4294967296 + F) * y := Int.mul_comm _ _
 omega
end Go.Proofs.YtbhpklpkcgcmfaaGreatDoor
/-
  Sines and cosines in integers, as plain functions; they rise and fall without exception. No program.
-/
namespace Go.Proofs.YtbhpklpkcgcmfaaGreatDoor
set_option linter.unusedVariables false
def norm (a : Int) : Int := a % 129600000
def turnF (a b : Int) : Int := norm (norm a + norm b)
def diffF (a b : Int) : Int := if 64800000 < norm (norm b - norm a) then norm (norm b - norm a) - 129600000 else norm (norm b - norm a)
theorem norm_bd (a : Int) : 0 ≤ norm a ∧ norm a < 129600000 := by unfold norm; omega
theorem norm_id {a : Int} (h : 0 ≤ a) (h1 : a < 129600000) : norm a = a := by unfold norm; omega
theorem turnF_eq (a b : Int) : turnF a b = (a + b) % 129600000 := by unfold turnF norm; omega
theorem diffF_bd (a b : Int) : -64800000 < diffF a b ∧ diffF a b ≤ 64800000 := by unfold diffF norm; omega
def tA (a : Int) : Int := (a * 6746518852 + 32400000) / 64800000
def mulS (x y : Int) : Int := (x * y + 1073741824) / 2147483648
def divS (x n : Int) : Int := (x + n / 2) / n
def sr1 (u : Int) : Int := 2147483648 - divS u 110
def sr2 (u : Int) : Int := 2147483648 - divS (mulS u (sr1 u)) 72
def sr3 (u : Int) : Int := 2147483648 - divS (mulS u (sr2 u)) 42
def sr4 (u : Int) : Int := 2147483648 - divS (mulS u (sr3 u)) 20
def sr5 (u : Int) : Int := 2147483648 - divS (mulS u (sr4 u)) 6
def cr1 (u : Int) : Int := 2147483648 - divS u 90
def cr2 (u : Int) : Int := 2147483648 - divS (mulS u (cr1 u)) 56
def cr3 (u : Int) : Int := 2147483648 - divS (mulS u (cr2 u)) 30
def cr4 (u : Int) : Int := 2147483648 - divS (mulS u (cr3 u)) 12
def cr5 (u : Int) : Int := 2147483648 - divS (mulS u (cr4 u)) 2
def uA (a : Int) : Int := mulS (tA a) (tA a)
def sine (a : Int) : Int := (mulS (tA a) (sr5 (uA a)) + 1) / 2
def cosine (a : Int) : Int := (cr5 (uA a) + 1) / 2
def qsin (a : Int) : Int := if a ≤ 16200000 then sine a else cosine (32400000 - a)
def Sin (a : Int) : Int :=
 if norm a ≤ 32400000 then qsin (norm a) else if norm a ≤ 64800000 then qsin (64800000 - norm a) else if norm a ≤ 97200000 then -qsin (norm a - 64800000) else -qsin (129600000 - norm a)
def Cos (a : Int) : Int := Sin (turnF a 32400000)
theorem mono_of_step (f : Int → Int) (lo hi : Int) (h : ∀ x, lo ≤ x → x < hi → f x ≤ f (x + 1)) : ∀ (n : Nat) (x : Int), lo ≤ x → x + n ≤ hi → f x ≤ f (x + n)
 | 0, x, _, _ => by simp
 | n + 1, x, h1, h2 => by
   have := mono_of_step f lo hi h n x h1 (by omega)
   have h3 := h (x + n) (by omega) (by omega)
   rw [show x + n + 1 = x + ((n + 1 : Nat) : Int) from by omega] at h3
   omega
theorem mono_le {f : Int → Int} {lo hi : Int} (h : ∀ x, lo ≤ x → x < hi → f x ≤ f (x + 1)) {x y : Int} (h1 : lo ≤ x) (h2 : x ≤ y) (h3 : y ≤ hi) : f x ≤ f y := by
 have := mono_of_step f lo hi h (y - x).toNat x h1 (by omega)
 rwa [show x + ((y - x).toNat : Int) = y from by omega] at this
theorem mulS_bd {u r : Int} (hu : 0 ≤ u) (hr : 0 ≤ r) (hr2 : r ≤ 2147483648) : 0 ≤ mulS u r ∧ mulS u r ≤ u := by
 have h1 : 0 ≤ u * r := Int.mul_nonneg hu hr
 have h2 : u * r ≤ u * 2147483648 := Int.mul_le_mul_of_nonneg_left hr2 hu
 unfold mulS
 omega
theorem mulS_step {u r r' : Int} (hu : 0 ≤ u) (h : r' ≤ r) (h' : r ≤ r' + 1) (hr : u + 1 ≤ r) (hr2 : r ≤ 2147483648) : mulS u r ≤ mulS (u + 1) r' ∧ mulS (u + 1) r' ≤ mulS u r + 1 := by
 have h1 : (u + 1) * (r - 1) ≤ (u + 1) * r' := Int.mul_le_mul_of_nonneg_left (by omega) (by omega)
 have h2 : (u + 1) * r' ≤ (u + 1) * r := Int.mul_le_mul_of_nonneg_left h (by omega)
 have e : (u + 1) * r = u * r + r := by rw [Int.add_mul, Int.one_mul]
 rw [Int.mul_sub, e] at h1
 rw [e] at h2
 unfold mulS
 omega
theorem sr1_bd {u : Int} (h : 0 ≤ u) (h2 : u ≤ 1325000000) : 2135000000 ≤ sr1 u ∧ sr1 u ≤ 2147483648 := by unfold sr1 divS; omega
theorem sr2_bd {u : Int} (h : 0 ≤ u) (h2 : u ≤ 1325000000) : 2129000000 ≤ sr2 u ∧ sr2 u ≤ 2147483648 := by
 have a := sr1_bd h h2
 have b := mulS_bd h (show 0 ≤ sr1 u by omega) a.2
 unfold sr2 divS; omega
theorem sr3_bd {u : Int} (h : 0 ≤ u) (h2 : u ≤ 1325000000) : 2115000000 ≤ sr3 u ∧ sr3 u ≤ 2147483648 := by
 have a := sr2_bd h h2
 have b := mulS_bd h (show 0 ≤ sr2 u by omega) a.2
 unfold sr3 divS; omega
theorem sr4_bd {u : Int} (h : 0 ≤ u) (h2 : u ≤ 1325000000) : 2081000000 ≤ sr4 u ∧ sr4 u ≤ 2147483648 := by
 have a := sr3_bd h h2
 have b := mulS_bd h (show 0 ≤ sr3 u by omega) a.2
 unfold sr4 divS; omega
theorem sr5_bd {u : Int} (h : 0 ≤ u) (h2 : u ≤ 1325000000) : 1926000000 ≤ sr5 u ∧ sr5 u ≤ 2147483648 := by
 have a := sr4_bd h h2
 have b := mulS_bd h (show 0 ≤ sr4 u by omega) a.2
 unfold sr5 divS; omega
theorem cr1_bd {u : Int} (h : 0 ≤ u) (h2 : u ≤ 1325000000) : 2132000000 ≤ cr1 u ∧ cr1 u ≤ 2147483648 := by unfold cr1 divS; omega
theorem cr2_bd {u : Int} (h : 0 ≤ u) (h2 : u ≤ 1325000000) : 2123000000 ≤ cr2 u ∧ cr2 u ≤ 2147483648 := by
 have a := cr1_bd h h2
 have b := mulS_bd h (show 0 ≤ cr1 u by omega) a.2
 unfold cr2 divS; omega
theorem cr3_bd {u : Int} (h : 0 ≤ u) (h2 : u ≤ 1325000000) : 2103000000 ≤ cr3 u ∧ cr3 u ≤ 2147483648 := by
 have a := cr2_bd h h2
 have b := mulS_bd h (show 0 ≤ cr2 u by omega) a.2
 unfold cr3 divS; omega
theorem cr4_bd {u : Int} (h : 0 ≤ u) (h2 : u ≤ 1325000000) : 2037000000 ≤ cr4 u ∧ cr4 u ≤ 2147483648 := by
 have a := cr3_bd h h2
 have b := mulS_bd h (show 0 ≤ cr3 u by omega) a.2
 unfold cr4 divS; omega
theorem cr5_bd {u : Int} (h : 0 ≤ u) (h2 : u ≤ 1325000000) : 1484000000 ≤ cr5 u ∧ cr5 u ≤ 2147483648 := by
 have a := cr4_bd h h2
 have b := mulS_bd h (show 0 ≤ cr4 u by omega) a.2
 unfold cr5 divS; omega
theorem sr1_step {u : Int} (h : 0 ≤ u) (h2 : u < 1325000000) : sr1 (u + 1) ≤ sr1 u ∧ sr1 u ≤ sr1 (u + 1) + 1 := by unfold sr1 divS; omega
theorem sr2_step {u : Int} (h : 0 ≤ u) (h2 : u < 1325000000) : sr2 (u + 1) ≤ sr2 u ∧ sr2 u ≤ sr2 (u + 1) + 1 := by
 have b := sr1_bd h (by omega)
 have a := sr1_step h h2
 have c := mulS_step h a.1 a.2 (by omega) b.2
 unfold sr2 divS; omega
theorem sr3_step {u : Int} (h : 0 ≤ u) (h2 : u < 1325000000) : sr3 (u + 1) ≤ sr3 u ∧ sr3 u ≤ sr3 (u + 1) + 1 := by
 have b := sr2_bd h (by omega)
 have a := sr2_step h h2
 have c := mulS_step h a.1 a.2 (by omega) b.2
 unfold sr3 divS; omega
theorem sr4_step {u : Int} (h : 0 ≤ u) (h2 : u < 1325000000) : sr4 (u + 1) ≤ sr4 u ∧ sr4 u ≤ sr4 (u + 1) + 1 := by
 have b := sr3_bd h (by omega)
 have a := sr3_step h h2
 have c := mulS_step h a.1 a.2 (by omega) b.2
 unfold sr4 divS; omega
def sv5 (u : Int) : Int := mulS u (sr4 u)
theorem sv5_step {u : Int} (h : 0 ≤ u) (h2 : u < 1325000000) : sv5 u ≤ sv5 (u + 1) ∧ sv5 (u + 1) ≤ sv5 u + 1 := by
 have b := sr4_bd h (by omega)
 have a := sr4_step h h2
 exact mulS_step h a.1 a.2 (by omega) b.2
theorem cr1_step {u : Int} (h : 0 ≤ u) (h2 : u < 1325000000) : cr1 (u + 1) ≤ cr1 u ∧ cr1 u ≤ cr1 (u + 1) + 1 := by unfold cr1 divS; omega
theorem cr2_step {u : Int} (h : 0 ≤ u) (h2 : u < 1325000000) : cr2 (u + 1) ≤ cr2 u ∧ cr2 u ≤ cr2 (u + 1) + 1 := by
 have b := cr1_bd h (by omega)
 have a := cr1_step h h2
 have c := mulS_step h a.1 a.2 (by omega) b.2
 unfold cr2 divS; omega
theorem cr3_step {u : Int} (h : 0 ≤ u) (h2 : u < 1325000000) : cr3 (u + 1) ≤ cr3 u ∧ cr3 u ≤ cr3 (u + 1) + 1 := by
 have b := cr2_bd h (by omega)
 have a := cr2_step h h2
 have c := mulS_step h a.1 a.2 (by omega) b.2
 unfold cr3 divS; omega
theorem cr4_step {u : Int} (h : 0 ≤ u) (h2 : u < 1325000000) : cr4 (u + 1) ≤ cr4 u ∧ cr4 u ≤ cr4 (u + 1) + 1 := by
 have b := cr3_bd h (by omega)
 have a := cr3_step h h2
 have c := mulS_step h a.1 a.2 (by omega) b.2
 unfold cr4 divS; omega
theorem cr5_step {u : Int} (h : 0 ≤ u) (h2 : u < 1325000000) : cr5 (u + 1) ≤ cr5 u ∧ cr5 u ≤ cr5 (u + 1) + 1 := by
 have b := cr4_bd h (by omega)
 have a := cr4_step h h2
 have c := mulS_step h a.1 a.2 (by omega) b.2
 unfold cr5 divS; omega
theorem cr5_anti {u v : Int} (h : 0 ≤ u) (h1 : u ≤ v) (h2 : v ≤ 1325000000) : cr5 v ≤ cr5 u := by
 have : -cr5 u ≤ -cr5 v := mono_le (f := fun x => -cr5 x) (lo := 0) (hi := 1325000000) (fun x a b => by have := cr5_step a b; show -cr5 x ≤ -cr5 (x + 1); omega) h h1 h2
 omega
theorem sq_mono {a b : Int} (h : 0 ≤ a) (h1 : a ≤ b) : a * a ≤ b * b := Int.mul_le_mul h1 h1 h (by omega)
theorem u_of_t {t : Int} (h : 0 ≤ t) (h2 : t ≤ 1686629713) : 0 ≤ mulS t t ∧ mulS t t ≤ 1325000000 := by
 have h1 : 0 ≤ t * t := Int.mul_nonneg h h
 have h3 := sq_mono h h2
 unfold mulS
 omega
theorem u_mono {t t' : Int} (h : 0 ≤ t) (h2 : t ≤ t') : mulS t t ≤ mulS t' t' := by
 have h3 := sq_mono h h2
 unfold mulS
 omega
def sT (t : Int) : Int := mulS t (sr5 (mulS t t))
theorem sT_step {t : Int} (h : 0 ≤ t) (h2 : t < 1686629713) : sT t ≤ sT (t + 1) := by
 have h0 : 0 ≤ t * t := Int.mul_nonneg h h
 have e : (t + 1) * (t + 1) = t * t + 2 * t + 1 := by grind
 have u1 := u_of_t h (by omega)
 have u2 := u_of_t (t := t + 1) (by omega) (by omega)
 have d1 : mulS t t ≤ mulS (t + 1) (t + 1) ∧ mulS (t + 1) (t + 1) ≤ mulS t t + 2 := by unfold mulS; rw [e]; omega
 have hv : sv5 (mulS t t) ≤ sv5 (mulS (t + 1) (t + 1)) ∧ sv5 (mulS (t + 1) (t + 1)) ≤ sv5 (mulS t t) + 2 := by
  generalize mulS (t + 1) (t + 1) = u' at *
  generalize mulS t t = u at *
  have : u' = u ∨ u' = u + 1 ∨ u' = u + 1 + 1 := by omega
  rcases this with rfl | rfl | rfl
  · omega
  · have := sv5_step u1.1 (by omega)
    omega
  · have a := sv5_step u1.1 (by omega)
    have b := sv5_step (u := u + 1) (by omega) (by omega)
    omega
 have r1 := sr5_bd u1.1 u1.2
 have r2 := sr5_bd u2.1 u2.2
 have dr : sr5 (mulS t t) - 1 ≤ sr5 (mulS (t + 1) (t + 1)) := by
  unfold sv5 at hv
  unfold sr5 divS
  omega
 have h3 : (t + 1) * (sr5 (mulS t t) - 1) ≤ (t + 1) * sr5 (mulS (t + 1) (t + 1)) := Int.mul_le_mul_of_nonneg_left dr (by omega)
 have e3 : (t + 1) * sr5 (mulS t t) = t * sr5 (mulS t t) + sr5 (mulS t t) := by rw [Int.add_mul, Int.one_mul]
 rw [Int.mul_sub, e3] at h3
 unfold sT
 unfold mulS at *
 omega
theorem tA_bd {a : Int} (h : 0 ≤ a) (h2 : a ≤ 16200000) : 0 ≤ tA a ∧ tA a ≤ 1686629713 := by unfold tA; omega
theorem tA_mono {a b : Int} (h : a ≤ b) : tA a ≤ tA b := by unfold tA; omega
theorem sine_mono {a b : Int} (h : 0 ≤ a) (h1 : a ≤ b) (h2 : b ≤ 16200000) : sine a ≤ sine b := by
 have ta := tA_bd h (by omega)
 have tb := tA_bd (a := b) (by omega) h2
 have := mono_le (f := sT) (lo := 0) (hi := 1686629713) (fun x p q => sT_step p q) ta.1 (tA_mono h1) tb.2
 unfold sine uA
 unfold sT at this
 omega
theorem cosine_anti {a b : Int} (h : 0 ≤ a) (h1 : a ≤ b) (h2 : b ≤ 16200000) : cosine b ≤ cosine a := by
 have ta := tA_bd h (by omega)
 have tb := tA_bd (a := b) (by omega) h2
 have ua := u_of_t ta.1 ta.2
 have ub := u_of_t tb.1 tb.2
 have := cr5_anti ua.1 (u_mono ta.1 (tA_mono h1)) ub.2
 unfold cosine uA
 omega
theorem sine_bd {a : Int} (h : 0 ≤ a) (h2 : a ≤ 16200000) : 0 ≤ sine a ∧ sine a ≤ 759250125 := by
 have h0 := sine_mono (Int.le_refl 0) h h2
 have h1 := sine_mono h h2 (Int.le_refl _)
 have e0 : sine 0 = 0 := by decide
 have e1 : sine 16200000 = 759250125 := by decide
 omega
theorem cosine_bd {a : Int} (h : 0 ≤ a) (h2 : a ≤ 16200000) : 759250125 ≤ cosine a ∧ cosine a ≤ 1073741824 := by
 have h0 := cosine_anti (Int.le_refl 0) h h2
 have h1 := cosine_anti h h2 (Int.le_refl _)
 have e0 : cosine 0 = 1073741824 := by decide
 have e1 : cosine 16200000 = 759250125 := by decide
 omega
theorem qsin_bd {a : Int} (h : 0 ≤ a) (h2 : a ≤ 32400000) : 0 ≤ qsin a ∧ qsin a ≤ 1073741824 := by
 unfold qsin
 split
 · have := sine_bd h (by omega); omega
 · have := cosine_bd (a := 32400000 - a) (by omega) (by omega); omega
theorem Sin_bd (a : Int) : -1073741824 ≤ Sin a ∧ Sin a ≤ 1073741824 := by
 have n := norm_bd a
 unfold Sin
 split
 · have := qsin_bd n.1 (by omega); omega
 · split
   · have := qsin_bd (a := 64800000 - norm a) (by omega) (by omega); omega
   · split
     · have := qsin_bd (a := norm a - 64800000) (by omega) (by omega); omega
     · have := qsin_bd (a := 129600000 - norm a) (by omega) (by omega); omega
theorem Cos_bd (a : Int) : -1073741824 ≤ Cos a ∧ Cos a ≤ 1073741824 := Sin_bd _
end Go.Proofs.YtbhpklpkcgcmfaaGreatDoor
/-
  The chapters 11 and 12 as plain functions on integers: lines and turns. A result with an error code is a tuple whose last part is the code (0: none, 1: argument, 2: range, 10: geometry). No program.
-/
namespace Go.Proofs.YtbhpklpkcgcmfaaGreatDoor
set_option linter.unusedVariables false
def clamp (x lo hi : Int) : Int := if x < lo then lo else if hi < x then hi else x
def sat (x : Int) : Int := clamp x (-9223372036854775808) 9223372036854775807
def in64 (x : Int) : Bool := decide (-9223372036854775808 ≤ x ∧ x ≤ 9223372036854775807)
def muldiv (m : Nat) (a b c : Int) : Int × Int := if c = 0 then (0, 1) else if in64 (rnd m (a * b) c) then (rnd m (a * b) c, 0) else (0, 2)
def greatN (p : Nat → Bool) : Nat → Nat
 | 0 => 0
 | k + 1 => if p (k + 1) then k + 1 else greatN p k
theorem greatN_spec (p : Nat → Bool) (N : Nat) : greatN p N ≤ N ∧ (greatN p N = 0 ∨ p (greatN p N) = true) ∧ ∀ d, greatN p N < d → d ≤ N → p d = false := by
 induction N with
 | zero => simp [greatN]; omega
 | succ k ih =>
   unfold greatN
   split
   · rename_i h
     exact ⟨Nat.le_refl _, .inr h, fun d h1 h2 => by omega⟩
   · rename_i h
     refine ⟨by omega, ih.2.1, fun d h1 h2 => ?_⟩
     by_cases e : d = k + 1
     · subst e; simpa using h
     · exact ih.2.2 d h1 (by omega)
theorem Sin_eq {c : Int} (h : 0 ≤ c) (h2 : c ≤ 16200000) : Sin c = sine c := by
 unfold Sin
 rw [norm_id h (by omega), if_pos (by omega)]
 unfold qsin
 rw [if_pos h2]
theorem Cos_eq {c : Int} (h : 0 ≤ c) (h2 : c ≤ 16200000) : Cos c = cosine c := by
 unfold Cos Sin
 have e : norm (turnF c 32400000) = c + 32400000 := by rw [turnF_eq]; unfold norm; omega
 rw [e]
 by_cases h0 : c = 0
 · subst h0; decide
 · rw [if_neg (by omega), if_pos (by omega)]
   unfold qsin
   by_cases h3 : c = 16200000
   · subst h3; decide
   · rw [if_neg (by omega), show 32400000 - (64800000 - (c + 32400000)) = c from by omega]
def atP (m n : Int) (c : Nat) : Bool := decide (Sin c * m ≤ Cos c * n)
theorem atP_down {m n : Int} (hm : 0 ≤ m) (hn : 0 ≤ n) {c d : Nat} (h : c ≤ d) (hd : d ≤ 16200000) (hp : atP m n d = true) : atP m n c = true := by
 have e1 : Sin d * m ≤ Cos d * n := of_decide_eq_true hp
 clear hp
 refine decide_eq_true (?_ : Sin c * m ≤ Cos c * n)
 rw [Sin_eq (Int.natCast_nonneg d) (by omega), Cos_eq (Int.natCast_nonneg d) (by omega)] at e1
 rw [Sin_eq (Int.natCast_nonneg c) (by omega), Cos_eq (Int.natCast_nonneg c) (by omega)]
 have a := sine_mono (Int.natCast_nonneg c) (show (c : Int) ≤ d by omega) (by omega)
 have b := cosine_anti (Int.natCast_nonneg c) (show (c : Int) ≤ d by omega) (by omega)
 have a' := Int.mul_le_mul_of_nonneg_right a hm
 have b' := Int.mul_le_mul_of_nonneg_right b hn
 exact Int.le_trans a' (Int.le_trans e1 b')
def n45 : Nat := 16200000
theorem n45_eq : n45 = 16200000 := rfl
def atanC (m n : Int) : Int := greatN (atP m n) n45
theorem atanC_nat (m n : Int) : ∃ g : Nat, atanC m n = g ∧ g ≤ n45 ∧ (g = 0 ∨ atP m n g = true) ∧ ∀ d, g < d → d ≤ n45 → atP m n d = false :=
 ⟨_, rfl, greatN_spec _ _⟩
theorem atanC_bd (m n : Int) : 0 ≤ atanC m n ∧ atanC m n ≤ 16200000 := by
 obtain ⟨g, h, h1, _⟩ := atanC_nat m n
 have h2 := n45_eq
 rw [h]
 constructor
 · exact Int.natCast_nonneg g
 · clear h
   omega
def atanQ (y x : Int) : Int := if x.natAbs < y.natAbs then 32400000 - atanC y.natAbs x.natAbs else atanC x.natAbs y.natAbs
def atan2F (y x : Int) : Int :=
 if 0 ≤ y then (if 0 ≤ x then atanQ y x else 64800000 - atanQ y x) else if x < 0 then 64800000 + atanQ y x else norm (-atanQ y x)
theorem atanQ_bd (y x : Int) : 0 ≤ atanQ y x ∧ atanQ y x ≤ 32400000 := by
 unfold atanQ
 have := atanC_bd y.natAbs x.natAbs
 have := atanC_bd x.natAbs y.natAbs
 split <;> omega
theorem atan2F_bd (y x : Int) : 0 ≤ atan2F y x ∧ atan2F y x < 129600000 := by
 have := atanQ_bd y x
 unfold atan2F norm
 split <;> split <;> omega
def vldB (x y : Int) : Bool := decide (-2000000 ≤ x ∧ x ≤ 2000000 ∧ -2000000 ≤ y ∧ y ≤ 2000000)
def dist2 (ax ay bx b_y : Int) : Int := (bx - ax) * (bx - ax) + (b_y - ay) * (b_y - ay)
def distF (ax ay bx b_y : Int) : Int := if vldB ax ay && vldB bx b_y then isq (dist2 ax ay bx b_y).toNat else 0
def courseF (ax ay bx b_y : Int) : Int × Int :=
 if !(vldB ax ay && vldB bx b_y) then (0, 1) else if ax = bx ∧ ay = b_y then (0, 10) else (atan2F (bx - ax) (b_y - ay), 0)
def cmp3 (a b : Int) : Int := if a < b then -1 else if a > b then 1 else 0
def aheadF (ax ay bx b_y px py : Int) : Int :=
 if vldB ax ay && vldB bx b_y && vldB px py then cmp3 ((bx - ax) * (px - bx) + (b_y - ay) * (py - b_y)) 0 else 0
def lenF (n s : Int) : Int := if n < 0 then -(isq (n * n / s).toNat : Int) else isq (n * n / s).toNat
def offF (ax ay bx b_y px py : Int) : Int × Int × Int :=
 if !(vldB ax ay && vldB bx b_y && vldB px py) then (0, 0, 1) else if ax = bx ∧ ay = b_y then (0, 0, 10) else
 (lenF (-((bx - ax) * (py - ay) - (b_y - ay) * (px - ax))) (dist2 ax ay bx b_y), lenF ((bx - ax) * (px - ax) + (b_y - ay) * (py - ay)) (dist2 ax ay bx b_y), 0)
def alongF (ax ay vx vy n d : Int) : Int × Int × Int :=
 if (muldiv 2 vx n d).2 = 0 ∧ (muldiv 2 vy n d).2 = 0 then
  (if vldB (sat (ax + (muldiv 2 vx n d).1)) (sat (ay + (muldiv 2 vy n d).1)) then (sat (ax + (muldiv 2 vx n d).1), sat (ay + (muldiv 2 vy n d).1), 0) else (0, 0, 2))
 else (0, 0, 2)
def footF (ax ay bx b_y px py : Int) : Int × Int × Int :=
 if !(vldB ax ay && vldB bx b_y && vldB px py) then (0, 0, 1) else if ax = bx ∧ ay = b_y then (0, 0, 10) else
 alongF ax ay (bx - ax) (b_y - ay) ((bx - ax) * (px - ax) + (b_y - ay) * (py - ay)) (dist2 ax ay bx b_y)
def meetF (ax ay bx b_y cx cy dx dy : Int) : Int × Int × Int :=
 if !(vldB ax ay && vldB bx b_y && vldB cx cy && vldB dx dy) then (0, 0, 1) else if (bx - ax) * (dy - cy) - (b_y - ay) * (dx - cx) = 0 then (0, 0, 10) else
 alongF ax ay (bx - ax) (b_y - ay) ((cx - ax) * (dy - cy) - (cy - ay) * (dx - cx)) ((bx - ax) * (dy - cy) - (b_y - ay) * (dx - cx))
def rayX (dist course : Int) : Int := rnd 2 (dist * Sin course) 1073741824
def rayY (dist course : Int) : Int := rnd 2 (dist * Cos course) 1073741824
def rayF (px py course dist : Int) : Int × Int × Int :=
 if !vldB px py then (0, 0, 1) else if dist > 8000000 ∨ dist < -8000000 then (0, 0, 2) else
 if vldB (px + rayX dist course) (py + rayY dist course) then (px + rayX dist course, py + rayY dist course, 0) else (0, 0, 2)
def arcB (cx cy r f s : Int) : Bool := vldB cx cy && decide (1 ≤ r ∧ r ≤ 8000000 ∧ 0 ≤ f ∧ f < 129600000 ∧ -129600000 ≤ s ∧ s ≤ 129600000)
def arcLen (cx cy r f s : Int) : Int := if arcB cx cy r f s then rnd 2 (r * s.natAbs) 20626481 else 0
def sideOf (s w : Int) : Int := if s < 0 then -w else w
def arcW (n s along : Int) : Int := if 0 < n then rnd 2 (along * s.natAbs) n else 0
def arcDir (f s n along : Int) : Int := turnF f (sideOf s (arcW n s along))
def arcAt (cx cy r f s along : Int) : Int × Int × Int × Int :=
 if !arcB cx cy r f s then (0, 0, 0, 1) else if along < 0 ∨ along > arcLen cx cy r f s then (0, 0, 0, 2) else
 if (rayF cx cy (arcDir f s (arcLen cx cy r f s) along) r).2.2 = 0 then
  ((rayF cx cy (arcDir f s (arcLen cx cy r f s) along) r).1, (rayF cx cy (arcDir f s (arcLen cx cy r f s) along) r).2.1, turnF (arcDir f s (arcLen cx cy r f s) along) (sideOf s 32400000), 0)
 else (0, 0, 0, 2)
def sweepF (right : Bool) (a b : Int) : Int := if right then norm (norm b - norm a) else norm (norm a - norm b)
end Go.Proofs.YtbhpklpkcgcmfaaGreatDoor
/-
  Plain laws of chapter 11: the triangle inequality of rounded distances, sides, the exactness of offsets, feet and intersections. No program.
-/
namespace Go.Proofs.YtbhpklpkcgcmfaaGreatDoor
set_option linter.unusedVariables false
theorem vldB_iff (x y : Int) : vldB x y = true ↔ (-2000000 ≤ x ∧ x ≤ 2000000 ∧ -2000000 ≤ y ∧ y ≤ 2000000) := by unfold vldB; exact decide_eq_true_iff
theorem lagrange (a b c d : Int) : (a * c + b * d) * (a * c + b * d) + (a * d - b * c) * (a * d - b * c) = (a * a + b * b) * (c * c + d * d) := by grind
theorem sq_nonneg (a : Int) : 0 ≤ a * a := by
 rcases Int.le_total 0 a with h | h
 · exact Int.mul_nonneg h h
 · exact Int.mul_nonneg_of_nonpos_of_nonpos h h
theorem isq_lt' {a b : Int} (hb : 0 ≤ b) (h : a * a < b * b) : a < b := by
 rcases Int.lt_or_le a b with h1 | h1
 · exact h1
 · have := Int.mul_le_mul h1 h1 hb (by omega)
   omega
theorem isq_le' {a b : Int} (hb : 0 ≤ b) (h : a * a ≤ b * b) : a ≤ b := by
 rcases Int.lt_or_le b a with h1 | h1
 · have h2 : (b + 1) * (b + 1) ≤ a * a := Int.mul_le_mul (by omega) (by omega) (by omega) (by omega)
   have e : (b + 1) * (b + 1) = b * b + 2 * b + 1 := by grind
   omega
 · exact h1
theorem dist2_nonneg (ax ay bx b_y : Int) : 0 ≤ dist2 ax ay bx b_y := by
 unfold dist2
 have := sq_nonneg (bx - ax)
 have := sq_nonneg (b_y - ay)
 omega
theorem isq_int (n : Int) (h : 0 ≤ n) : (isq n.toNat : Int) * isq n.toNat ≤ n ∧ n < ((isq n.toNat : Int) + 1) * ((isq n.toNat : Int) + 1) := by
 obtain ⟨k, rfl⟩ := Int.eq_ofNat_of_zero_le h
 have := isq_spec k
 simp only [Int.toNat_natCast]
 constructor
 · exact_mod_cast this.1
 · exact_mod_cast this.2
theorem sq_bd {a m : Int} (h : -m ≤ a) (h2 : a ≤ m) : a * a ≤ m * m := by
 rcases Int.le_total 0 a with h3 | h3
 · exact Int.mul_le_mul h2 h2 h3 (by omega)
 · have : (-a) * (-a) ≤ m * m := Int.mul_le_mul (by omega) (by omega) (by omega) (by omega)
   rwa [Int.neg_mul_neg] at this
theorem dist2_bd {ax ay bx b_y : Int} (h1 : vldB ax ay = true) (h2 : vldB bx b_y = true) : dist2 ax ay bx b_y ≤ 32000000000000 := by
 rw [vldB_iff] at h1 h2
 have := sq_bd (a := bx - ax) (m := 4000000) (by omega) (by omega)
 have := sq_bd (a := b_y - ay) (m := 4000000) (by omega) (by omega)
 unfold dist2
 omega
theorem distF_bd (ax ay bx b_y : Int) : 0 ≤ distF ax ay bx b_y ∧ distF ax ay bx b_y ≤ 5656854 := by
 unfold distF
 split
 · rename_i h
   rw [Bool.and_eq_true] at h
   have h1 := dist2_bd h.1 h.2
   have h2 : isq (dist2 ax ay bx b_y).toNat < 5656855 := isq_lt (by omega)
   omega
 · omega
end Go.Proofs.YtbhpklpkcgcmfaaGreatDoor
/-
  Plain laws of chapter 11, second part: offsets are exact, feet and intersections lie where they should. No program.
-/
namespace Go.Proofs.YtbhpklpkcgcmfaaGreatDoor
set_option linter.unusedVariables false
theorem dist2_pos {ax ay bx b_y : Int} (h : ¬ (ax = bx ∧ ay = b_y)) : 0 < dist2 ax ay bx b_y := by
 unfold dist2
 by_cases hx : bx - ax = 0
 · have hy : b_y - ay ≠ 0 := by omega
   have := sq_nonneg (bx - ax)
   rcases Int.lt_or_lt_of_ne hy with h | h
   · have := Int.mul_pos_of_neg_of_neg h h; omega
   · have := Int.mul_pos h h; omega
 · have := sq_nonneg (b_y - ay)
   rcases Int.lt_or_lt_of_ne hx with h | h
   · have := Int.mul_pos_of_neg_of_neg h h; omega
   · have := Int.mul_pos h h; omega
theorem crs_le (a b c d : Int) : (a * d - b * c) * (a * d - b * c) ≤ (c * c + d * d) * (a * a + b * b) := by
 have h := lagrange a b c d
 have := sq_nonneg (a * c + b * d)
 have e : (c * c + d * d) * (a * a + b * b) = (a * a + b * b) * (c * c + d * d) := Int.mul_comm _ _
 omega
theorem dot_le (a b c d : Int) : (a * c + b * d) * (a * c + b * d) ≤ (c * c + d * d) * (a * a + b * b) := by
 have h := lagrange a b c d
 have := sq_nonneg (a * d - b * c)
 have e : (c * c + d * d) * (a * a + b * b) = (a * a + b * b) * (c * c + d * d) := Int.mul_comm _ _
 omega
theorem rnd2_near (n d : Int) (hd : d ≠ 0) : -(d.natAbs : Int) ≤ 2 * (rnd 2 n d * d - n) ∧ 2 * (rnd 2 n d * d - n) ≤ d.natAbs := by
 unfold rnd
 simp only [show (2 : Nat) ≠ 0 from by decide, show (2 : Nat) ≠ 1 from by decide, if_false]
 rcases Int.lt_or_lt_of_ne hd with h | h
 · have e : (2 * n + d).fdiv (2 * d) = (-(2 * n + d)).fdiv (-(2 * d)) := (Int.neg_fdiv_neg _ _).symm
   rw [e]
   have b := floor_bd (-(2 * n + d)) (-(2 * d)) (by omega)
   generalize (-(2 * n + d)).fdiv (-(2 * d)) = k at *
   have e2 : k * -(2 * d) = -(2 * (k * d)) := by grind
   omega
 · have b := floor_bd (2 * n + d) (2 * d) (by omega)
   generalize (2 * n + d).fdiv (2 * d) = k at *
   have e2 : k * (2 * d) = 2 * (k * d) := by grind
   omega
end Go.Proofs.YtbhpklpkcgcmfaaGreatDoor
/-
  Plain laws of chapters 11 and 12: an intersection lies on both lines; the lengths of two parts of an arc. No program.
-/
namespace Go.Proofs.YtbhpklpkcgcmfaaGreatDoor
set_option linter.unusedVariables false
theorem rndLen (n : Int) : rnd 2 n 20626481 = (2 * n + 20626481) / 41252962 := by
 unfold rnd
 simp only [show (2 : Nat) ≠ 0 from by decide, show (2 : Nat) ≠ 1 from by decide, if_false]
 rw [show (2 : Int) * 20626481 = 41252962 from by decide, Int.fdiv_eq_ediv_of_nonneg _ (by decide)]
end Go.Proofs.YtbhpklpkcgcmfaaGreatDoor
