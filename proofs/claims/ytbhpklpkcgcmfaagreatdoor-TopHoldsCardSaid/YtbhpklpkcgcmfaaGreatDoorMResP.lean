/-
  Chapters 16 and 25 as plain functions: references, legs, tracks. A result with an error code ends in the code. No program.
-/
import Derived.Test.YtbhpklpkcgcmfaaGreatDoorMLaws
import Derived.ProofKit
namespace Go.Proofs.YtbhpklpkcgcmfaaGreatDoor
set_option linter.unusedVariables false
def alnum (c : UInt8) : Bool := (decide (65 ≤ (c.toNat : Int)) && decide ((c.toNat : Int) ≤ 90)) || (decide (48 ≤ (c.toNat : Int)) && decide ((c.toNat : Int) ≤ 57))
def nameL (l : List UInt8) (most : Int) : Bool :=
 match l with
 | [] => false
 | c :: r => decide (((c :: r).length : Int) ≤ most) && (decide (65 ≤ (c.toNat : Int)) && decide ((c.toNat : Int) ≤ 90)) && (c :: r).all alnum
def shortL (l : List UInt8) : Bool := decide (l.length = 2) && l.all alnum
def cutL (b : UInt8) : List UInt8 → Option (List UInt8 × List UInt8)
 | [] => none
 | c :: l => if c = b then some ([], l) else (cutL b l).map fun p => (c :: p.1, p.2)
def refL (l : List UInt8) : Bool :=
 match cutL 47 l with
 | none => false
 | some (a, b) => nameL a 6 && (nameL b 6 || shortL b)
structure En where
 (gap : Bool) (ty : Int) (fx ct : ByteArray) (tn : Int) (ov : Bool) (crs dst rad tht lo hi spd rnp ex ey mx my sec : Int) (via : ByteArray)
def En.leg (x : En) : List Value := [.int .u8 x.ty, .string x.fx, .string x.ct, .int .u8 x.tn, .bool x.ov, .int .i64 x.crs, .int .i64 x.dst, .int .i64 x.rad, .int .i64 x.tht, .int .i64 x.lo, .int .i64 x.hi, .int .i64 x.spd, .int .i64 x.rnp]
def En.cells (x : En) : List Value := [.bool x.gap, .int .u8 x.ty, .string x.fx, .string x.ct, .int .u8 x.tn, .bool x.ov, .int .i64 x.crs, .int .i64 x.dst, .int .i64 x.rad, .int .i64 x.tht, .int .i64 x.lo, .int .i64 x.hi, .int .i64 x.spd, .int .i64 x.rnp, .int .i64 x.ex, .int .i64 x.ey, .int .i64 x.mx, .int .i64 x.my, .int .u8 x.sec, .string x.via]
def usesT : List Int := [0, 1, 9, 25, 9, 71, 71, 16, 50, 16, 146, 17, 49, 17, 53, 53, 53, 53]
def useB (t : Int) (m : Nat) : Bool := (usesT.getD t.toNat 0).toNat.testBit m
def refE (s : ByteArray) (used : Bool) : Int := if used then (if refL s.data.toList then 0 else 5) else if s.data.toList = [] then 0 else 1
def numE (n : Int) (used : Bool) (lo hi : Int) : Int := if used then (if n < lo ∨ n > hi then 2 else 0) else if n = 0 then 0 else 1
def climbs (t : Int) : Bool := decide (t = 7 ∨ t = 11 ∨ t = 14)
def altE (x : En) : Int := if x.lo < -200000 ∨ x.lo > x.hi ∨ x.hi > 6000000 then 2 else if climbs x.ty = true ∧ x.lo = -200000 then 2 else if x.spd < 0 ∨ x.spd > 1000 ∨ x.rnp < 0 ∨ x.rnp > 120000 then 2 else 0
def legF (x : En) : Int :=
 if x.ty < 1 ∨ x.ty > 17 then 17 else
 if refE x.fx (useB x.ty 0) ≠ 0 then refE x.fx (useB x.ty 0) else
 if refE x.ct (useB x.ty 1) ≠ 0 then refE x.ct (useB x.ty 1) else
 if (if useB x.ty 2 then decide (x.tn = 1) || decide (x.tn = 2) else decide (x.tn = 0)) = false then 1 else
 if (x.ov && !useB x.ty 3) = true then 1 else
 if numE x.crs (useB x.ty 4) 0 129599999 ≠ 0 then numE x.crs (useB x.ty 4) 0 129599999 else
 if numE x.dst (useB x.ty 5) 1 2000000 ≠ 0 then numE x.dst (useB x.ty 5) 1 2000000 else
 if numE x.rad (useB x.ty 6) 1 2000000 ≠ 0 then numE x.rad (useB x.ty 6) 1 2000000 else
 if numE x.tht (useB x.ty 7) 0 129599999 ≠ 0 then numE x.tht (useB x.ty 7) 0 129599999 else altE x
theorem bne_t {a : Int} (h : (a != 0) = true) : a ≠ 0 := by simpa using h
theorem bne_f {a : Int} (h : (a != 0) = false) : ¬ a ≠ 0 := by simpa using h
theorem legL1 {x : En} (r1 : 1 ≤ x.ty) (r2 : x.ty ≤ 17) (h : (refE x.fx (useB x.ty 0) != 0) = true) : legF x = refE x.fx (useB x.ty 0) := by
 unfold legF
 rw [if_neg (by omega), if_pos (bne_t h)]
theorem legL2 {x : En} (r1 : 1 ≤ x.ty) (r2 : x.ty ≤ 17) (a0 : (refE x.fx (useB x.ty 0) != 0) = false) (h : (refE x.ct (useB x.ty 1) != 0) = true) : legF x = refE x.ct (useB x.ty 1) := by
 unfold legF
 rw [if_neg (by omega), if_neg (bne_f a0), if_pos (bne_t h)]
theorem legL3 {x : En} (r1 : 1 ≤ x.ty) (r2 : x.ty ≤ 17) (a0 : (refE x.fx (useB x.ty 0) != 0) = false) (a1 : (refE x.ct (useB x.ty 1) != 0) = false) (h : (if useB x.ty 2 then decide (x.tn = 1) || decide (x.tn = 2) else decide (x.tn = 0)) = false) : legF x = 1 := by
 unfold legF
 rw [if_neg (by omega), if_neg (bne_f a0), if_neg (bne_f a1), if_pos h]
theorem legL4 {x : En} (r1 : 1 ≤ x.ty) (r2 : x.ty ≤ 17) (a0 : (refE x.fx (useB x.ty 0) != 0) = false) (a1 : (refE x.ct (useB x.ty 1) != 0) = false) (a2 : (if useB x.ty 2 then decide (x.tn = 1) || decide (x.tn = 2) else decide (x.tn = 0)) = true) (h : (x.ov && !useB x.ty 3) = true) : legF x = 1 := by
 unfold legF
 rw [if_neg (by omega), if_neg (bne_f a0), if_neg (bne_f a1), if_neg (by rw [a2]; simp), if_pos h]
theorem legL5 {x : En} (r1 : 1 ≤ x.ty) (r2 : x.ty ≤ 17) (a0 : (refE x.fx (useB x.ty 0) != 0) = false) (a1 : (refE x.ct (useB x.ty 1) != 0) = false) (a2 : (if useB x.ty 2 then decide (x.tn = 1) || decide (x.tn = 2) else decide (x.tn = 0)) = true) (a3 : (x.ov && !useB x.ty 3) = false) (h : (numE x.crs (useB x.ty 4) 0 129599999 != 0) = true) : legF x = numE x.crs (useB x.ty 4) 0 129599999 := by
 unfold legF
 rw [if_neg (by omega), if_neg (bne_f a0), if_neg (bne_f a1), if_neg (by rw [a2]; simp), if_neg (by rw [a3]; simp), if_pos (bne_t h)]
theorem legL6 {x : En} (r1 : 1 ≤ x.ty) (r2 : x.ty ≤ 17) (a0 : (refE x.fx (useB x.ty 0) != 0) = false) (a1 : (refE x.ct (useB x.ty 1) != 0) = false) (a2 : (if useB x.ty 2 then decide (x.tn = 1) || decide (x.tn = 2) else decide (x.tn = 0)) = true) (a3 : (x.ov && !useB x.ty 3) = false) (a4 : (numE x.crs (useB x.ty 4) 0 129599999 != 0) = false) (h : (numE x.dst (useB x.ty 5) 1 2000000 != 0) = true) : legF x = numE x.dst (useB x.ty 5) 1 2000000 := by
 unfold legF
 rw [if_neg (by omega), if_neg (bne_f a0), if_neg (bne_f a1), if_neg (by rw [a2]; simp), if_neg (by rw [a3]; simp), if_neg (bne_f a4), if_pos (bne_t h)]
theorem legL7 {x : En} (r1 : 1 ≤ x.ty) (r2 : x.ty ≤ 17) (a0 : (refE x.fx (useB x.ty 0) != 0) = false) (a1 : (refE x.ct (useB x.ty 1) != 0) = false) (a2 : (if useB x.ty 2 then decide (x.tn = 1) || decide (x.tn = 2) else decide (x.tn = 0)) = true) (a3 : (x.ov && !useB x.ty 3) = false) (a4 : (numE x.crs (useB x.ty 4) 0 129599999 != 0) = false) (a5 : (numE x.dst (useB x.ty 5) 1 2000000 != 0) = false) (h : (numE x.rad (useB x.ty 6) 1 2000000 != 0) = true) : legF x = numE x.rad (useB x.ty 6) 1 2000000 := by
 unfold legF
 rw [if_neg (by omega), if_neg (bne_f a0), if_neg (bne_f a1), if_neg (by rw [a2]; simp), if_neg (by rw [a3]; simp), if_neg (bne_f a4), if_neg (bne_f a5), if_pos (bne_t h)]
theorem legL8 {x : En} (r1 : 1 ≤ x.ty) (r2 : x.ty ≤ 17) (a0 : (refE x.fx (useB x.ty 0) != 0) = false) (a1 : (refE x.ct (useB x.ty 1) != 0) = false) (a2 : (if useB x.ty 2 then decide (x.tn = 1) || decide (x.tn = 2) else decide (x.tn = 0)) = true) (a3 : (x.ov && !useB x.ty 3) = false) (a4 : (numE x.crs (useB x.ty 4) 0 129599999 != 0) = false) (a5 : (numE x.dst (useB x.ty 5) 1 2000000 != 0) = false) (a6 : (numE x.rad (useB x.ty 6) 1 2000000 != 0) = false) (h : (numE x.tht (useB x.ty 7) 0 129599999 != 0) = true) : legF x = numE x.tht (useB x.ty 7) 0 129599999 := by
 unfold legF
 rw [if_neg (by omega), if_neg (bne_f a0), if_neg (bne_f a1), if_neg (by rw [a2]; simp), if_neg (by rw [a3]; simp), if_neg (bne_f a4), if_neg (bne_f a5), if_neg (bne_f a6), if_pos (bne_t h)]
theorem legL9 {x : En} (r1 : 1 ≤ x.ty) (r2 : x.ty ≤ 17) (a0 : (refE x.fx (useB x.ty 0) != 0) = false) (a1 : (refE x.ct (useB x.ty 1) != 0) = false) (a2 : (if useB x.ty 2 then decide (x.tn = 1) || decide (x.tn = 2) else decide (x.tn = 0)) = true) (a3 : (x.ov && !useB x.ty 3) = false) (a4 : (numE x.crs (useB x.ty 4) 0 129599999 != 0) = false) (a5 : (numE x.dst (useB x.ty 5) 1 2000000 != 0) = false) (a6 : (numE x.rad (useB x.ty 6) 1 2000000 != 0) = false) (a7 : (numE x.tht (useB x.ty 7) 0 129599999 != 0) = false) : legF x = altE x := by
 unfold legF
 rw [if_neg (by omega), if_neg (bne_f a0), if_neg (bne_f a1), if_neg (by rw [a2]; simp), if_neg (by rw [a3]; simp), if_neg (bne_f a4), if_neg (bne_f a5), if_neg (bne_f a6), if_neg (bne_f a7)]
structure Tk where
 (k ax ay bx b_y cx cy r f s ci co len n : Int) (g : Bool)
def Tk.cells (t : Tk) : List Value := [.int .u8 t.k, .int .i64 t.ax, .int .i64 t.ay, .int .i64 t.bx, .int .i64 t.b_y, .int .i64 t.cx, .int .i64 t.cy, .int .i64 t.r, .int .i64 t.f, .int .i64 t.s, .int .i64 t.ci, .int .i64 t.co, .int .i64 t.len, .int .i64 t.n, .bool t.g]
def Tk.zero : Tk := ⟨0, 0, 0, 0, 0, 0, 0, 0, 0, 0, 0, 0, 0, 0, false⟩
def tkS (k ax ay bx b_y c d : Int) : Tk := ⟨k, ax, ay, bx, b_y, 0, 0, 0, 0, 0, c, c, d, 0, false⟩
def straightF (ax ay bx b_y c : Int) : Tk := if ax = bx ∧ ay = b_y then tkS 1 ax ay bx b_y c 0 else tkS 1 ax ay bx b_y (courseF ax ay bx b_y).1 (distF ax ay bx b_y)
def lenS (ax ay bx b_y : Int) : Int := if ax = bx ∧ ay = b_y then 0 else distF ax ay bx b_y
theorem straight_co (ax ay bx b_y c k : Int) : { straightF ax ay bx b_y c with ci := k, co := k } = tkS 1 ax ay bx b_y k (lenS ax ay bx b_y) := by
 unfold straightF lenS
 split <;> rfl
def rayT (ax ay c l : Int) : Tk × Int :=
 if (rayF ax ay c l).2.2 = 0 then (tkS 1 ax ay (rayF ax ay c l).1 (rayF ax ay c l).2.1 c l, 0) else (Tk.zero, (rayF ax ay c l).2.2)
theorem ret_tk {cs : List Value} {e : Int} {t : Tk} {p : Tk × Int} (hp : p = (t, e)) (hc : cs = t.cells) : Ending.returned (.tuple #[.agg cs.toArray, .int .i64 e]) = .returned (.tuple #[.agg p.1.cells.toArray, .int .i64 p.2]) := by subst hc hp; rfl
def optE (spd bank alt gr : Int) : Int := if spd < 1 ∨ spd > 1000 ∨ bank < 1 ∨ bank > 3000 ∨ alt < -200000 ∨ alt > 6000000 ∨ gr < 1 ∨ gr > 100000 then 2 else 0
def beforeB (ax ay bx b_y px py : Int) : Bool := decide ((offF ax ay bx b_y px py).2.1 < 0)
def untilT (ax ay c bx b_y : Int) : Tk := tkS 1 ax ay bx b_y c (distF ax ay bx b_y)
def toFixT (fx fy c : Int) (x : En) : Tk × Int :=
 let q := rayF x.ex x.ey (x.crs + 64800000) 60000
 if q.2.2 ≠ 0 then (Tk.zero, q.2.2) else
 if aheadF q.1 q.2.1 x.ex x.ey fx fy ≥ 0 then (Tk.zero, 10) else
 let o := offF q.1 q.2.1 x.ex x.ey fx fy
 if o.2.2 ≠ 0 then (Tk.zero, o.2.2) else
 if o.1 ≥ -8 ∧ o.1 ≤ 8 then (straightF fx fy x.ex x.ey c, 0) else
 let p := footF q.1 q.2.1 x.ex x.ey fx fy
 if p.2.2 ≠ 0 then (Tk.zero, p.2.2) else
 (tkS 1 p.1 p.2.1 x.ex x.ey x.crs (lenS p.1 p.2.1 x.ex x.ey), 0)
def climbN (alt lo gr : Int) : Int := if alt < lo then rnd 1 ((lo - alt) * 6000) gr else 0
def climbT (fx fy alt : Int) (x : En) (gr : Int) : Tk × Int := if climbN alt x.lo gr > 8000000 then (Tk.zero, 2) else rayT fx fy x.crs (climbN alt x.lo gr)
def toDistT (fx fy : Int) (x : En) : Tk × Int :=
 let p := rayF fx fy x.crs 60000
 if p.2.2 ≠ 0 then (Tk.zero, p.2.2) else
 let o := offF fx fy p.1 p.2.1 x.mx x.my
 if o.2.2 ≠ 0 then (Tk.zero, o.2.2) else
 if o.1 > x.dst ∨ o.1 < -x.dst then (Tk.zero, 10) else
 if ¬ (o.2.1 - isq (x.dst * x.dst - o.1 * o.1).toNat < 0) then rayT fx fy x.crs (o.2.1 - isq (x.dst * x.dst - o.1 * o.1).toNat) else
 if o.2.1 + isq (x.dst * x.dst - o.1 * o.1).toNat < 0 then (Tk.zero, 10) else rayT fx fy x.crs (o.2.1 + isq (x.dst * x.dst - o.1 * o.1).toNat)
def toRadT (fx fy : Int) (x : En) : Tk × Int :=
 let p := rayF fx fy x.crs 60000
 if p.2.2 ≠ 0 then (Tk.zero, p.2.2) else
 let r := rayF x.mx x.my x.tht 60000
 if r.2.2 ≠ 0 then (Tk.zero, r.2.2) else
 let b := meetF fx fy p.1 p.2.1 x.mx x.my r.1 r.2.1
 if b.2.2 ≠ 0 then (Tk.zero, b.2.2) else
 if (beforeB fx fy p.1 p.2.1 b.1 b.2.1 || beforeB x.mx x.my r.1 r.2.1 b.1 b.2.1) = true then (Tk.zero, 10) else
 (untilT fx fy x.crs b.1 b.2.1, 0)
def interT (fx fy : Int) (x y : En) : Tk × Int :=
 if y.gap = true ∨ y.ty ≠ 3 then (Tk.zero, 10) else
 let p := rayF fx fy x.crs 60000
 if p.2.2 ≠ 0 then (Tk.zero, p.2.2) else
 let q := rayF y.ex y.ey (turnF y.crs 64800000) 60000
 if q.2.2 ≠ 0 then (Tk.zero, q.2.2) else
 let b := meetF fx fy p.1 p.2.1 q.1 q.2.1 y.ex y.ey
 if b.2.2 ≠ 0 then (Tk.zero, b.2.2) else
 if (beforeB fx fy p.1 p.2.1 b.1 b.2.1 || decide (aheadF q.1 q.2.1 y.ex y.ey b.1 b.2.1 ≥ 0)) = true then (Tk.zero, 10) else
 (untilT fx fy x.crs b.1 b.2.1, 0)
end Go.Proofs.YtbhpklpkcgcmfaaGreatDoor
/-
  Chapter 25 as plain functions, second part: climbs, arcs, Resolve; bounds. No program.
-/
namespace Go.Proofs.YtbhpklpkcgcmfaaGreatDoor
set_option linter.unusedVariables false
theorem isq_le (n : Nat) : isq n ≤ n := by
 have h := (isq_spec n).1
 rcases Nat.eq_zero_or_pos (isq n) with e | e
 · omega
 · exact Nat.le_trans (Nat.le_mul_of_pos_right _ e) h
theorem lenF_bd (n s : Int) : -(n.natAbs : Int) ≤ lenF n s ∧ lenF n s ≤ n.natAbs := by
 have hsq : isq (n * n / s).toNat ≤ n.natAbs := by
  apply Classical.byContradiction
  intro hh
  have h1 := (isq_spec (n * n / s).toNat).1
  have h2 : (n.natAbs + 1) * (n.natAbs + 1) ≤ isq (n * n / s).toNat * isq (n * n / s).toNat := Nat.mul_le_mul (by omega) (by omega)
  have h3 : (n * n / s).toNat ≤ n.natAbs * n.natAbs := by
   have e : n * n = ((n.natAbs * n.natAbs : Nat) : Int) := by rw [Int.natCast_mul]; exact (Int.natAbs_mul_self).symm
   have h4 : n * n / s ≤ n * n := by
    rw [e]
    exact Int.ediv_le_self _ (Int.natCast_nonneg _)
   rw [e] at h4 ⊢
   omega
  have h5 : (n.natAbs + 1) * (n.natAbs + 1) = n.natAbs * n.natAbs + 2 * n.natAbs + 1 := by grind
  omega
 unfold lenF
 split <;> omega
theorem pr_bd {a b k : Int} (ha : -k ≤ a ∧ a ≤ k) (hb : -k ≤ b ∧ b ≤ k) (hk : 0 ≤ k) : -(k * k) ≤ a * b ∧ a * b ≤ k * k := by
 have h : (a * b).natAbs ≤ k.natAbs * k.natAbs := by
  rw [Int.natAbs_mul]
  exact Nat.mul_le_mul (by omega) (by omega)
 have e : ((k.natAbs * k.natAbs : Nat) : Int) = k * k := by rw [Int.natCast_mul]; exact Int.natAbs_mul_self
 have h2 : ((a * b).natAbs : Int) ≤ k * k := by rw [← e]; omega
 omega
theorem off_bd (ax ay bx b_y px py : Int) : (-100000000000000 ≤ (offF ax ay bx b_y px py).1 ∧ (offF ax ay bx b_y px py).1 ≤ 100000000000000) ∧ (-100000000000000 ≤ (offF ax ay bx b_y px py).2.1 ∧ (offF ax ay bx b_y px py).2.1 ≤ 100000000000000) := by
 unfold offF
 split
 · simp
 · rename_i hv
   split
   · simp
   · have hv2 : (vldB ax ay = true ∧ vldB bx b_y = true) ∧ vldB px py = true := by simpa using hv
     have h1 := (vldB_iff _ _).1 hv2.1.1
     have h2 := (vldB_iff _ _).1 hv2.1.2
     have h3 := (vldB_iff _ _).1 hv2.2
     have p1 := pr_bd (a := bx - ax) (b := py - ay) (k := 4000000) (by omega) (by omega) (by omega)
     have p2 := pr_bd (a := b_y - ay) (b := px - ax) (k := 4000000) (by omega) (by omega) (by omega)
     have p3 := pr_bd (a := bx - ax) (b := px - ax) (k := 4000000) (by omega) (by omega) (by omega)
     have p4 := pr_bd (a := b_y - ay) (b := py - ay) (k := 4000000) (by omega) (by omega) (by omega)
     have l1 := lenF_bd (-((bx - ax) * (py - ay) - (b_y - ay) * (px - ax))) (dist2 ax ay bx b_y)
     have l2 := lenF_bd ((bx - ax) * (px - ax) + (b_y - ay) * (py - ay)) (dist2 ax ay bx b_y)
     dsimp only
     generalize lenF (-((bx - ax) * (py - ay) - (b_y - ay) * (px - ax))) (dist2 ax ay bx b_y) = A at *
     generalize lenF ((bx - ax) * (px - ax) + (b_y - ay) * (py - ay)) (dist2 ax ay bx b_y) = B at *
     generalize (bx - ax) * (py - ay) = q1 at *
     generalize (b_y - ay) * (px - ax) = q2 at *
     generalize (bx - ax) * (px - ax) = q3 at *
     generalize (b_y - ay) * (py - ay) = q4 at *
     omega
theorem up_bd {n g : Int} (hn : 0 ≤ n) (hg : 1 ≤ g) : 0 ≤ rnd 1 n g ∧ rnd 1 n g ≤ n := by
 have h := rnd1_spec n g (by omega)
 generalize rnd 1 n g = r at *
 constructor
 · apply Classical.byContradiction
   intro hr
   have : r * g ≤ (-1) * g := Int.mul_le_mul_of_nonneg_right (by omega) (by omega)
   omega
 · apply Classical.byContradiction
   intro hr
   have h1 : n * g ≤ (r - 1) * g := Int.mul_le_mul_of_nonneg_right (by omega) (by omega)
   have h2 : n * 1 ≤ n * g := Int.mul_le_mul_of_nonneg_left hg hn
   omega
theorem muldiv_up {a b c : Int} (hn : 0 ≤ a * b) (hn2 : a * b ≤ 1000000000000) (hc : 1 ≤ c) : muldiv 1 a b c = (rnd 1 (a * b) c, 0) := by
 have h := up_bd hn hc
 unfold muldiv
 rw [if_neg (by omega), if_pos (by unfold in64; rw [decide_eq_true_iff]; omega)]
theorem climb_p {alt lo gr : Int} (h : alt < lo) (h1 : -200000 ≤ alt) (h2 : lo ≤ 6000000) (hg : 1 ≤ gr) : muldiv 1 ((lo - alt) * 6000) 1 gr = (climbN alt lo gr, 0) := by
 rw [muldiv_up (by omega) (by omega) hg]
 unfold climbN
 rw [if_pos h, Int.mul_one]
theorem climbN_bd {alt lo gr : Int} (h1 : -200000 ≤ alt) (h2 : lo ≤ 6000000) (hg : 1 ≤ gr) : 0 ≤ climbN alt lo gr ∧ climbN alt lo gr ≤ 100000000000 := by
 unfold climbN
 split
 · have := up_bd (n := (lo - alt) * 6000) (g := gr) (by omega) hg
   omega
 · omega
theorem around_form (ax ay cx cy bx b_y : Int) (right : Bool) : ∃ v0 v1 v2 v3 v4 e0 : Int, aroundF ax ay cx cy bx b_y right = ([v0, v1, v2, v3, v4], e0) ∧ 0 ≤ v2 ∧ v2 ≤ 6000000 := by
 unfold aroundF
 split
 · exact ⟨0, 0, 0, 0, 0, 1, rfl, by omega, by omega⟩
 · split
   · exact ⟨0, 0, 0, 0, 0, 10, rfl, by omega, by omega⟩
   · have h := distF_bd cx cy ax ay
     exact ⟨_, _, _, _, _, _, rfl, by omega, by omega⟩
def aroundT (fx fy : Int) (x : En) : Tk × Int :=
 if (aroundF fx fy x.mx x.my x.ex x.ey (decide (x.tn = 2))).2 ≠ 0 then (Tk.zero, (aroundF fx fy x.mx x.my x.ex x.ey (decide (x.tn = 2))).2) else
 match (aroundF fx fy x.mx x.my x.ex x.ey (decide (x.tn = 2))).1 with
 | [cx, cy, r, f, s] =>
   if r - x.rad > 60 ∨ r - x.rad < -60 then (Tk.zero, 10) else
   if (arcAt cx cy r f s 0).2.2.2 ≠ 0 then (Tk.zero, (arcAt cx cy r f s 0).2.2.2) else
   if (arcAt cx cy r f s (arcLen cx cy r f s)).2.2.2 ≠ 0 then (Tk.zero, (arcAt cx cy r f s (arcLen cx cy r f s)).2.2.2) else
   (⟨2, fx, fy, x.ex, x.ey, cx, cy, r, f, s, (arcAt cx cy r f s 0).2.2.1, (arcAt cx cy r f s (arcLen cx cy r f s)).2.2.1, arcLen cx cy r f s, 0, false⟩, 0)
 | _ => (Tk.zero, 0)
def openT (ax ay c : Int) : Tk × Int := if (rayT ax ay c 300000).2 = 0 then ({ (rayT ax ay c 300000).1 with k := 4 }, 0) else rayT ax ay c 300000
def patternT (c : Int) (x : En) : Tk := ⟨3, x.ex, x.ey, x.ex, x.ey, 0, 0, 0, 0, 0, c, if x.ty = 17 then norm (x.crs + 64800000) else x.crs, 0, 0, false⟩
def legT (fx fy c alt : Int) (x y : En) (gr : Int) : Tk × Int :=
 if x.ty = 1 then (straightF x.ex x.ey x.ex x.ey c, 0) else
 if x.ty = 2 ∨ x.ty = 4 then (straightF fx fy x.ex x.ey c, 0) else
 if x.ty = 3 then toFixT fx fy c x else
 if x.ty = 5 ∨ x.ty = 6 then aroundT fx fy x else
 if x.ty = 7 then climbT fx fy alt x gr else
 if x.ty = 11 then climbT x.ex x.ey alt x gr else
 if x.ty = 12 then rayT x.ex x.ey x.crs x.dst else
 if x.ty = 13 then openT x.ex x.ey x.crs else
 if x.ty = 8 then toDistT fx fy x else
 if x.ty = 10 then toRadT fx fy x else
 if x.ty = 9 then interT fx fy x y else (patternT c x, 0)
def resolveT (fx fy c alt : Int) (x y : En) (spd bank oalt gr : Int) : Tk × Int :=
 if optE spd bank oalt gr ≠ 0 then (Tk.zero, optE spd bank oalt gr) else
 if x.gap = true then (Tk.zero, 17) else
 if legF x ≠ 0 then (Tk.zero, legF x) else
 if (vldB fx fy && vldB x.ex x.ey && vldB x.mx x.my) = false then (Tk.zero, 1) else
 if c < 0 ∨ c ≥ 129600000 ∨ alt < -200000 ∨ alt > 6000000 then (Tk.zero, 2) else legT fx fy c alt x y gr
theorem numE_ok {n lo hi : Int} {u : Bool} (h : numE n u lo hi = 0) : (u = true → lo ≤ n ∧ n ≤ hi) ∧ (u = false → n = 0) := by
 unfold numE at h
 rcases u with _ | _
 · refine ⟨(fun h => by cases h), fun _ => ?_⟩
   apply Classical.byContradiction
   intro hn
   rw [if_neg (by simp), if_neg hn] at h
   cases h
 · refine ⟨fun _ => ?_, (fun h => by cases h)⟩
   apply Classical.byContradiction
   intro hn
   rw [if_pos rfl, if_pos (by omega)] at h
   cases h
theorem numE_rng {n lo hi : Int} {u : Bool} (h : numE n u lo hi = 0) (hlo : lo ≤ 1) (hlo2 : 0 ≤ lo) (hhi : 1 ≤ hi) : 0 ≤ n ∧ n ≤ hi := by
 have h1 := numE_ok h
 rcases u with _ | _
 · have := h1.2 rfl
   omega
 · have := h1.1 rfl
   omega
theorem leg_ok {x : En} (h : legF x = 0) : (1 ≤ x.ty ∧ x.ty ≤ 17) ∧ (0 ≤ x.crs ∧ x.crs ≤ 129599999) ∧ (0 ≤ x.dst ∧ x.dst ≤ 2000000) ∧ (0 ≤ x.rad ∧ x.rad ≤ 2000000) ∧ (0 ≤ x.tht ∧ x.tht ≤ 129599999) ∧
 (-200000 ≤ x.lo ∧ x.lo ≤ x.hi ∧ x.hi ≤ 6000000) ∧ (useB x.ty 2 = true → x.tn = 1 ∨ x.tn = 2) := by
 have r : 1 ≤ x.ty ∧ x.ty ≤ 17 := by
  apply Classical.byContradiction
  intro hn
  unfold legF at h
  rw [if_pos (by omega)] at h
  cases h
 obtain ⟨r1, r2⟩ := r
 have a1 : (refE x.fx (useB x.ty 0) != 0) = false := by
  rcases hh : (refE x.fx (useB x.ty 0) != 0) with _ | _
  · rfl
  · have := legL1 r1 r2 hh
    exact absurd (this.symm.trans h) (bne_t hh)
 have a2 : (refE x.ct (useB x.ty 1) != 0) = false := by
  rcases hh : (refE x.ct (useB x.ty 1) != 0) with _ | _
  · rfl
  · have := legL2 r1 r2 a1 hh
    exact absurd (this.symm.trans h) (bne_t hh)
 have a3 : (if useB x.ty 2 then decide (x.tn = 1) || decide (x.tn = 2) else decide (x.tn = 0)) = true := by
  rcases hh : (if useB x.ty 2 then decide (x.tn = 1) || decide (x.tn = 2) else decide (x.tn = 0)) with _ | _
  · have := legL3 r1 r2 a1 a2 hh
    omega
  · rfl
 have a4 : (x.ov && !useB x.ty 3) = false := by
  rcases hh : (x.ov && !useB x.ty 3) with _ | _
  · rfl
  · have := legL4 r1 r2 a1 a2 a3 hh
    omega
 have a5 : (numE x.crs (useB x.ty 4) 0 129599999 != 0) = false := by
  rcases hh : (numE x.crs (useB x.ty 4) 0 129599999 != 0) with _ | _
  · rfl
  · have := legL5 r1 r2 a1 a2 a3 a4 hh
    exact absurd (this.symm.trans h) (bne_t hh)
 have a6 : (numE x.dst (useB x.ty 5) 1 2000000 != 0) = false := by
  rcases hh : (numE x.dst (useB x.ty 5) 1 2000000 != 0) with _ | _
  · rfl
  · have := legL6 r1 r2 a1 a2 a3 a4 a5 hh
    exact absurd (this.symm.trans h) (bne_t hh)
 have a7 : (numE x.rad (useB x.ty 6) 1 2000000 != 0) = false := by
  rcases hh : (numE x.rad (useB x.ty 6) 1 2000000 != 0) with _ | _
  · rfl
  · have := legL7 r1 r2 a1 a2 a3 a4 a5 a6 hh
    exact absurd (this.symm.trans h) (bne_t hh)
 have a8 : (numE x.tht (useB x.ty 7) 0 129599999 != 0) = false := by
  rcases hh : (numE x.tht (useB x.ty 7) 0 129599999 != 0) with _ | _
  · rfl
  · have := legL8 r1 r2 a1 a2 a3 a4 a5 a6 a7 hh
    exact absurd (this.symm.trans h) (bne_t hh)
 have a9 := legL9 r1 r2 a1 a2 a3 a4 a5 a6 a7 a8
 rw [h] at a9
 have z : ∀ {a : Int}, (a != 0) = false → a = 0 := fun h => by simpa using h
 refine ⟨⟨r1, r2⟩, numE_rng (z a5) (by omega) (by omega) (by omega), numE_rng (z a6) (by omega) (by omega) (by omega), numE_rng (z a7) (by omega) (by omega) (by omega), numE_rng (z a8) (by omega) (by omega) (by omega), ?_, ?_⟩
 · unfold altE at a9
   split at a9
   · cases a9
   · omega
 · intro hu
   rw [hu, if_pos rfl] at a3
   simpa using a3
theorem opt_ok {s b a g : Int} (h : optE s b a g = 0) : (1 ≤ s ∧ s ≤ 1000) ∧ (1 ≤ b ∧ b ≤ 3000) ∧ (-200000 ≤ a ∧ a ≤ 6000000) ∧ (1 ≤ g ∧ g ≤ 100000) := by
 unfold optE at h
 split at h
 · cases h
 · omega
end Go.Proofs.YtbhpklpkcgcmfaaGreatDoor
