/-
  Chapters 16 and 25 as plain functions: references, legs, tracks. A result with an error code ends in the code. No program.
-/
import Derived.Test.YteanfgobpjdmnaaGreatDoorMLaws
import Derived.ProofKit
namespace Go.Proofs.YteanfgobpjdmnaaGreatDoor
set_option linter.unusedVariables false
def ko (c : UInt8) : Bool := (decide (65 ≤ (c.toNat : Int)) && decide ((c.toNat : Int) ≤ 90)) || (decide (48 ≤ (c.toNat : Int)) && decide ((c.toNat : Int) ≤ 57))
def yY (l : List UInt8) (most : Int) : Bool :=
 match l with
 | [] => false
 | c :: r => decide (((c :: r).length : Int) ≤ most) && (decide (65 ≤ (c.toNat : Int)) && decide ((c.toNat : Int) ≤ 90)) && (c :: r).all ko
def gN (l : List UInt8) : Bool := decide (l.length = 2) && l.all ko
def Kb (b : UInt8) : List UInt8 → Option (List UInt8 × List UInt8)
 | [] => none
 | c :: l => if c = b then some ([], l) else (Kb b l).map fun p => (c :: p.1, p.2)
def BM (l : List UInt8) : Bool :=
 match Kb 47 l with
 | none => false
 | some (a, b) => yY a 6 && (yY b 6 || gN b)
structure En where
 (gap : Bool) (ty : Int) (fx ct : ByteArray) (tn : Int) (ov : Bool) (crs dst rad tht lo hi spd rnp ex ey mx my sec : Int) (via : ByteArray)
def En.leg (x : En) : List Value := [.int .u8 x.ty, .string x.fx, .string x.ct, .int .u8 x.tn, .bool x.ov, .int .i64 x.crs, .int .i64 x.dst, .int .i64 x.rad, .int .i64 x.tht, .int .i64 x.lo, .int .i64 x.hi, .int .i64 x.spd, .int .i64 x.rnp]
def En.cells (x : En) : List Value := [.bool x.gap, .int .u8 x.ty, .string x.fx, .string x.ct, .int .u8 x.tn, .bool x.ov, .int .i64 x.crs, .int .i64 x.dst, .int .i64 x.rad, .int .i64 x.tht, .int .i64 x.lo, .int .i64 x.hi, .int .i64 x.spd, .int .i64 x.rnp, .int .i64 x.ex, .int .i64 x.ey, .int .i64 x.mx, .int .i64 x.my, .int .u8 x.sec, .string x.via]
def UB : List Int := [0, 1, 9, 25, 9, 71, 71, 16, 50, 16, 146, 17, 49, 17, 53, 53, 53, 53]
def zn (t : Int) (m : Nat) : Bool := (UB.getD t.toNat 0).toNat.testBit m
def vo (s : ByteArray) (used : Bool) : Int := if used then (if BM s.data.toList then 0 else 5) else if s.data.toList = [] then 0 else 1
def yg (n : Int) (used : Bool) (lo hi : Int) : Int := if used then (if n < lo ∨ n > hi then 2 else 0) else if n = 0 then 0 else 1
def BN (t : Int) : Bool := decide (t = 7 ∨ t = 11 ∨ t = 14)
def pW (x : En) : Int := if x.lo < -200000 ∨ x.lo > x.hi ∨ x.hi > 6000000 then 2 else if BN x.ty = true ∧ x.lo = -200000 then 2 else if x.spd < 0 ∨ x.spd > 1000 ∨ x.rnp < 0 ∨ x.rnp > 120000 then 2 else 0
def jn (x : En) : Int :=
 if x.ty < 1 ∨ x.ty > 17 then 17 else
 if vo x.fx (zn x.ty 0) ≠ 0 then vo x.fx (zn x.ty 0) else
 if vo x.ct (zn x.ty 1) ≠ 0 then vo x.ct (zn x.ty 1) else
 if (if zn x.ty 2 then decide (x.tn = 1) || decide (x.tn = 2) else decide (x.tn = 0)) = false then 1 else
 if (x.ov && !zn x.ty 3) = true then 1 else
 if yg x.crs (zn x.ty 4) 0 129599999 ≠ 0 then yg x.crs (zn x.ty 4) 0 129599999 else
 if yg x.dst (zn x.ty 5) 1 2000000 ≠ 0 then yg x.dst (zn x.ty 5) 1 2000000 else
 if yg x.rad (zn x.ty 6) 1 2000000 ≠ 0 then yg x.rad (zn x.ty 6) 1 2000000 else
 if yg x.tht (zn x.ty 7) 0 129599999 ≠ 0 then yg x.tht (zn x.ty 7) 0 129599999 else pW x
theorem jO {a : Int} (h : (a != 0) = true) : a ≠ 0 := by simpa using h
theorem jd {a : Int} (h : (a != 0) = false) : ¬ a ≠ 0 := by simpa using h
theorem Nn {x : En} (r1 : 1 ≤ x.ty) (r2 : x.ty ≤ 17) (h : (vo x.fx (zn x.ty 0) != 0) = true) : jn x = vo x.fx (zn x.ty 0) := by
 unfold jn
 rw [if_neg (by omega), if_pos (jO h)]
theorem Np {x : En} (r1 : 1 ≤ x.ty) (r2 : x.ty ≤ 17) (a0 : (vo x.fx (zn x.ty 0) != 0) = false) (h : (vo x.ct (zn x.ty 1) != 0) = true) : jn x = vo x.ct (zn x.ty 1) := by
 unfold jn
 rw [if_neg (by omega), if_neg (jd a0), if_pos (jO h)]
theorem Nq {x : En} (r1 : 1 ≤ x.ty) (r2 : x.ty ≤ 17) (a0 : (vo x.fx (zn x.ty 0) != 0) = false) (a1 : (vo x.ct (zn x.ty 1) != 0) = false) (h : (if zn x.ty 2 then decide (x.tn = 1) || decide (x.tn = 2) else decide (x.tn = 0)) = false) : jn x = 1 := by
 unfold jn
 rw [if_neg (by omega), if_neg (jd a0), if_neg (jd a1), if_pos h]
theorem Ns {x : En} (r1 : 1 ≤ x.ty) (r2 : x.ty ≤ 17) (a0 : (vo x.fx (zn x.ty 0) != 0) = false) (a1 : (vo x.ct (zn x.ty 1) != 0) = false) (a2 : (if zn x.ty 2 then decide (x.tn = 1) || decide (x.tn = 2) else decide (x.tn = 0)) = true) (h : (x.ov && !zn x.ty 3) = true) : jn x = 1 := by
 unfold jn
 rw [if_neg (by omega), if_neg (jd a0), if_neg (jd a1), if_neg (by rw [a2]; simp), if_pos h]
theorem Nt {x : En} (r1 : 1 ≤ x.ty) (r2 : x.ty ≤ 17) (a0 : (vo x.fx (zn x.ty 0) != 0) = false) (a1 : (vo x.ct (zn x.ty 1) != 0) = false) (a2 : (if zn x.ty 2 then decide (x.tn = 1) || decide (x.tn = 2) else decide (x.tn = 0)) = true) (a3 : (x.ov && !zn x.ty 3) = false) (h : (yg x.crs (zn x.ty 4) 0 129599999 != 0) = true) : jn x = yg x.crs (zn x.ty 4) 0 129599999 := by
 unfold jn
 rw [if_neg (by omega), if_neg (jd a0), if_neg (jd a1), if_neg (by rw [a2]; simp), if_neg (by rw [a3]; simp), if_pos (jO h)]
theorem Nu {x : En} (r1 : 1 ≤ x.ty) (r2 : x.ty ≤ 17) (a0 : (vo x.fx (zn x.ty 0) != 0) = false) (a1 : (vo x.ct (zn x.ty 1) != 0) = false) (a2 : (if zn x.ty 2 then decide (x.tn = 1) || decide (x.tn = 2) else decide (x.tn = 0)) = true) (a3 : (x.ov && !zn x.ty 3) = false) (a4 : (yg x.crs (zn x.ty 4) 0 129599999 != 0) = false) (h : (yg x.dst (zn x.ty 5) 1 2000000 != 0) = true) : jn x = yg x.dst (zn x.ty 5) 1 2000000 := by
 unfold jn
 rw [if_neg (by omega), if_neg (jd a0), if_neg (jd a1), if_neg (by rw [a2]; simp), if_neg (by rw [a3]; simp), if_neg (jd a4), if_pos (jO h)]
theorem Nv {x : En} (r1 : 1 ≤ x.ty) (r2 : x.ty ≤ 17) (a0 : (vo x.fx (zn x.ty 0) != 0) = false) (a1 : (vo x.ct (zn x.ty 1) != 0) = false) (a2 : (if zn x.ty 2 then decide (x.tn = 1) || decide (x.tn = 2) else decide (x.tn = 0)) = true) (a3 : (x.ov && !zn x.ty 3) = false) (a4 : (yg x.crs (zn x.ty 4) 0 129599999 != 0) = false) (a5 : (yg x.dst (zn x.ty 5) 1 2000000 != 0) = false) (h : (yg x.rad (zn x.ty 6) 1 2000000 != 0) = true) : jn x = yg x.rad (zn x.ty 6) 1 2000000 := by
 unfold jn
 rw [if_neg (by omega), if_neg (jd a0), if_neg (jd a1), if_neg (by rw [a2]; simp), if_neg (by rw [a3]; simp), if_neg (jd a4), if_neg (jd a5), if_pos (jO h)]
theorem Nw {x : En} (r1 : 1 ≤ x.ty) (r2 : x.ty ≤ 17) (a0 : (vo x.fx (zn x.ty 0) != 0) = false) (a1 : (vo x.ct (zn x.ty 1) != 0) = false) (a2 : (if zn x.ty 2 then decide (x.tn = 1) || decide (x.tn = 2) else decide (x.tn = 0)) = true) (a3 : (x.ov && !zn x.ty 3) = false) (a4 : (yg x.crs (zn x.ty 4) 0 129599999 != 0) = false) (a5 : (yg x.dst (zn x.ty 5) 1 2000000 != 0) = false) (a6 : (yg x.rad (zn x.ty 6) 1 2000000 != 0) = false) (h : (yg x.tht (zn x.ty 7) 0 129599999 != 0) = true) : jn x = yg x.tht (zn x.ty 7) 0 129599999 := by
 unfold jn
 rw [if_neg (by omega), if_neg (jd a0), if_neg (jd a1), if_neg (by rw [a2]; simp), if_neg (by rw [a3]; simp), if_neg (jd a4), if_neg (jd a5), if_neg (jd a6), if_pos (jO h)]
theorem Tv {x : En} (r1 : 1 ≤ x.ty) (r2 : x.ty ≤ 17) (a0 : (vo x.fx (zn x.ty 0) != 0) = false) (a1 : (vo x.ct (zn x.ty 1) != 0) = false) (a2 : (if zn x.ty 2 then decide (x.tn = 1) || decide (x.tn = 2) else decide (x.tn = 0)) = true) (a3 : (x.ov && !zn x.ty 3) = false) (a4 : (yg x.crs (zn x.ty 4) 0 129599999 != 0) = false) (a5 : (yg x.dst (zn x.ty 5) 1 2000000 != 0) = false) (a6 : (yg x.rad (zn x.ty 6) 1 2000000 != 0) = false) (a7 : (yg x.tht (zn x.ty 7) 0 129599999 != 0) = false) : jn x = pW x := by
 unfold jn
 rw [if_neg (by omega), if_neg (jd a0), if_neg (jd a1), if_neg (by rw [a2]; simp), if_neg (by rw [a3]; simp), if_neg (jd a4), if_neg (jd a5), if_neg (jd a6), if_neg (jd a7)]
structure Tk where
 (k ax ay bx b_y cx cy r f s ci co len n : Int) (g : Bool)
def Tk.cells (t : Tk) : List Value := [.int .u8 t.k, .int .i64 t.ax, .int .i64 t.ay, .int .i64 t.bx, .int .i64 t.b_y, .int .i64 t.cx, .int .i64 t.cy, .int .i64 t.r, .int .i64 t.f, .int .i64 t.s, .int .i64 t.ci, .int .i64 t.co, .int .i64 t.len, .int .i64 t.n, .bool t.g]
def Tk.zero : Tk := ⟨0, 0, 0, 0, 0, 0, 0, 0, 0, 0, 0, 0, 0, 0, false⟩
def fO (k ax ay bx b_y c d : Int) : Tk := ⟨k, ax, ay, bx, b_y, 0, 0, 0, 0, 0, c, c, d, 0, false⟩
def qY (ax ay bx b_y c : Int) : Tk := if ax = bx ∧ ay = b_y then fO 1 ax ay bx b_y c 0 else fO 1 ax ay bx b_y (qF ax ay bx b_y).1 (qJ ax ay bx b_y)
def fP (ax ay bx b_y : Int) : Int := if ax = bx ∧ ay = b_y then 0 else qJ ax ay bx b_y
theorem vH (ax ay bx b_y c k : Int) : { qY ax ay bx b_y c with ci := k, co := k } = fO 1 ax ay bx b_y k (fP ax ay bx b_y) := by
 unfold qY fP
 split <;> rfl
def kw (ax ay c l : Int) : Tk × Int :=
 if (zi ax ay c l).2.2 = 0 then (fO 1 ax ay (zi ax ay c l).1 (zi ax ay c l).2.1 c l, 0) else (Tk.zero, (zi ax ay c l).2.2)
theorem zN {cs : List Value} {e : Int} {t : Tk} {p : Tk × Int} (hp : p = (t, e)) (hc : cs = t.cells) : Ending.returned (.tuple #[.agg cs.toArray, .int .i64 e]) = .returned (.tuple #[.agg p.1.cells.toArray, .int .i64 p.2]) := by subst hc hp; rfl
def vA (spd bank alt gr : Int) : Int := if spd < 1 ∨ spd > 1000 ∨ bank < 1 ∨ bank > 3000 ∨ alt < -200000 ∨ alt > 6000000 ∨ gr < 1 ∨ gr > 100000 then 2 else 0
def YM (ax ay bx b_y px py : Int) : Bool := decide ((VS ax ay bx b_y px py).2.1 < 0)
def pX (ax ay c bx b_y : Int) : Tk := fO 1 ax ay bx b_y c (qJ ax ay bx b_y)
def yS (fx fy c : Int) (x : En) : Tk × Int :=
 let q := zi x.ex x.ey (x.crs + 64800000) 60000
 if q.2.2 ≠ 0 then (Tk.zero, q.2.2) else
 if BH q.1 q.2.1 x.ex x.ey fx fy ≥ 0 then (Tk.zero, 10) else
 let o := VS q.1 q.2.1 x.ex x.ey fx fy
 if o.2.2 ≠ 0 then (Tk.zero, o.2.2) else
 if o.1 ≥ -8 ∧ o.1 ≤ 8 then (qY fx fy x.ex x.ey c, 0) else
 let p := VT q.1 q.2.1 x.ex x.ey fx fy
 if p.2.2 ≠ 0 then (Tk.zero, p.2.2) else
 (fO 1 p.1 p.2.1 x.ex x.ey x.crs (fP p.1 p.2.1 x.ex x.ey), 0)
def xp (alt lo gr : Int) : Int := if alt < lo then jG 1 ((lo - alt) * 6000) gr else 0
def yp (fx fy alt : Int) (x : En) (gr : Int) : Tk × Int := if xp alt x.lo gr > 8000000 then (Tk.zero, 2) else kw fx fy x.crs (xp alt x.lo gr)
def jX (fx fy : Int) (x : En) : Tk × Int :=
 let p := zi fx fy x.crs 60000
 if p.2.2 ≠ 0 then (Tk.zero, p.2.2) else
 let o := VS fx fy p.1 p.2.1 x.mx x.my
 if o.2.2 ≠ 0 then (Tk.zero, o.2.2) else
 if o.1 > x.dst ∨ o.1 < -x.dst then (Tk.zero, 10) else
 if ¬ (o.2.1 - vO (x.dst * x.dst - o.1 * o.1).toNat < 0) then kw fx fy x.crs (o.2.1 - vO (x.dst * x.dst - o.1 * o.1).toNat) else
 if o.2.1 + vO (x.dst * x.dst - o.1 * o.1).toNat < 0 then (Tk.zero, 10) else kw fx fy x.crs (o.2.1 + vO (x.dst * x.dst - o.1 * o.1).toNat)
def vp (fx fy : Int) (x : En) : Tk × Int :=
 let p := zi fx fy x.crs 60000
 if p.2.2 ≠ 0 then (Tk.zero, p.2.2) else
 let r := zi x.mx x.my x.tht 60000
 if r.2.2 ≠ 0 then (Tk.zero, r.2.2) else
 let b := Yg fx fy p.1 p.2.1 x.mx x.my r.1 r.2.1
 if b.2.2 ≠ 0 then (Tk.zero, b.2.2) else
 if (YM fx fy p.1 p.2.1 b.1 b.2.1 || YM x.mx x.my r.1 r.2.1 b.1 b.2.1) = true then (Tk.zero, 10) else
 (pX fx fy x.crs b.1 b.2.1, 0)
def yF (fx fy : Int) (x y : En) : Tk × Int :=
 if y.gap = true ∨ y.ty ≠ 3 then (Tk.zero, 10) else
 let p := zi fx fy x.crs 60000
 if p.2.2 ≠ 0 then (Tk.zero, p.2.2) else
 let q := zi y.ex y.ey (zg y.crs 64800000) 60000
 if q.2.2 ≠ 0 then (Tk.zero, q.2.2) else
 let b := Yg fx fy p.1 p.2.1 q.1 q.2.1 y.ex y.ey
 if b.2.2 ≠ 0 then (Tk.zero, b.2.2) else
 if (YM fx fy p.1 p.2.1 b.1 b.2.1 || decide (BH q.1 q.2.1 y.ex y.ey b.1 b.2.1 ≥ 0)) = true then (Tk.zero, 10) else
 (pX fx fy x.crs b.1 b.2.1, 0)
theorem Dd (n : Nat) : vO n ≤ n := by
 have h := (ux n).1
 rcases Nat.eq_zero_or_pos (vO n) with e | e
 · omega
 · exact Nat.le_trans (Nat.le_mul_of_pos_right _ e) h
theorem dg (n s : Int) : -(n.natAbs : Int) ≤ Yr n s ∧ Yr n s ≤ n.natAbs := by
 have hsq : vO (n * n / s).toNat ≤ n.natAbs := by
  apply Classical.byContradiction
  intro hh
  have h1 := (ux (n * n / s).toNat).1
  have h2 : (n.natAbs + 1) * (n.natAbs + 1) ≤ vO (n * n / s).toNat * vO (n * n / s).toNat := Nat.mul_le_mul (by omega) (by omega)
  have h3 : (n * n / s).toNat ≤ n.natAbs * n.natAbs := by
   have e : n * n = ((n.natAbs * n.natAbs : Nat) : Int) := by rw [Int.natCast_mul]; exact (Int.natAbs_mul_self).symm
   have h4 : n * n / s ≤ n * n := by
    rw [e]
    exact Int.ediv_le_self _ (Int.natCast_nonneg _)
   rw [e] at h4 ⊢
   omega
  have h5 : (n.natAbs + 1) * (n.natAbs + 1) = n.natAbs * n.natAbs + 2 * n.natAbs + 1 := by grind
  omega
 unfold Yr
 split <;> omega
theorem UC {a b k : Int} (ha : -k ≤ a ∧ a ≤ k) (hb : -k ≤ b ∧ b ≤ k) (hk : 0 ≤ k) : -(k * k) ≤ a * b ∧ a * b ≤ k * k := by
 have h : (a * b).natAbs ≤ k.natAbs * k.natAbs := by
  rw [Int.natAbs_mul]
  exact Nat.mul_le_mul (by omega) (by omega)
 have e : ((k.natAbs * k.natAbs : Nat) : Int) = k * k := by rw [Int.natCast_mul]; exact Int.natAbs_mul_self
 have h2 : ((a * b).natAbs : Int) ≤ k * k := by rw [← e]; omega
 omega
theorem De (ax ay bx b_y px py : Int) : (-100000000000000 ≤ (VS ax ay bx b_y px py).1 ∧ (VS ax ay bx b_y px py).1 ≤ 100000000000000) ∧ (-100000000000000 ≤ (VS ax ay bx b_y px py).2.1 ∧ (VS ax ay bx b_y px py).2.1 ≤ 100000000000000) := by
 unfold VS
 split
 · simp
 · rename_i hv
   split
   · simp
   · have hv2 : (qf ax ay = true ∧ qf bx b_y = true) ∧ qf px py = true := by simpa using hv
     have h1 := (Qe _ _).1 hv2.1.1
     have h2 := (Qe _ _).1 hv2.1.2
     have h3 := (Qe _ _).1 hv2.2
     have p1 := UC (a := bx - ax) (b := py - ay) (k := 4000000) (by omega) (by omega) (by omega)
     have p2 := UC (a := b_y - ay) (b := px - ax) (k := 4000000) (by omega) (by omega) (by omega)
     have p3 := UC (a := bx - ax) (b := px - ax) (k := 4000000) (by omega) (by omega) (by omega)
     have p4 := UC (a := b_y - ay) (b := py - ay) (k := 4000000) (by omega) (by omega) (by omega)
     have l1 := dg (-((bx - ax) * (py - ay) - (b_y - ay) * (px - ax))) (jv ax ay bx b_y)
     have l2 := dg ((bx - ax) * (px - ax) + (b_y - ay) * (py - ay)) (jv ax ay bx b_y)
     dsimp only
     generalize Yr (-((bx - ax) * (py - ay) - (b_y - ay) * (px - ax))) (jv ax ay bx b_y) = A at *
     generalize Yr ((bx - ax) * (px - ax) + (b_y - ay) * (py - ay)) (jv ax ay bx b_y) = B at *
     generalize (bx - ax) * (py - ay) = q1 at *
     generalize (b_y - ay) * (px - ax) = q2 at *
     generalize (bx - ax) * (px - ax) = q3 at *
     generalize (b_y - ay) * (py - ay) = q4 at *
     omega
theorem Nx {n g : Int} (hn : 0 ≤ n) (hg : 1 ≤ g) : 0 ≤ jG 1 n g ∧ jG 1 n g ≤ n := by
 have h := JA n g (by omega)
 generalize jG 1 n g = r at *
 constructor
 · apply Classical.byContradiction
   intro hr
   have : r * g ≤ (-1) * g := Int.mul_le_mul_of_nonneg_right (by omega) (by omega)
   omega
 · apply Classical.byContradiction
   intro hr
   have h1 : n * g ≤ (r - 1) * g := Int.mul_le_mul_of_nonneg_right (by omega) (by omega)
   have h2 : n * 1 ≤ n * g := Int.mul_le_mul_of_nonneg_left hg hn
   omega
theorem fQ {a b c : Int} (hn : 0 ≤ a * b) (hn2 : a * b ≤ 1000000000000) (hc : 1 ≤ c) : qM 1 a b c = (jG 1 (a * b) c, 0) := by
 have h := Nx hn hc
 unfold qM
 rw [if_neg (by omega), if_pos (by unfold Zj; rw [decide_eq_true_iff]; omega)]
theorem Pu {alt lo gr : Int} (h : alt < lo) (h1 : -200000 ≤ alt) (h2 : lo ≤ 6000000) (hg : 1 ≤ gr) : qM 1 ((lo - alt) * 6000) 1 gr = (xp alt lo gr, 0) := by
 rw [fQ (by omega) (by omega) hg]
 unfold xp
 rw [if_pos h, Int.mul_one]
theorem fR {alt lo gr : Int} (h1 : -200000 ≤ alt) (h2 : lo ≤ 6000000) (hg : 1 ≤ gr) : 0 ≤ xp alt lo gr ∧ xp alt lo gr ≤ 100000000000 := by
 unfold xp
 split
 · have := Nx (n := (lo - alt) * 6000) (g := gr) (by omega) hg
   omega
 · omega
theorem Yl (ax ay cx cy bx b_y : Int) (right : Bool) : ∃ v0 v1 v2 v3 v4 e0 : Int, jh ax ay cx cy bx b_y right = ([v0, v1, v2, v3, v4], e0) ∧ 0 ≤ v2 ∧ v2 ≤ 6000000 := by
 unfold jh
 split
 · exact ⟨0, 0, 0, 0, 0, 1, rfl, by omega, by omega⟩
 · split
   · exact ⟨0, 0, 0, 0, 0, 10, rfl, by omega, by omega⟩
   · have h := kh cx cy ax ay
     exact ⟨_, _, _, _, _, _, rfl, by omega, by omega⟩
def jP (fx fy : Int) (x : En) : Tk × Int :=
 if (jh fx fy x.mx x.my x.ex x.ey (decide (x.tn = 2))).2 ≠ 0 then (Tk.zero, (jh fx fy x.mx x.my x.ex x.ey (decide (x.tn = 2))).2) else
 match (jh fx fy x.mx x.my x.ex x.ey (decide (x.tn = 2))).1 with
 | [cx, cy, r, f, s] =>
   if r - x.rad > 60 ∨ r - x.rad < -60 then (Tk.zero, 10) else
   if (qI cx cy r f s 0).2.2.2 ≠ 0 then (Tk.zero, (qI cx cy r f s 0).2.2.2) else
   if (qI cx cy r f s (qA cx cy r f s)).2.2.2 ≠ 0 then (Tk.zero, (qI cx cy r f s (qA cx cy r f s)).2.2.2) else
   (⟨2, fx, fy, x.ex, x.ey, cx, cy, r, f, s, (qI cx cy r f s 0).2.2.1, (qI cx cy r f s (qA cx cy r f s)).2.2.1, qA cx cy r f s, 0, false⟩, 0)
 | _ => (Tk.zero, 0)
def uV (ax ay c : Int) : Tk × Int := if (kw ax ay c 300000).2 = 0 then ({ (kw ax ay c 300000).1 with k := 4 }, 0) else kw ax ay c 300000
def yO (c : Int) (x : En) : Tk := ⟨3, x.ex, x.ey, x.ex, x.ey, 0, 0, 0, 0, 0, c, if x.ty = 17 then norm (x.crs + 64800000) else x.crs, 0, 0, false⟩
def vR (fx fy c alt : Int) (x y : En) (gr : Int) : Tk × Int :=
 if x.ty = 1 then (qY x.ex x.ey x.ex x.ey c, 0) else
 if x.ty = 2 ∨ x.ty = 4 then (qY fx fy x.ex x.ey c, 0) else
 if x.ty = 3 then yS fx fy c x else
 if x.ty = 5 ∨ x.ty = 6 then jP fx fy x else
 if x.ty = 7 then yp fx fy alt x gr else
 if x.ty = 11 then yp x.ex x.ey alt x gr else
 if x.ty = 12 then kw x.ex x.ey x.crs x.dst else
 if x.ty = 13 then uV x.ex x.ey x.crs else
 if x.ty = 8 then jX fx fy x else
 if x.ty = 10 then vp fx fy x else
 if x.ty = 9 then yF fx fy x y else (yO c x, 0)
def qg (fx fy c alt : Int) (x y : En) (spd bank oalt gr : Int) : Tk × Int :=
 if vA spd bank oalt gr ≠ 0 then (Tk.zero, vA spd bank oalt gr) else
 if x.gap = true then (Tk.zero, 17) else
 if jn x ≠ 0 then (Tk.zero, jn x) else
 if (qf fx fy && qf x.ex x.ey && qf x.mx x.my) = false then (Tk.zero, 1) else
 if c < 0 ∨ c ≥ 129600000 ∨ alt < -200000 ∨ alt > 6000000 then (Tk.zero, 2) else vR fx fy c alt x y gr
theorem di {n lo hi : Int} {u : Bool} (h : yg n u lo hi = 0) : (u = true → lo ≤ n ∧ n ≤ hi) ∧ (u = false → n = 0) := by
 unfold yg at h
 rcases u with _ | _
 · refine ⟨(fun h => by cases h), fun _ => ?_⟩
   apply Classical.byContradiction
   intro hn
   rw [if_neg (by simp), if_neg hn] at h
   cases h
 · refine ⟨fun _ => ?_, (fun h => by cases h)⟩
   apply Classical.byContradiction
   intro hn
   rw [if_pos rfl, if_pos (by omega)] at h
   cases h
theorem Jf {n lo hi : Int} {u : Bool} (h : yg n u lo hi = 0) (hlo : lo ≤ 1) (hlo2 : 0 ≤ lo) (hhi : 1 ≤ hi) : 0 ≤ n ∧ n ≤ hi := by
 have h1 := di h
 rcases u with _ | _
 · have := h1.2 rfl
   omega
 · have := h1.1 rfl
   omega
theorem vq {x : En} (h : jn x = 0) : (1 ≤ x.ty ∧ x.ty ≤ 17) ∧ (0 ≤ x.crs ∧ x.crs ≤ 129599999) ∧ (0 ≤ x.dst ∧ x.dst ≤ 2000000) ∧ (0 ≤ x.rad ∧ x.rad ≤ 2000000) ∧ (0 ≤ x.tht ∧ x.tht ≤ 129599999) ∧
 (-200000 ≤ x.lo ∧ x.lo ≤ x.hi ∧ x.hi ≤ 6000000) ∧ (zn x.ty 2 = true → x.tn = 1 ∨ x.tn = 2) := by
 have r : 1 ≤ x.ty ∧ x.ty ≤ 17 := by
  apply Classical.byContradiction
  intro hn
  unfold jn at h
  rw [if_pos (by omega)] at h
  cases h
 obtain ⟨r1, r2⟩ := r
 have a1 : (vo x.fx (zn x.ty 0) != 0) = false := by
  rcases hh : (vo x.fx (zn x.ty 0) != 0) with _ | _
  · rfl
  · have := Nn r1 r2 hh
    exact absurd (this.symm.trans h) (jO hh)
 have a2 : (vo x.ct (zn x.ty 1) != 0) = false := by
  rcases hh : (vo x.ct (zn x.ty 1) != 0) with _ | _
  · rfl
  · have := Np r1 r2 a1 hh
    exact absurd (this.symm.trans h) (jO hh)
 have a3 : (if zn x.ty 2 then decide (x.tn = 1) || decide (x.tn = 2) else decide (x.tn = 0)) = true := by
  rcases hh : (if zn x.ty 2 then decide (x.tn = 1) || decide (x.tn = 2) else decide (x.tn = 0)) with _ | _
  · have := Nq r1 r2 a1 a2 hh
    omega
  · rfl
 have a4 : (x.ov && !zn x.ty 3) = false := by
  rcases hh : (x.ov && !zn x.ty 3) with _ | _
  · rfl
  · have := Ns r1 r2 a1 a2 a3 hh
    omega
 have a5 : (yg x.crs (zn x.ty 4) 0 129599999 != 0) = false := by
  rcases hh : (yg x.crs (zn x.ty 4) 0 129599999 != 0) with _ | _
  · rfl
  · have := Nt r1 r2 a1 a2 a3 a4 hh
    exact absurd (this.symm.trans h) (jO hh)
 have a6 : (yg x.dst (zn x.ty 5) 1 2000000 != 0) = false := by
  rcases hh : (yg x.dst (zn x.ty 5) 1 2000000 != 0) with _ | _
  · rfl
  · have := Nu r1 r2 a1 a2 a3 a4 a5 hh
    exact absurd (this.symm.trans h) (jO hh)
 have a7 : (yg x.rad (zn x.ty 6) 1 2000000 != 0) = false := by
  rcases hh : (yg x.rad (zn x.ty 6) 1 2000000 != 0) with _ | _
  · rfl
  · have := Nv r1 r2 a1 a2 a3 a4 a5 a6 hh
    exact absurd (this.symm.trans h) (jO hh)
 have a8 : (yg x.tht (zn x.ty 7) 0 129599999 != 0) = false := by
  rcases hh : (yg x.tht (zn x.ty 7) 0 129599999 != 0) with _ | _
  · rfl
  · have := Nw r1 r2 a1 a2 a3 a4 a5 a6 a7 hh
    exact absurd (this.symm.trans h) (jO hh)
 have a9 := Tv r1 r2 a1 a2 a3 a4 a5 a6 a7 a8
 rw [h] at a9
 have z : ∀ {a : Int}, (a != 0) = false → a = 0 := fun h => by simpa using h
 refine ⟨⟨r1, r2⟩, Jf (z a5) (by omega) (by omega) (by omega), Jf (z a6) (by omega) (by omega) (by omega), Jf (z a7) (by omega) (by omega) (by omega), Jf (z a8) (by omega) (by omega) (by omega), ?_, ?_⟩
 · unfold pW at a9
   split at a9
   · cases a9
   · omega
 · intro hu
   rw [hu, if_pos rfl] at a3
   simpa using a3
theorem vu {s b a g : Int} (h : vA s b a g = 0) : (1 ≤ s ∧ s ≤ 1000) ∧ (1 ≤ b ∧ b ≤ 3000) ∧ (-200000 ≤ a ∧ a ≤ 6000000) ∧ (1 ≤ g ∧ g ≤ 100000) := by
 unfold vA at h
 split at h
 · cases h
 · omega
end Go.Proofs.YteanfgobpjdmnaaGreatDoor
