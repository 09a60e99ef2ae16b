/-
  Chapters 16 and 25 as plain functions: references, legs, tracks. A result with an error code ends in the code. No program.
-/
import Derived.Test.YtjjdojokkmfbmaaGreatDoorMPlain
import Derived.ProofKit
namespace Go.Proofs.YtjjdojokkmfbmaaGreatDoor
set_option linter.unusedVariables false
/-! ### references -/
def alnum (c : UInt8) : Bool := (decide (65 ≤ (c.toNat : Int)) && decide ((c.toNat : Int) ≤ 90)) || (decide (48 ≤ (c.toNat : Int)) && decide ((c.toNat : Int) ≤ 57))
def nameL (l : List UInt8) (most : Int) : Bool :=
  match l with
  | [] => false
  | c :: r => decide (((c :: r).length : Int) ≤ most) && (decide (65 ≤ (c.toNat : Int)) && decide ((c.toNat : Int) ≤ 90)) && (c :: r).all alnum
def shortL (l : List UInt8) : Bool := decide (l.length = 2) && l.all alnum
/-- the parts ahead of and behind the first byte of a kind -/
def cutL (b : UInt8) : List UInt8 → Option (List UInt8 × List UInt8)
  | [] => none
  | c :: l => if c = b then some ([], l) else (cutL b l).map fun p => (c :: p.1, p.2)
def refL (l : List UInt8) : Bool :=
  match cutL 47 l with
  | none => false
  | some (a, b) => nameL a 6 && (nameL b 6 || shortL b)
/-! ### legs -/
structure En where
  (gap : Bool) (ty : Int) (fx ct : ByteArray) (tn : Int) (ov : Bool) (crs dst rad tht lo hi spd rnp ex ey mx my sec : Int) (via : ByteArray)
def En.leg (x : En) : List Value := [.int .u8 x.ty, .string x.fx, .string x.ct, .int .u8 x.tn, .bool x.ov, .int .i64 x.crs, .int .i64 x.dst, .int .i64 x.rad, .int .i64 x.tht, .int .i64 x.lo, .int .i64 x.hi, .int .i64 x.spd, .int .i64 x.rnp]
def En.cells (x : En) : List Value := [.bool x.gap, .int .u8 x.ty, .string x.fx, .string x.ct, .int .u8 x.tn, .bool x.ov, .int .i64 x.crs, .int .i64 x.dst, .int .i64 x.rad, .int .i64 x.tht, .int .i64 x.lo, .int .i64 x.hi, .int .i64 x.spd, .int .i64 x.rnp, .int .i64 x.ex, .int .i64 x.ey, .int .i64 x.mx, .int .i64 x.my, .int .u8 x.sec, .string x.via]
def usesT : List Int := [0, 1, 9, 25, 9, 71, 71, 16, 50, 16, 146, 17, 49, 17, 53, 53, 53, 53]
/-- may a leg of the type use the field? -/
def useB (t : Int) (m : Nat) : Bool := (usesT.getD t.toNat 0).toNat.testBit m
def refE (s : ByteArray) (used : Bool) : Int := if used then (if refL s.data.toList then 0 else 5) else if s.data.toList = [] then 0 else 1
def numE (n : Int) (used : Bool) (lo hi : Int) : Int := if used then (if n < lo ∨ n > hi then 2 else 0) else if n = 0 then 0 else 1
def climbs (t : Int) : Bool := decide (t = 7 ∨ t = 11 ∨ t = 14)
def altE (x : En) : Int := if x.lo < -200000 ∨ x.lo > x.hi ∨ x.hi > 6000000 then 2 else if climbs x.ty = true ∧ x.lo = -200000 then 2 else if x.spd < 0 ∨ x.spd > 1000 ∨ x.rnp < 0 ∨ x.rnp > 120000 then 2 else 0
def legF (x : En) : Int :=
  if x.ty < 1 ∨ x.ty > 17 then 17 else
  if refE x.fx (useB x.ty 0) ≠ 0 then refE x.fx (useB x.ty 0) else
  if refE x.ct (useB x.ty 1) ≠ 0 then refE x.ct (useB x.ty 1) else
  if (if useB x.ty 2 then decide (x.tn = 1) || decide (x.tn = 2) else decide (x.tn = 0)) = false then 1 else
  if (x.ov && !useB x.ty 3) = true then 1 else
  if numE x.crs (useB x.ty 4) 0 129599999 ≠ 0 then numE x.crs (useB x.ty 4) 0 129599999 else
  if numE x.dst (useB x.ty 5) 1 2000000 ≠ 0 then numE x.dst (useB x.ty 5) 1 2000000 else
  if numE x.rad (useB x.ty 6) 1 2000000 ≠ 0 then numE x.rad (useB x.ty 6) 1 2000000 else
  if numE x.tht (useB x.ty 7) 0 129599999 ≠ 0 then numE x.tht (useB x.ty 7) 0 129599999 else altE x
theorem bne_t {a : Int} (h : (a != 0) = true) : a ≠ 0 := by simpa using h
theorem bne_f {a : Int} (h : (a != 0) = false) : ¬ a ≠ 0 := by simpa using h
theorem legL1 {x : En} (r1 : 1 ≤ x.ty) (r2 : x.ty ≤ 17) (h : (refE x.fx (useB x.ty 0) != 0) = true) : legF x = refE x.fx (useB x.ty 0) := by
  unfold legF
  rw [if_neg (by omega), if_pos (bne_t h)]
theorem legL2 {x : En} (r1 : 1 ≤ x.ty) (r2 : x.ty ≤ 17) (a0 : (refE x.fx (useB x.ty 0) != 0) = false) (h : (refE x.ct (useB x.ty 1) != 0) = true) : legF x = refE x.ct (useB x.ty 1) := by
  unfold legF
  rw [if_neg (by omega), if_neg (bne_f a0), if_pos (bne_t h)]
theorem legL3 {x : En} (r1 : 1 ≤ x.ty) (r2 : x.ty ≤ 17) (a0 : (refE x.fx (useB x.ty 0) != 0) = false) (a1 : (refE x.ct (useB x.ty 1) != 0) = false) (h : (if useB x.ty 2 then decide (x.tn = 1) || decide (x.tn = 2) else decide (x.tn = 0)) = false) : legF x = 1 := by
  unfold legF
  rw [if_neg (by omega), if_neg (bne_f a0), if_neg (bne_f a1), if_pos h]
theorem legL4 {x : En} (r1 : 1 ≤ x.ty) (r2 : x.ty ≤ 17) (a0 : (refE x.fx (useB x.ty 0) != 0) = false) (a1 : (refE x.ct (useB x.ty 1) != 0) = false) (a2 : (if useB x.ty 2 then decide (x.tn = 1) || decide (x.tn = 2) else decide (x.tn = 0)) = true) (h : (x.ov && !useB x.ty 3) = true) : legF x = 1 := by
  unfold legF
  rw [if_neg (by omega), if_neg (bne_f a0), if_neg (bne_f a1), if_neg (by rw [a2]; simp), if_pos h]
theorem legL5 {x : En} (r1 : 1 ≤ x.ty) (r2 : x.ty ≤ 17) (a0 : (refE x.fx (useB x.ty 0) != 0) = false) (a1 : (refE x.ct (useB x.ty 1) != 0) = false) (a2 : (if useB x.ty 2 then decide (x.tn = 1) || decide (x.tn = 2) else decide (x.tn = 0)) = true) (a3 : (x.ov && !useB x.ty 3) = false) (h : (numE x.crs (useB x.ty 4) 0 129599999 != 0) = true) : legF x = numE x.crs (useB x.ty 4) 0 129599999 := by
  unfold legF
  rw [if_neg (by omega), if_neg (bne_f a0), if_neg (bne_f a1), if_neg (by rw [a2]; simp), if_neg (by rw [a3]; simp), if_pos (bne_t h)]
theorem legL6 {x : En} (r1 : 1 ≤ x.ty) (r2 : x.ty ≤ 17) (a0 : (refE x.fx (useB x.ty 0) != 0) = false) (a1 : (refE x.ct (useB x.ty 1) != 0) = false) (a2 : (if useB x.ty 2 then decide (x.tn = 1) || decide (x.tn = 2) else decide (x.tn = 0)) = true) (a3 : (x.ov && !useB x.ty 3) = false) (a4 : (numE x.crs (useB x.ty 4) 0 129599999 != 0) = false) (h : (numE x.dst (useB x.ty 5) 1 2000000 != 0) = true) : legF x = numE x.dst (useB x.ty 5) 1 2000000 := by
  unfold legF
  rw [if_neg (by omega), if_neg (bne_f a0), if_neg (bne_f a1), if_neg (by rw [a2]; simp), if_neg (by rw [a3]; simp), if_neg (bne_f a4), if_pos (bne_t h)]
theorem legL7 {x : En} (r1 : 1 ≤ x.ty) (r2 : x.ty ≤ 17) (a0 : (refE x.fx (useB x.ty 0) != 0) = false) (a1 : (refE x.ct (useB x.ty 1) != 0) = false) (a2 : (if useB x.ty 2 then decide (x.tn = 1) || decide (x.tn = 2) else decide (x.tn = 0)) = true) (a3 : (x.ov && !useB x.ty 3) = false) (a4 : (numE x.crs (useB x.ty 4) 0 129599999 != 0) = false) (a5 : (numE x.dst (useB x.ty 5) 1 2000000 != 0) = false) (h : (numE x.rad (useB x.ty 6) 1 2000000 != 0) = true) : legF x = numE x.rad (useB x.ty 6) 1 2000000 := by
  unfold legF
  rw [if_neg (by omega), if_neg (bne_f a0), if_neg (bne_f a1), if_neg (by rw [a2]; simp), if_neg (by rw [a3]; simp), if_neg (bne_f a4), if_neg (bne_f a5), if_pos (bne_t h)]
theorem legL8 {x : En} (r1 : 1 ≤ x.ty) (r2 : x.ty ≤ 17) (a0 : (refE x.fx (useB x.ty 0) != 0) = false) (a1 : (refE x.ct (useB x.ty 1) != 0) = false) (a2 : (if useB x.ty 2 then decide (x.tn = 1) || decide (x.tn = 2) else decide (x.tn = 0)) = true) (a3 : (x.ov && !useB x.ty 3) = false) (a4 : (numE x.crs (useB x.ty 4) 0 129599999 != 0) = false) (a5 : (numE x.dst (useB x.ty 5) 1 2000000 != 0) = false) (a6 : (numE x.rad (useB x.ty 6) 1 2000000 != 0) = false) (h : (numE x.tht (useB x.ty 7) 0 129599999 != 0) = true) : legF x = numE x.tht (useB x.ty 7) 0 129599999 := by
  unfold legF
  rw [if_neg (by omega), if_neg (bne_f a0), if_neg (bne_f a1), if_neg (by rw [a2]; simp), if_neg (by rw [a3]; simp), if_neg (bne_f a4), if_neg (bne_f a5), if_neg (bne_f a6), if_pos (bne_t h)]
theorem legL9 {x : En} (r1 : 1 ≤ x.ty) (r2 : x.ty ≤ 17) (a0 : (refE x.fx (useB x.ty 0) != 0) = false) (a1 : (refE x.ct (useB x.ty 1) != 0) = false) (a2 : (if useB x.ty 2 then decide (x.tn = 1) || decide (x.tn = 2) else decide (x.tn = 0)) = true) (a3 : (x.ov && !useB x.ty 3) = false) (a4 : (numE x.crs (useB x.ty 4) 0 129599999 != 0) = false) (a5 : (numE x.dst (useB x.ty 5) 1 2000000 != 0) = false) (a6 : (numE x.rad (useB x.ty 6) 1 2000000 != 0) = false) (a7 : (numE x.tht (useB x.ty 7) 0 129599999 != 0) = false) : legF x = altE x := by
  unfold legF
  rw [if_neg (by omega), if_neg (bne_f a0), if_neg (bne_f a1), if_neg (by rw [a2]; simp), if_neg (by rw [a3]; simp), if_neg (bne_f a4), if_neg (bne_f a5), if_neg (bne_f a6), if_neg (bne_f a7)]
/-! ### tracks -/
structure Tk where
  (k ax ay bx b_y cx cy r f s ci co len n : Int) (g : Bool)
def Tk.cells (t : Tk) : List Value := [.int .u8 t.k, .int .i64 t.ax, .int .i64 t.ay, .int .i64 t.bx, .int .i64 t.b_y, .int .i64 t.cx, .int .i64 t.cy, .int .i64 t.r, .int .i64 t.f, .int .i64 t.s, .int .i64 t.ci, .int .i64 t.co, .int .i64 t.len, .int .i64 t.n, .bool t.g]
def Tk.zero : Tk := ⟨0, 0, 0, 0, 0, 0, 0, 0, 0, 0, 0, 0, 0, 0, false⟩
def tkS (k ax ay bx b_y c d : Int) : Tk := ⟨k, ax, ay, bx, b_y, 0, 0, 0, 0, 0, c, c, d, 0, false⟩
def straightF (ax ay bx b_y c : Int) : Tk := if ax = bx ∧ ay = b_y then tkS 1 ax ay bx b_y c 0 else tkS 1 ax ay bx b_y (courseF ax ay bx b_y).1 (distF ax ay bx b_y)
/-- the length of the straight track between two points -/
def lenS (ax ay bx b_y : Int) : Int := if ax = bx ∧ ay = b_y then 0 else distF ax ay bx b_y
theorem straight_co (ax ay bx b_y c k : Int) : { straightF ax ay bx b_y c with ci := k, co := k } = tkS 1 ax ay bx b_y k (lenS ax ay bx b_y) := by
  unfold straightF lenS
  split <;> rfl
def rayT (ax ay c l : Int) : Tk × Int :=
  if (rayF ax ay c l).2.2 = 0 then (tkS 1 ax ay (rayF ax ay c l).1 (rayF ax ay c l).2.1 c l, 0) else (Tk.zero, (rayF ax ay c l).2.2)
theorem ret_tk {cs : List Value} {e : Int} {t : Tk} {p : Tk × Int} (hp : p = (t, e)) (hc : cs = t.cells) : Ending.returned (.tuple #[.agg cs.toArray, .int .i64 e]) = .returned (.tuple #[.agg p.1.cells.toArray, .int .i64 p.2]) := by subst hc hp; rfl
def optE (spd bank alt gr : Int) : Int := if spd < 1 ∨ spd > 1000 ∨ bank < 1 ∨ bank > 3000 ∨ alt < -200000 ∨ alt > 6000000 ∨ gr < 1 ∨ gr > 100000 then 2 else 0
def beforeB (ax ay bx b_y px py : Int) : Bool := decide ((offF ax ay bx b_y px py).2.1 < 0)
def untilT (ax ay c bx b_y : Int) : Tk := tkS 1 ax ay bx b_y c (distF ax ay bx b_y)
/-- a CF -/
def toFixT (fx fy c : Int) (x : En) : Tk × Int :=
  let q := rayF x.ex x.ey (x.crs + 64800000) 60000
  if q.2.2 ≠ 0 then (Tk.zero, q.2.2) else
  if aheadF q.1 q.2.1 x.ex x.ey fx fy ≥ 0 then (Tk.zero, 10) else
  let o := offF q.1 q.2.1 x.ex x.ey fx fy
  if o.2.2 ≠ 0 then (Tk.zero, o.2.2) else
  if o.1 ≥ -8 ∧ o.1 ≤ 8 then (straightF fx fy x.ex x.ey c, 0) else
  let p := footF q.1 q.2.1 x.ex x.ey fx fy
  if p.2.2 ≠ 0 then (Tk.zero, p.2.2) else
  (tkS 1 p.1 p.2.1 x.ex x.ey x.crs (lenS p.1 p.2.1 x.ex x.ey), 0)
/-- a CA or FA -/
def climbN (alt lo gr : Int) : Int := if alt < lo then rnd 1 ((lo - alt) * 6000) gr else 0
def climbT (fx fy alt : Int) (x : En) (gr : Int) : Tk × Int := if climbN alt x.lo gr > 8000000 then (Tk.zero, 2) else rayT fx fy x.crs (climbN alt x.lo gr)
/-- a CD -/
def toDistT (fx fy : Int) (x : En) : Tk × Int :=
  let p := rayF fx fy x.crs 60000
  if p.2.2 ≠ 0 then (Tk.zero, p.2.2) else
  let o := offF fx fy p.1 p.2.1 x.mx x.my
  if o.2.2 ≠ 0 then (Tk.zero, o.2.2) else
  if o.1 > x.dst ∨ o.1 < -x.dst then (Tk.zero, 10) else
  if ¬ (o.2.1 - isq (x.dst * x.dst - o.1 * o.1).toNat < 0) then rayT fx fy x.crs (o.2.1 - isq (x.dst * x.dst - o.1 * o.1).toNat) else
  if o.2.1 + isq (x.dst * x.dst - o.1 * o.1).toNat < 0 then (Tk.zero, 10) else rayT fx fy x.crs (o.2.1 + isq (x.dst * x.dst - o.1 * o.1).toNat)
/-- a CR -/
def toRadT (fx fy : Int) (x : En) : Tk × Int :=
  let p := rayF fx fy x.crs 60000
  if p.2.2 ≠ 0 then (Tk.zero, p.2.2) else
  let r := rayF x.mx x.my x.tht 60000
  if r.2.2 ≠ 0 then (Tk.zero, r.2.2) else
  let b := meetF fx fy p.1 p.2.1 x.mx x.my r.1 r.2.1
  if b.2.2 ≠ 0 then (Tk.zero, b.2.2) else
  if (beforeB fx fy p.1 p.2.1 b.1 b.2.1 || beforeB x.mx x.my r.1 r.2.1 b.1 b.2.1) = true then (Tk.zero, 10) else
  (untilT fx fy x.crs b.1 b.2.1, 0)
/-- a CI -/
def interT (fx fy : Int) (x y : En) : Tk × Int :=
  if y.gap = true ∨ y.ty ≠ 3 then (Tk.zero, 10) else
  let p := rayF fx fy x.crs 60000
  if p.2.2 ≠ 0 then (Tk.zero, p.2.2) else
  let q := rayF y.ex y.ey (turnF y.crs 64800000) 60000
  if q.2.2 ≠ 0 then (Tk.zero, q.2.2) else
  let b := meetF fx fy p.1 p.2.1 q.1 q.2.1 y.ex y.ey
  if b.2.2 ≠ 0 then (Tk.zero, b.2.2) else
  if (beforeB fx fy p.1 p.2.1 b.1 b.2.1 || decide (aheadF q.1 q.2.1 y.ex y.ey b.1 b.2.1 ≥ 0)) = true then (Tk.zero, 10) else
  (untilT fx fy x.crs b.1 b.2.1, 0)
end Go.Proofs.YtjjdojokkmfbmaaGreatDoor
