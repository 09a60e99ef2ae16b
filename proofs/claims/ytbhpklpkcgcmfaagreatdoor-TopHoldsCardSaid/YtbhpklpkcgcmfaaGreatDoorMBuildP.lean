/-
  Chapter 26 and 27 as plain functions: patterns, turns that are flown by or over, how a path is built out of tracks. No program.
-/
import Derived.Test.YtbhpklpkcgcmfaaGreatDoorMPlanP1
import Derived.Test.YtbhpklpkcgcmfaaGreatDoorMSeqP
namespace Go.Proofs.YtbhpklpkcgcmfaaGreatDoor
set_option linter.unusedVariables false
def qtr (tn : Int) : Int := if tn = 2 then 32400000 else -32400000
def holdW (course inb tn : Int) : Int := if tn = 2 then norm (norm (norm inb + 64800000) - norm course) else norm (norm course - norm (norm inb + 64800000))
structure Shp where
 (x1 y1 x2 y2 x3 y3 cx cy dx dy : Int)
def shpU (inb tn : Int) : Int := inb + qtr tn
def shpE (fx fy inb tn leg rad : Int) : Int :=
 if (vldB fx fy && (decide (tn = 1) || decide (tn = 2))) = false then 1 else
 if inb < 0 ∨ inb ≥ 129600000 ∨ leg < 1 ∨ leg > 2000000 ∨ rad < 1 ∨ rad > 2000000 then 2 else
 if ((rayF fx fy (shpU inb tn) rad).2.2 = 0 ∧ (rayF fx fy (shpU inb tn) (2 * rad)).2.2 = 0 ∧ (rayF fx fy (inb + 64800000) leg).2.2 = 0 ∧
  vldB ((rayF fx fy (shpU inb tn) (2 * rad)).1 + (rayF fx fy (inb + 64800000) leg).1 - fx) ((rayF fx fy (shpU inb tn) (2 * rad)).2.1 + (rayF fx fy (inb + 64800000) leg).2.1 - fy) = true ∧
  vldB ((rayF fx fy (shpU inb tn) rad).1 + (rayF fx fy (inb + 64800000) leg).1 - fx) ((rayF fx fy (shpU inb tn) rad).2.1 + (rayF fx fy (inb + 64800000) leg).2.1 - fy) = true) then 0 else 2
def shpF (fx fy inb tn leg rad : Int) : Shp :=
 ⟨(rayF fx fy (shpU inb tn) (2 * rad)).1, (rayF fx fy (shpU inb tn) (2 * rad)).2.1,
  (rayF fx fy (shpU inb tn) (2 * rad)).1 + (rayF fx fy (inb + 64800000) leg).1 - fx, (rayF fx fy (shpU inb tn) (2 * rad)).2.1 + (rayF fx fy (inb + 64800000) leg).2.1 - fy,
  (rayF fx fy (inb + 64800000) leg).1, (rayF fx fy (inb + 64800000) leg).2.1,
  (rayF fx fy (shpU inb tn) rad).1, (rayF fx fy (shpU inb tn) rad).2.1,
  (rayF fx fy (shpU inb tn) rad).1 + (rayF fx fy (inb + 64800000) leg).1 - fx, (rayF fx fy (shpU inb tn) rad).2.1 + (rayF fx fy (inb + 64800000) leg).2.1 - fy⟩
def lnE (ax ay bx b_y : Int) : El := ⟨false, ax, ay, bx, b_y, 0, 0, 0, 0, 0, distF ax ay bx b_y, 0, false⟩
def arE (ax ay bx b_y cx cy rad f s : Int) : El := ⟨true, ax, ay, bx, b_y, cx, cy, rad, norm f, s, arcLen cx cy rad (norm f) s, 0, false⟩
def patE (fx fy inb tn leg rad : Int) : List El :=
 let s := shpF fx fy inb tn leg rad
 [arE fx fy s.x1 s.y1 s.cx s.cy rad (shpU inb tn + 64800000) (2 * qtr tn), lnE s.x1 s.y1 s.x2 s.y2, arE s.x2 s.y2 s.x3 s.y3 s.dx s.dy rad (shpU inb tn) (2 * qtr tn), lnE s.x3 s.y3 fx fy]
def entE (w fx fy inb tn leg rad : Int) : List El :=
 let s := shpF fx fy inb tn leg rad
 if w < 25200000 then [lnE fx fy s.x2 s.y2, arE s.x2 s.y2 s.x3 s.y3 s.dx s.dy rad (shpU inb tn) (2 * qtr tn), lnE s.x3 s.y3 fx fy] else
 if w ≥ 90000000 then [lnE fx fy s.x3 s.y3, arE s.x3 s.y3 s.x2 s.y2 s.dx s.dy rad (shpU inb tn + 64800000) (-(2 * qtr tn)), lnE s.x2 s.y2 fx fy] else []
def revV (crs tn : Int) : Int := crs + (qtr tn).tdiv 2
def revN (crs tn : Int) : Int := revV crs tn - qtr tn
def revE (fx fy crs tn dst rad : Int) : Int × List El :=
 if (vldB fx fy && (decide (tn = 1) || decide (tn = 2))) = false then (1, []) else
 if crs < 0 ∨ crs ≥ 129600000 ∨ dst < 1 ∨ dst > 2000000 ∨ rad < 1 ∨ rad > 666666 then (2, []) else
 let q := rayF fx fy crs dst
 let s := rayF q.1 q.2.1 (revV crs tn) (3 * rad)
 let c := rayF s.1 s.2.1 (revN crs tn) rad
 let t := rayF s.1 s.2.1 (revN crs tn) (2 * rad)
 let m := rayF q.1 q.2.1 crs (rnd 2 (2 * rad * 1414213562) 1000000000)
 if q.2.2 = 0 ∧ s.2.2 = 0 ∧ c.2.2 = 0 ∧ t.2.2 = 0 ∧ m.2.2 = 0 then
  (0, [lnE fx fy q.1 q.2.1, lnE q.1 q.2.1 s.1 s.2.1, arE s.1 s.2.1 t.1 t.2.1 c.1 c.2.1 rad (revN crs tn + 64800000) (-(2 * qtr tn)), lnE t.1 t.2.1 m.1 m.2.1, lnE m.1 m.2.1 fx fy]) else (2, [])
structure Dw where
 els : List El
 px : Int
 py : Int
 gp : Bool
def addW (d : Dw) (x : El) : Dw := ⟨d.els ++ [{ x with g := d.gp }], x.bx, x.b_y, false⟩
def lineW (d : Dw) (qx qy n : Int) : Dw := if d.px = qx ∧ d.py = qy then d else addW d ⟨false, d.px, d.py, qx, qy, 0, 0, 0, 0, 0, distF d.px d.py qx qy, n, false⟩
def arcD (d : Dw) (cx cy r f s qx qy n : Int) : Dw := if 1 ≤ arcLen cx cy r f s then addW d ⟨true, d.px, d.py, qx, qy, cx, cy, r, f, s, arcLen cx cy r f s, n, false⟩ else lineW d qx qy n
def allW (n : Int) : Dw → List El → Dw
 | d, [] => d
 | d, x :: r => allW n (if 1 ≤ x.L then addW d { x with n := n } else d) r
def limT (x y : Tk) : Int := min (x.len.tdiv 2) (y.len.tdiv 2)
def fbRad (rad D lim : Int) : Option Int :=
 if D = 0 ∨ 54000000 < (D.natAbs : Int) then none else
 if lim < leadF rad D then (if rad * lim / leadF rad D < 600 then none else some (rad * lim / leadF rad D)) else some rad
theorem fb_lt {rad lim lead : Int} (hr : 1 ≤ rad) (h0 : 0 ≤ lim) (h : lim < lead) : 0 ≤ rad * lim / lead ∧ rad * lim / lead < rad := by
 have hl : 0 < lead := by omega
 have h1 : rad * lim < rad * lead := Int.mul_lt_mul_of_pos_left h (by omega)
 exact ⟨Int.ediv_nonneg (Int.mul_nonneg (by omega) h0) (by omega), Int.ediv_lt_of_lt_mul hl (by rw [Int.mul_comm] at h1; rw [Int.mul_comm rad lead] at h1; rw [Int.mul_comm rad lim]; rw [Int.mul_comm rad lead]; exact h1)⟩
def fbDraw (d : Dw) (xn yn : Int) (F : List Int) : Option Dw :=
 match F with
 | [cx, cy, r, f, s, ax, ay, bx, b_y, _] =>
   if (arcAt cx cy r f (s.tdiv 2) (arcLen cx cy r f (s.tdiv 2))).2.2.2 ≠ 0 then none else
   some (arcD (arcD (lineW d ax ay xn) cx cy r f (s.tdiv 2) (arcAt cx cy r f (s.tdiv 2) (arcLen cx cy r f (s.tdiv 2))).1 (arcAt cx cy r f (s.tdiv 2) (arcLen cx cy r f (s.tdiv 2))).2.1 xn) cx cy r (norm (f + s.tdiv 2)) (s - s.tdiv 2) bx b_y yn)
 | _ => none
def fbT (rad : Int) (d : Dw) (x y : Tk) : Option Dw :=
 match fbRad rad (diffF (courseF x.ax x.ay x.bx x.b_y).1 (courseF y.ax y.ay y.bx y.b_y).1) (limT x y) with
 | none => none
 | some r =>
   if (flyF x.ax x.ay x.bx x.b_y y.bx y.b_y r).2 ≠ 0 ∨ (flyF x.ax x.ay x.bx x.b_y y.bx y.b_y r).1.getD 9 0 = 0 ∨ limT x y < (flyF x.ax x.ay x.bx x.b_y y.bx y.b_y r).1.getD 9 0 then none else
   fbDraw d x.n y.n (flyF x.ax x.ay x.bx x.b_y y.bx y.b_y r).1
def foDir (co D : Int) : Int := co + if 0 < D then 32400000 else -32400000
def foT (rad : Int) (d : Dw) (x y : Tk) : Option (Dw × Tk) :=
 let D := diffF x.co y.ci
 let right := decide (0 < D)
 let c := rayF x.bx x.b_y (foDir x.co D) rad
 let t := tanF c.1 c.2.1 rad y.bx y.b_y right
 if D = 0 then none else if c.2.2 ≠ 0 then none else if t.2.2 ≠ 0 then none else
 if (aroundF x.bx x.b_y c.1 c.2.1 t.1 t.2.1 right).2 ≠ 0 then none else
 match (aroundF x.bx x.b_y c.1 c.2.1 t.1 t.2.1 right).1 with
 | [cx, cy, r, f, s] =>
   some (arcD (lineW d x.bx x.b_y x.n) cx cy r f s t.1 t.2.1 y.n,
    if t.1 = y.bx ∧ t.2.1 = y.b_y then { y with ax := t.1, ay := t.2.1, co := y.ci, len := 0 }
    else { y with ax := t.1, ay := t.2.1, ci := (courseF t.1 t.2.1 y.bx y.b_y).1, co := (courseF t.1 t.2.1 y.bx y.b_y).1, len := distF t.1 t.2.1 y.bx y.b_y })
 | _ => none
def trT (rad : Int) (d : Dw) (lx ly : En) (x y : Tk) : Option (Dw × Tk) :=
 if x.k ≠ 1 ∨ y.k ≠ 1 ∨ x.len < 1 ∨ y.len < 1 ∨ ¬ (y.ax = x.bx ∧ y.ay = x.b_y) then none else
 if lx.ov = true then (if ly.ty = 4 then foT rad d x y else none) else
 if lx.ty = 7 ∨ lx.ty = 8 ∨ lx.ty = 9 ∨ lx.ty = 10 ∨ lx.ty = 11 ∨ lx.ty = 12 then none else
 (fbT rad d x y).map (fun d' => (d', y))
def paT (rad : Int) (d : Dw) (lx : En) (x : Tk) : Int × Dw :=
 if lx.ty = 17 then ((revE x.ax x.ay lx.crs lx.tn lx.dst rad).1, allW x.n d (revE x.ax x.ay lx.crs lx.tn lx.dst rad).2) else
 if shpE x.ax x.ay lx.crs lx.tn lx.dst rad ≠ 0 then (shpE x.ax x.ay lx.crs lx.tn lx.dst rad, d) else
 (0, allW x.n d (entE (holdW x.ci lx.crs lx.tn) x.ax x.ay lx.crs lx.tn lx.dst rad ++ patE x.ax x.ay lx.crs lx.tn lx.dst rad))
def lgAt (l : List En) (x : Tk) : En := (l[x.n.toNat]?).getD gapE
def penW (l : List En) (first done : Bool) (d : Dw) (x : Tk) : Dw :=
 let d1 := if x.g = true ∨ (first = true ∧ (lgAt l x).ty = 1) then { d with px := x.ax, py := x.ay, gp := x.g && !d.els.isEmpty } else d
 if done = true then d1 else lineW d1 x.ax x.ay x.n
def buildG (l : List En) (rad : Int) : Bool → Bool → Dw → Tk → List Tk → Dw × Int × Int
 | first, done, d, x, [] =>
   if x.k = 2 then (arcD (penW l first done d x) x.cx x.cy x.r x.f x.s x.bx x.b_y x.n, 0, 0) else
   if x.k = 3 then (if (paT rad (penW l first done d x) (lgAt l x) x).1 ≠ 0 then (d, x.n, (paT rad (penW l first done d x) (lgAt l x) x).1) else ((paT rad (penW l first done d x) (lgAt l x) x).2, 0, 0)) else
   (lineW (penW l first done d x) x.bx x.b_y x.n, 0, 0)
 | first, done, d, x, y :: r =>
   if x.k = 2 then buildG l rad false false (arcD (penW l first done d x) x.cx x.cy x.r x.f x.s x.bx x.b_y x.n) y r else
   if x.k = 3 then (if (paT rad (penW l first done d x) (lgAt l x) x).1 ≠ 0 then (d, x.n, (paT rad (penW l first done d x) (lgAt l x) x).1) else buildG l rad false false (paT rad (penW l first done d x) (lgAt l x) x).2 y r) else
   match (if y.g = true then none else trT rad (penW l first done d x) (lgAt l x) (lgAt l y) x y) with
   | some (d', y') => buildG l rad false true d' y' r
   | none => buildG l rad false false (lineW (penW l first done d x) x.bx x.b_y x.n) y r
def buildT (l : List En) (fx fy : Int) (R : Int × Int) (T : List Tk × Int × Int) : List El × Int × Int :=
 if T.2.2 ≠ 0 then ([], T.2) else if R.2 ≠ 0 then ([], 0, R.2) else
 match T.1 with
 | [] => ([], 0, 0)
 | x :: r =>
   if (buildG l R.1 true false ⟨[], fx, fy, false⟩ x r).2.2 ≠ 0 then ([], (buildG l R.1 true false ⟨[], fx, fy, false⟩ x r).2) else
   if ((buildG l R.1 true false ⟨[], fx, fy, false⟩ x r).1.els.length : Int) > 500 then ([], 0, 3) else ((buildG l R.1 true false ⟨[], fx, fy, false⟩ x r).1.els, 0, 0)
end Go.Proofs.YtbhpklpkcgcmfaaGreatDoor
/-
  A path that is built: its elements meet, but for discontinuities. No program.
-/
namespace Go.Proofs.YtbhpklpkcgcmfaaGreatDoor
set_option linter.unusedVariables false
theorem pen_line (d : Dw) (qx qy n : Int) : (lineW d qx qy n).px = qx ∧ (lineW d qx qy n).py = qy := by
 unfold lineW
 split
 · assumption
 · exact ⟨rfl, rfl⟩
def chain : Int → Int → List El → Prop
 | _, _, [] => True
 | px, py, x :: r => x.ax = px ∧ x.ay = py ∧ (x.L < 1 → x.bx = x.ax ∧ x.b_y = x.ay) ∧ chain x.bx x.b_y r
theorem pen_pen (l : List En) (first : Bool) (d : Dw) (x : Tk) : (penW l first false d x).px = x.ax ∧ (penW l first false d x).py = x.ay := by
 unfold penW
 dsimp only
 rw [if_neg (by simp)]
 exact pen_line _ _ _ _
theorem foT_k {rad : Int} {d : Dw} {x y : Tk} {r : Dw × Tk} (hd : foT rad d x y = some r) : r.2.k = y.k := by
 unfold foT at hd
 dsimp only at hd
 split at hd
 · cases hd
 split at hd
 · cases hd
 split at hd
 · cases hd
 split at hd
 · cases hd
 split at hd
 · injection hd with hd
   subst hd
   dsimp only
   split <;> rfl
 · cases hd
theorem trT_k {rad : Int} {d : Dw} {lx ly : En} {x y : Tk} {r : Dw × Tk} (hd : trT rad d lx ly x y = some r) : r.2.k = 1 := by
 unfold trT at hd
 split at hd
 · cases hd
 rename_i hk
 have hy : y.k = 1 := by omega
 split at hd
 · split at hd
   · exact (foT_k hd).trans hy
   · cases hd
 split at hd
 · cases hd
 · obtain ⟨d', h1, h2⟩ := Option.map_eq_some_iff.1 hd
   subst h2
   exact hy
end Go.Proofs.YtbhpklpkcgcmfaaGreatDoor
/-
  The elements of a holding pattern, of the way into it and of a procedure turn stand one behind the other. No program.
-/
namespace Go.Proofs.YtbhpklpkcgcmfaaGreatDoor
set_option linter.unusedVariables false
theorem dist_zero {ax ay bx b_y : Int} (h1 : vldB ax ay = true) (h2 : vldB bx b_y = true) (h : distF ax ay bx b_y < 1) : bx = ax ∧ b_y = ay := by
 unfold distF at h
 rw [h1, h2, if_pos (by rfl)] at h
 have h3 : isq (dist2 ax ay bx b_y).toNat = 0 := by omega
 have h4 := (isq_zero_iff _).1 h3
 have hx : 0 ≤ (bx - ax) * (bx - ax) := by
  rcases Int.le_total 0 (bx - ax) with q | q
  · exact Int.mul_nonneg q q
  · have := Int.mul_nonneg (show (0 : Int) ≤ -(bx - ax) by omega) (show (0 : Int) ≤ -(bx - ax) by omega)
    rwa [Int.neg_mul_neg] at this
 have hy : 0 ≤ (b_y - ay) * (b_y - ay) := by
  rcases Int.le_total 0 (b_y - ay) with q | q
  · exact Int.mul_nonneg q q
  · have := Int.mul_nonneg (show (0 : Int) ≤ -(b_y - ay) by omega) (show (0 : Int) ≤ -(b_y - ay) by omega)
    rwa [Int.neg_mul_neg] at this
 have h5 : (bx - ax) * (bx - ax) + (b_y - ay) * (b_y - ay) ≤ 0 := by
  unfold dist2 at h4
  omega
 have e1 : (bx - ax) * (bx - ax) = 0 := by omega
 have e2 : (b_y - ay) * (b_y - ay) = 0 := by omega
 have f1 : bx - ax = 0 := by rcases Int.mul_eq_zero.1 e1 with q | q <;> exact q
 have f2 : b_y - ay = 0 := by rcases Int.mul_eq_zero.1 e2 with q | q <;> exact q
 omega
theorem half_len {cx cy rad f s : Int} (hc : vldB cx cy = true) (hr : 1 ≤ rad) (hr2 : rad ≤ 8000000) (hs : s = 64800000 ∨ s = -64800000) : 1 ≤ arcLen cx cy rad (norm f) s := by
 have hn := norm_bd f
 unfold arcLen
 have hb : arcB cx cy rad (norm f) s = true := by
  unfold arcB
  rw [hc]
  simp only [Bool.true_and]
  exact decide_eq_true (by omega)
 rw [if_pos hb]
 have hsn : ((s.natAbs : Nat) : Int) = 64800000 := by omega
 rw [hsn]
 unfold rnd
 rw [if_neg (by decide), if_neg (by decide)]
 rw [Int.fdiv_eq_ediv_of_nonneg _ (by decide)]
 omega
theorem ln_end {ax ay bx b_y : Int} (h1 : vldB ax ay = true) (h2 : vldB bx b_y = true) : (lnE ax ay bx b_y).L < 1 → (lnE ax ay bx b_y).bx = (lnE ax ay bx b_y).ax ∧ (lnE ax ay bx b_y).b_y = (lnE ax ay bx b_y).ay := fun h => dist_zero h1 h2 h
theorem ar_end {ax ay bx b_y cx cy rad f s : Int} (hc : vldB cx cy = true) (hr : 1 ≤ rad) (hr2 : rad ≤ 8000000) (hs : s = 64800000 ∨ s = -64800000) :
 (arE ax ay bx b_y cx cy rad f s).L < 1 → (arE ax ay bx b_y cx cy rad f s).bx = (arE ax ay bx b_y cx cy rad f s).ax ∧ (arE ax ay bx b_y cx cy rad f s).b_y = (arE ax ay bx b_y cx cy rad f s).ay := fun h => by
 have := half_len (f := f) hc hr hr2 hs
 have h2 : arcLen cx cy rad (norm f) s < 1 := h
 omega
theorem qtr2 (tn : Int) : 2 * qtr tn = 64800000 ∨ 2 * qtr tn = -64800000 := by unfold qtr; split <;> omega
theorem ray_v {px py c d : Int} (h : (rayF px py c d).2.2 = 0) : vldB (rayF px py c d).1 (rayF px py c d).2.1 = true := by
 unfold rayF at h ⊢
 split at h
 · cases h
 · rename_i h1
   rw [if_neg h1]
   split at h
   · cases h
   · rename_i h2
     rw [if_neg h2]
     split at h
     · rename_i h3
       rw [if_pos h3]
       exact h3
     · cases h
theorem shp_ok {fx fy inb tn leg rad : Int} (h : shpE fx fy inb tn leg rad = 0) :
 vldB fx fy = true ∧ (1 ≤ rad ∧ rad ≤ 2000000) ∧ vldB (shpF fx fy inb tn leg rad).x1 (shpF fx fy inb tn leg rad).y1 = true ∧ vldB (shpF fx fy inb tn leg rad).x2 (shpF fx fy inb tn leg rad).y2 = true ∧ vldB (shpF fx fy inb tn leg rad).x3 (shpF fx fy inb tn leg rad).y3 = true ∧
 vldB (shpF fx fy inb tn leg rad).cx (shpF fx fy inb tn leg rad).cy = true ∧ vldB (shpF fx fy inb tn leg rad).dx (shpF fx fy inb tn leg rad).dy = true := by
 unfold shpE at h
 split at h
 · cases h
 rename_i h1
 split at h
 · cases h
 rename_i h2
 split at h
 · rename_i h3
   obtain ⟨a1, a2, a3, a4, a5⟩ := h3
   have hv : vldB fx fy = true := by
    rcases hq : vldB fx fy with _ | _
    · rw [hq] at h1
      exact absurd rfl h1
    · rfl
   exact ⟨hv, by omega, ray_v a2, a4, ray_v a3, ray_v a1, a5⟩
 · cases h
theorem chain_pat {fx fy inb tn leg rad : Int} (h : shpE fx fy inb tn leg rad = 0) : chain fx fy (patE fx fy inb tn leg rad) := by
 obtain ⟨hf, hr, v1, v2, v3, vc, vd⟩ := shp_ok h
 exact ⟨rfl, rfl, ar_end vc hr.1 (by omega) (qtr2 tn), rfl, rfl, ln_end v1 v2, rfl, rfl, ar_end vd hr.1 (by omega) (qtr2 tn), rfl, rfl, ln_end v3 hf, trivial⟩
theorem chain_ent {fx fy inb tn leg rad : Int} (w : Int) (h : shpE fx fy inb tn leg rad = 0) : chain fx fy (entE w fx fy inb tn leg rad ++ patE fx fy inb tn leg rad) := by
 obtain ⟨hf, hr, v1, v2, v3, vc, vd⟩ := shp_ok h
 have hp := chain_pat h
 have hq := qtr2 tn
 have hm : -(2 * qtr tn) = 64800000 ∨ -(2 * qtr tn) = -64800000 := by omega
 unfold entE
 dsimp only
 split
 · exact ⟨rfl, rfl, ln_end hf v2, rfl, rfl, ar_end vd hr.1 (by omega) hq, rfl, rfl, ln_end v3 hf, hp⟩
 split
 · exact ⟨rfl, rfl, ln_end hf v3, rfl, rfl, ar_end vd hr.1 (by omega) hm, rfl, rfl, ln_end v2 hf, hp⟩
 · exact hp
theorem chain_rev {fx fy crs tn dst rad : Int} (h : (revE fx fy crs tn dst rad).1 = 0) : chain fx fy (revE fx fy crs tn dst rad).2 := by
 unfold revE at h ⊢
 split at h
 · cases h
 rename_i h1
 rw [if_neg h1]
 split at h
 · cases h
 rename_i h2
 rw [if_neg h2]
 dsimp only at h ⊢
 split at h
 · rename_i h3
   rw [if_pos h3]
   obtain ⟨a1, a2, a3, a4, a5⟩ := h3
   have hv : vldB fx fy = true := by
    rcases hq : vldB fx fy with _ | _
    · rw [hq] at h1
      exact absurd rfl h1
    · rfl
   have hq := qtr2 tn
   exact ⟨rfl, rfl, ln_end hv (ray_v a1), rfl, rfl, ln_end (ray_v a1) (ray_v a2), rfl, rfl, ar_end (ray_v a3) (by omega) (by omega) (by omega), rfl, rfl, ln_end (ray_v a4) (ray_v a5), rfl, rfl, ln_end (ray_v a5) hv, trivial⟩
 · rename_i h3
   cases h
end Go.Proofs.YtbhpklpkcgcmfaaGreatDoor
/-
  Straight tracks: the course at the end is that at the begin; their lengths are bounded. No program.
-/
namespace Go.Proofs.YtbhpklpkcgcmfaaGreatDoor
set_option linter.unusedVariables false
def strT (t : Tk) : Prop := t.k = 1 → t.ci = t.co ∧ -8000000 ≤ t.len ∧ t.len ≤ 8000000
def okS (p : Tk × Int) : Prop := p.2 = 0 → strT p.1
theorem okS_ite {q : Prop} [Decidable q] {a b : Tk × Int} (ha : okS a) (hb : okS b) : okS (if q then a else b) := by split <;> assumption
theorem sT_s (ax ay bx b_y c : Int) {d : Int} (h : -8000000 ≤ d ∧ d ≤ 8000000) : strT (tkS 1 ax ay bx b_y c d) := fun _ => ⟨rfl, h⟩
theorem sT_dist (ax ay bx b_y : Int) : -8000000 ≤ distF ax ay bx b_y ∧ distF ax ay bx b_y ≤ 8000000 := by
 have := distF_bd ax ay bx b_y
 omega
theorem okS_zero (e : Int) : okS (Tk.zero, e) := fun _ h => by cases h
theorem sT_straight (ax ay bx b_y c : Int) : strT (straightF ax ay bx b_y c) := by
 unfold straightF
 split
 · exact sT_s _ _ _ _ _ (by decide)
 · exact sT_s _ _ _ _ _ (sT_dist _ _ _ _)
theorem okS_ray (ax ay c l : Int) : okS (rayT ax ay c l) := by
 unfold rayT
 split
 · rename_i h
   intro _
   refine sT_s _ _ _ _ _ ?_
   unfold rayF at h
   split at h
   · cases h
   split at h
   · cases h
   · omega
 · exact okS_zero _
theorem sT_lenS (ax ay bx b_y : Int) : -8000000 ≤ lenS ax ay bx b_y ∧ lenS ax ay bx b_y ≤ 8000000 := by
 unfold lenS
 split
 · decide
 · exact sT_dist _ _ _ _
theorem okS_fix (fx fy c : Int) (x : En) : okS (toFixT fx fy c x) := by
 unfold toFixT
 exact okS_ite (okS_zero _) (okS_ite (okS_zero _) (okS_ite (okS_zero _) (okS_ite (fun _ => sT_straight _ _ _ _ _) (okS_ite (okS_zero _) (fun _ => sT_s _ _ _ _ _ (sT_lenS _ _ _ _))))))
theorem okS_arc (fx fy : Int) (x : En) : okS (aroundT fx fy x) := by
 unfold aroundT
 refine okS_ite (okS_zero _) ?_
 split
 · exact okS_ite (okS_zero _) (okS_ite (okS_zero _) (okS_ite (okS_zero _) (fun _ h => by cases h)))
 · exact okS_zero _
theorem okS_climb (fx fy alt : Int) (x : En) (gr : Int) : okS (climbT fx fy alt x gr) := by
 unfold climbT
 exact okS_ite (okS_zero _) (okS_ray _ _ _ _)
theorem okS_open (a b c : Int) : okS (openT a b c) := by
 unfold openT
 exact okS_ite (fun _ h => by cases h) (okS_ray _ _ _ _)
theorem okS_cd (fx fy : Int) (x : En) : okS (toDistT fx fy x) := by
 unfold toDistT
 exact okS_ite (okS_zero _) (okS_ite (okS_zero _) (okS_ite (okS_zero _) (okS_ite (okS_ray _ _ _ _) (okS_ite (okS_zero _) (okS_ray _ _ _ _)))))
theorem okS_cr (fx fy : Int) (x : En) : okS (toRadT fx fy x) := by
 unfold toRadT
 exact okS_ite (okS_zero _) (okS_ite (okS_zero _) (okS_ite (okS_zero _) (okS_ite (okS_zero _) (fun _ => sT_s _ _ _ _ _ (sT_dist _ _ _ _)))))
theorem okS_ci (fx fy : Int) (x y : En) : okS (interT fx fy x y) := by
 unfold interT
 exact okS_ite (okS_zero _) (okS_ite (okS_zero _) (okS_ite (okS_zero _) (okS_ite (okS_zero _) (okS_ite (okS_zero _) (fun _ => sT_s _ _ _ _ _ (sT_dist _ _ _ _))))))
theorem okS_leg (fx fy c alt : Int) (x y : En) (gr : Int) : okS (legT fx fy c alt x y gr) := by
 unfold legT
 exact okS_ite (fun _ => sT_straight _ _ _ _ _) (okS_ite (fun _ => sT_straight _ _ _ _ _) (okS_ite (okS_fix _ _ _ _) (okS_ite (okS_arc _ _ _) (okS_ite (okS_climb _ _ _ _ _) (okS_ite (okS_climb _ _ _ _ _) (okS_ite (okS_ray _ _ _ _) (okS_ite (okS_open _ _ _) (okS_ite (okS_cd _ _ _) (okS_ite (okS_cr _ _ _) (okS_ite (okS_ci _ _ _ _) (fun _ h => by cases h)))))))))))
theorem okS_track (pv : Option En) (fx fy c alt : Int) (x y : En) (spd bank oalt gr : Int) : okS (trackE pv fx fy c alt x y spd bank oalt gr) := by
 unfold trackE
 refine okS_ite (fun _ _ => ⟨rfl, by show (-8000000 : Int) ≤ 0; decide, by show (0 : Int) ≤ 8000000; decide⟩) ?_
 unfold resolveT
 exact okS_ite (okS_zero _) (okS_ite (okS_zero _) (okS_ite (okS_zero _) (okS_ite (okS_zero _) (okS_ite (okS_zero _) (okS_leg _ _ _ _ _ _ _)))))
theorem tracksG_sT {spd bank oalt gr : Int} : ∀ (l : List En) (pv : Option En) (i : Nat) (fx fy c alt : Int) (t : Tk), t ∈ (tracksG spd bank oalt gr pv i fx fy c alt l).1 → strT t
 | [], pv, i, fx, fy, c, alt, t, h => by cases h
 | x :: r, pv, i, fx, fy, c, alt, t, h => by
   rcases hg : x.gap with _ | _
   · by_cases he : (trackE pv fx fy c alt x (nextE r) spd bank oalt gr).2 = 0
     · obtain ⟨T, hT⟩ : ∃ T, trackE pv fx fy c alt x (nextE r) spd bank oalt gr = (T, 0) := ⟨_, Prod.ext rfl he⟩
       rw [tracksG_leg hg hT] at h
       unfold joinT at h
       split at h
       · cases h
       · have hs := okS_track pv fx fy c alt x (nextE r) spd bank oalt gr he
         rw [hT] at hs
         rcases List.mem_append.1 h with h | h
         · rw [List.mem_singleton.1 h]
           exact hs
         · exact tracksG_sT r _ _ _ _ _ _ t h
     · obtain ⟨T, e, hT⟩ : ∃ T e, trackE pv fx fy c alt x (nextE r) spd bank oalt gr = (T, e) := ⟨_, _, rfl⟩
       rw [hT] at he
       rw [tracksG_err hg hT he] at h
       cases h
   · rw [tracksG_gap hg] at h
     exact tracksG_sT r _ _ _ _ _ _ t h
end Go.Proofs.YtbhpklpkcgcmfaaGreatDoor
