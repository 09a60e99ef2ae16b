/-
  Chapter 26 and 27 as plain functions: patterns, turns that are flown by or over, how a path is built out of tracks. No program.
-/
import Derived.Test.YteanfgobpjdmnaaGreatDoorMPlanP1
import Derived.Test.YteanfgobpjdmnaaGreatDoorMSeqP
namespace Go.Proofs.YteanfgobpjdmnaaGreatDoor
set_option linter.unusedVariables false
def xz (tn : Int) : Int := if tn = 2 then 32400000 else -32400000
def Zs (course inb tn : Int) : Int := if tn = 2 then norm (norm (norm inb + 64800000) - norm course) else norm (norm course - norm (norm inb + 64800000))
structure RG where
 (x1 y1 x2 y2 x3 y3 cx cy dx dy : Int)
def yt (inb tn : Int) : Int := inb + xz tn
def vY (fx fy inb tn leg rad : Int) : Int :=
 if (qf fx fy && (decide (tn = 1) || decide (tn = 2))) = false then 1 else
 if inb < 0 ∨ inb ≥ 129600000 ∨ leg < 1 ∨ leg > 2000000 ∨ rad < 1 ∨ rad > 2000000 then 2 else
 if ((zi fx fy (yt inb tn) rad).2.2 = 0 ∧ (zi fx fy (yt inb tn) (2 * rad)).2.2 = 0 ∧ (zi fx fy (inb + 64800000) leg).2.2 = 0 ∧
  qf ((zi fx fy (yt inb tn) (2 * rad)).1 + (zi fx fy (inb + 64800000) leg).1 - fx) ((zi fx fy (yt inb tn) (2 * rad)).2.1 + (zi fx fy (inb + 64800000) leg).2.1 - fy) = true ∧
  qf ((zi fx fy (yt inb tn) rad).1 + (zi fx fy (inb + 64800000) leg).1 - fx) ((zi fx fy (yt inb tn) rad).2.1 + (zi fx fy (inb + 64800000) leg).2.1 - fy) = true) then 0 else 2
def kV (fx fy inb tn leg rad : Int) : RG :=
 ⟨(zi fx fy (yt inb tn) (2 * rad)).1, (zi fx fy (yt inb tn) (2 * rad)).2.1,
  (zi fx fy (yt inb tn) (2 * rad)).1 + (zi fx fy (inb + 64800000) leg).1 - fx, (zi fx fy (yt inb tn) (2 * rad)).2.1 + (zi fx fy (inb + 64800000) leg).2.1 - fy,
  (zi fx fy (inb + 64800000) leg).1, (zi fx fy (inb + 64800000) leg).2.1,
  (zi fx fy (yt inb tn) rad).1, (zi fx fy (yt inb tn) rad).2.1,
  (zi fx fy (yt inb tn) rad).1 + (zi fx fy (inb + 64800000) leg).1 - fx, (zi fx fy (yt inb tn) rad).2.1 + (zi fx fy (inb + 64800000) leg).2.1 - fy⟩
def uU (ax ay bx b_y : Int) : El := ⟨false, ax, ay, bx, b_y, 0, 0, 0, 0, 0, qJ ax ay bx b_y, 0, false⟩
def Zo (ax ay bx b_y cx cy rad f s : Int) : El := ⟨true, ax, ay, bx, b_y, cx, cy, rad, norm f, s, qA cx cy rad (norm f) s, 0, false⟩
def tN (fx fy inb tn leg rad : Int) : List El :=
 let s := kV fx fy inb tn leg rad
 [Zo fx fy s.x1 s.y1 s.cx s.cy rad (yt inb tn + 64800000) (2 * xz tn), uU s.x1 s.y1 s.x2 s.y2, Zo s.x2 s.y2 s.x3 s.y3 s.dx s.dy rad (yt inb tn) (2 * xz tn), uU s.x3 s.y3 fx fy]
def tO (w fx fy inb tn leg rad : Int) : List El :=
 let s := kV fx fy inb tn leg rad
 if w < 25200000 then [uU fx fy s.x2 s.y2, Zo s.x2 s.y2 s.x3 s.y3 s.dx s.dy rad (yt inb tn) (2 * xz tn), uU s.x3 s.y3 fx fy] else
 if w ≥ 90000000 then [uU fx fy s.x3 s.y3, Zo s.x3 s.y3 s.x2 s.y2 s.dx s.dy rad (yt inb tn + 64800000) (-(2 * xz tn)), uU s.x2 s.y2 fx fy] else []
def rB (crs tn : Int) : Int := crs + (xz tn).tdiv 2
def dV (crs tn : Int) : Int := rB crs tn - xz tn
def vB (fx fy crs tn dst rad : Int) : Int × List El :=
 if (qf fx fy && (decide (tn = 1) || decide (tn = 2))) = false then (1, []) else
 if crs < 0 ∨ crs ≥ 129600000 ∨ dst < 1 ∨ dst > 2000000 ∨ rad < 1 ∨ rad > 666666 then (2, []) else
 let q := zi fx fy crs dst
 let s := zi q.1 q.2.1 (rB crs tn) (3 * rad)
 let c := zi s.1 s.2.1 (dV crs tn) rad
 let t := zi s.1 s.2.1 (dV crs tn) (2 * rad)
 let m := zi q.1 q.2.1 crs (jG 2 (2 * rad * 1414213562) 1000000000)
 if q.2.2 = 0 ∧ s.2.2 = 0 ∧ c.2.2 = 0 ∧ t.2.2 = 0 ∧ m.2.2 = 0 then
  (0, [uU fx fy q.1 q.2.1, uU q.1 q.2.1 s.1 s.2.1, Zo s.1 s.2.1 t.1 t.2.1 c.1 c.2.1 rad (dV crs tn + 64800000) (-(2 * xz tn)), uU t.1 t.2.1 m.1 m.2.1, uU m.1 m.2.1 fx fy]) else (2, [])
structure Dw where
 els : List El
 px : Int
 py : Int
 gp : Bool
def ur (d : Dw) (x : El) : Dw := ⟨d.els ++ [{ x with g := d.gp }], x.bx, x.b_y, false⟩
def zJ (d : Dw) (qx qy n : Int) : Dw := if d.px = qx ∧ d.py = qy then d else ur d ⟨false, d.px, d.py, qx, qy, 0, 0, 0, 0, 0, qJ d.px d.py qx qy, n, false⟩
def yu (d : Dw) (cx cy r f s qx qy n : Int) : Dw := if 1 ≤ qA cx cy r f s then ur d ⟨true, d.px, d.py, qx, qy, cx, cy, r, f, s, qA cx cy r f s, n, false⟩ else zJ d qx qy n
def jT (n : Int) : Dw → List El → Dw
 | d, [] => d
 | d, x :: r => jT n (if 1 ≤ x.L then ur d { x with n := n } else d) r
def US (x y : Tk) : Int := min (x.len.tdiv 2) (y.len.tdiv 2)
def gW (rad D lim : Int) : Option Int :=
 if D = 0 ∨ 54000000 < (D.natAbs : Int) then none else
 if lim < zT rad D then (if rad * lim / zT rad D < 600 then none else some (rad * lim / zT rad D)) else some rad
theorem DZ {rad lim lead : Int} (hr : 1 ≤ rad) (h0 : 0 ≤ lim) (h : lim < lead) : 0 ≤ rad * lim / lead ∧ rad * lim / lead < rad := by
 have hl : 0 < lead := by omega
 have h1 : rad * lim < rad * lead := Int.mul_lt_mul_of_pos_left h (by omega)
 exact ⟨Int.ediv_nonneg (Int.mul_nonneg (by omega) h0) (by omega), Int.ediv_lt_of_lt_mul hl (by rw [Int.mul_comm] at h1; rw [Int.mul_comm rad lead] at h1; rw [Int.mul_comm rad lim]; rw [Int.mul_comm rad lead]; exact h1)⟩
def vk (d : Dw) (xn yn : Int) (F : List Int) : Option Dw :=
 match F with
 | [cx, cy, r, f, s, ax, ay, bx, b_y, _] =>
   if (qI cx cy r f (s.tdiv 2) (qA cx cy r f (s.tdiv 2))).2.2.2 ≠ 0 then none else
   some (yu (yu (zJ d ax ay xn) cx cy r f (s.tdiv 2) (qI cx cy r f (s.tdiv 2) (qA cx cy r f (s.tdiv 2))).1 (qI cx cy r f (s.tdiv 2) (qA cx cy r f (s.tdiv 2))).2.1 xn) cx cy r (norm (f + s.tdiv 2)) (s - s.tdiv 2) bx b_y yn)
 | _ => none
def Kw (rad : Int) (d : Dw) (x y : Tk) : Option Dw :=
 match gW rad (zw (qF x.ax x.ay x.bx x.b_y).1 (qF y.ax y.ay y.bx y.b_y).1) (US x y) with
 | none => none
 | some r =>
   if (vV x.ax x.ay x.bx x.b_y y.bx y.b_y r).2 ≠ 0 ∨ (vV x.ax x.ay x.bx x.b_y y.bx y.b_y r).1.getD 9 0 = 0 ∨ US x y < (vV x.ax x.ay x.bx x.b_y y.bx y.b_y r).1.getD 9 0 then none else
   vk d x.n y.n (vV x.ax x.ay x.bx x.b_y y.bx y.b_y r).1
def JX (co D : Int) : Int := co + if 0 < D then 32400000 else -32400000
def Zp (rad : Int) (d : Dw) (x y : Tk) : Option (Dw × Tk) :=
 let D := zw x.co y.ci
 let right := decide (0 < D)
 let c := zi x.bx x.b_y (JX x.co D) rad
 let t := xX c.1 c.2.1 rad y.bx y.b_y right
 if D = 0 then none else if c.2.2 ≠ 0 then none else if t.2.2 ≠ 0 then none else
 if (jh x.bx x.b_y c.1 c.2.1 t.1 t.2.1 right).2 ≠ 0 then none else
 match (jh x.bx x.b_y c.1 c.2.1 t.1 t.2.1 right).1 with
 | [cx, cy, r, f, s] =>
   some (yu (zJ d x.bx x.b_y x.n) cx cy r f s t.1 t.2.1 y.n,
    if t.1 = y.bx ∧ t.2.1 = y.b_y then { y with ax := t.1, ay := t.2.1, co := y.ci, len := 0 }
    else { y with ax := t.1, ay := t.2.1, ci := (qF t.1 t.2.1 y.bx y.b_y).1, co := (qF t.1 t.2.1 y.bx y.b_y).1, len := qJ t.1 t.2.1 y.bx y.b_y })
 | _ => none
def kU (rad : Int) (d : Dw) (lx ly : En) (x y : Tk) : Option (Dw × Tk) :=
 if x.k ≠ 1 ∨ y.k ≠ 1 ∨ x.len < 1 ∨ y.len < 1 ∨ ¬ (y.ax = x.bx ∧ y.ay = x.b_y) then none else
 if lx.ov = true then (if ly.ty = 4 then Zp rad d x y else none) else
 if lx.ty = 7 ∨ lx.ty = 8 ∨ lx.ty = 9 ∨ lx.ty = 10 ∨ lx.ty = 11 ∨ lx.ty = 12 then none else
 (Kw rad d x y).map (fun d' => (d', y))
def kY (rad : Int) (d : Dw) (lx : En) (x : Tk) : Int × Dw :=
 if lx.ty = 17 then ((vB x.ax x.ay lx.crs lx.tn lx.dst rad).1, jT x.n d (vB x.ax x.ay lx.crs lx.tn lx.dst rad).2) else
 if vY x.ax x.ay lx.crs lx.tn lx.dst rad ≠ 0 then (vY x.ax x.ay lx.crs lx.tn lx.dst rad, d) else
 (0, jT x.n d (tO (Zs x.ci lx.crs lx.tn) x.ax x.ay lx.crs lx.tn lx.dst rad ++ tN x.ax x.ay lx.crs lx.tn lx.dst rad))
def zI (l : List En) (x : Tk) : En := (l[x.n.toNat]?).getD JN
def zW (l : List En) (first done : Bool) (d : Dw) (x : Tk) : Dw :=
 let d1 := if x.g = true ∨ (first = true ∧ (zI l x).ty = 1) then { d with px := x.ax, py := x.ay, gp := x.g && !d.els.isEmpty } else d
 if done = true then d1 else zJ d1 x.ax x.ay x.n
def ze (l : List En) (rad : Int) : Bool → Bool → Dw → Tk → List Tk → Dw × Int × Int
 | first, done, d, x, [] =>
   if x.k = 2 then (yu (zW l first done d x) x.cx x.cy x.r x.f x.s x.bx x.b_y x.n, 0, 0) else
   if x.k = 3 then (if (kY rad (zW l first done d x) (zI l x) x).1 ≠ 0 then (d, x.n, (kY rad (zW l first done d x) (zI l x) x).1) else ((kY rad (zW l first done d x) (zI l x) x).2, 0, 0)) else
   (zJ (zW l first done d x) x.bx x.b_y x.n, 0, 0)
 | first, done, d, x, y :: r =>
   if x.k = 2 then ze l rad false false (yu (zW l first done d x) x.cx x.cy x.r x.f x.s x.bx x.b_y x.n) y r else
   if x.k = 3 then (if (kY rad (zW l first done d x) (zI l x) x).1 ≠ 0 then (d, x.n, (kY rad (zW l first done d x) (zI l x) x).1) else ze l rad false false (kY rad (zW l first done d x) (zI l x) x).2 y r) else
   match (if y.g = true then none else kU rad (zW l first done d x) (zI l x) (zI l y) x y) with
   | some (d', y') => ze l rad false true d' y' r
   | none => ze l rad false false (zJ (zW l first done d x) x.bx x.b_y x.n) y r
def ji (l : List En) (fx fy : Int) (R : Int × Int) (T : List Tk × Int × Int) : List El × Int × Int :=
 if T.2.2 ≠ 0 then ([], T.2) else if R.2 ≠ 0 then ([], 0, R.2) else
 match T.1 with
 | [] => ([], 0, 0)
 | x :: r =>
   if (ze l R.1 true false ⟨[], fx, fy, false⟩ x r).2.2 ≠ 0 then ([], (ze l R.1 true false ⟨[], fx, fy, false⟩ x r).2) else
   if ((ze l R.1 true false ⟨[], fx, fy, false⟩ x r).1.els.length : Int) > 500 then ([], 0, 3) else ((ze l R.1 true false ⟨[], fx, fy, false⟩ x r).1.els, 0, 0)
structure uQ (d : Dw) : Prop where
 head : ∀ x, d.els[0]? = some x → x.g = false
 meet : ∀ (i : Nat) (x y : El), d.els[i]? = some x → d.els[i + 1]? = some y → y.g = false → y.ax = x.bx ∧ y.ay = x.b_y
 nogap : d.els = [] → d.gp = false
 pen : ∀ x, d.els.getLast? = some x → d.gp = false → d.px = x.bx ∧ d.py = x.b_y
theorem KI (px py : Int) : uQ ⟨[], px, py, false⟩ := ⟨(fun x h => by simp at h), (fun i x y h => by simp at h), fun _ => rfl, fun x h => by simp at h⟩
theorem UT {d : Dw} {x : El} (h : uQ d) (hx : x.ax = d.px ∧ x.ay = d.py) : uQ (ur d x) := by
 refine ⟨fun y hy => ?_, fun i y z hy hz hg => ?_, fun hn => ?_, fun y hy _ => ?_⟩
 · change (d.els ++ [{ x with g := d.gp }])[0]? = some y at hy
   rcases hl : d.els with _ | ⟨e, r⟩
   · rw [hl] at hy
     simp at hy
     rw [← hy]
     exact h.nogap hl
   · rw [hl] at hy
     refine h.head y ?_
     rw [hl]
     simpa using hy
 · change (d.els ++ [{ x with g := d.gp }])[i]? = some y at hy
   change (d.els ++ [{ x with g := d.gp }])[i + 1]? = some z at hz
   have hi : i + 1 < (d.els ++ [{ x with g := d.gp }]).length := (List.getElem?_eq_some_iff.1 hz).1
   rw [List.length_append, List.length_singleton] at hi
   rw [List.getElem?_append_left (by omega)] at hy
   by_cases hlt : i + 1 < d.els.length
   · rw [List.getElem?_append_left hlt] at hz
     exact h.meet i y z hy hz hg
   · rw [List.getElem?_append_right (by omega), show i + 1 - d.els.length = 0 by omega] at hz
     simp at hz
     subst hz
     have hlast : d.els.getLast? = some y := by rw [List.getLast?_eq_getElem?, show d.els.length - 1 = i by omega]; exact hy
     have hp := h.pen y hlast hg
     exact ⟨hx.1.trans hp.1, hx.2.trans hp.2⟩
 · change d.els ++ [_] = [] at hn
   simp at hn
 · change (d.els ++ [{ x with g := d.gp }]).getLast? = some y at hy
   rw [List.getLast?_concat] at hy
   injection hy with hy
   subst hy
   exact ⟨rfl, rfl⟩
theorem gX {d : Dw} (h : uQ d) (qx qy n : Int) : uQ (zJ d qx qy n) := by
 unfold zJ
 split
 · exact h
 · exact UT h ⟨rfl, rfl⟩
theorem Zt {d : Dw} (h : uQ d) (cx cy r f s qx qy n : Int) : uQ (yu d cx cy r f s qx qy n) := by
 unfold yu
 split
 · exact UT h ⟨rfl, rfl⟩
 · exact gX h _ _ _
theorem Zu (d : Dw) (qx qy n : Int) : (zJ d qx qy n).px = qx ∧ (zJ d qx qy n).py = qy := by
 unfold zJ
 split
 · assumption
 · exact ⟨rfl, rfl⟩
theorem lG (d : Dw) (cx cy r f s qx qy n : Int) : (yu d cx cy r f s qx qy n).px = qx ∧ (yu d cx cy r f s qx qy n).py = qy := by
 unfold yu
 split
 · exact ⟨rfl, rfl⟩
 · exact Zu _ _ _ _
def chain : Int → Int → List El → Prop
 | _, _, [] => True
 | px, py, x :: r => x.ax = px ∧ x.ay = py ∧ (x.L < 1 → x.bx = x.ax ∧ x.b_y = x.ay) ∧ chain x.bx x.b_y r
theorem Yu (n : Int) : ∀ (l : List El) (d : Dw), uQ d → chain d.px d.py l → uQ (jT n d l)
 | [], d, h, _ => h
 | x :: r, d, h, hc => by
   obtain ⟨h1, h2, h3, h4⟩ := hc
   unfold jT
   split
   · exact Yu n r _ (UT h ⟨h1, h2⟩) h4
   · rename_i hl
     have h5 := h3 (by omega)
     rw [h5.1, h5.2, h1, h2] at h4
     exact Yu n r _ h h4
theorem nS {l : List En} {first done : Bool} {d : Dw} {x : Tk} (h : uQ d) (hf : first = true → d.els = []) : uQ (zW l first done d x) := by
 have key : uQ (if x.g = true ∨ (first = true ∧ (zI l x).ty = 1) then { d with px := x.ax, py := x.ay, gp := x.g && !d.els.isEmpty } else d) := by
  split
  · rename_i hq
    refine ⟨h.head, h.meet, fun hn => ?_, fun y hy hg => ?_⟩
    · change (x.g && !d.els.isEmpty) = false
      rw [show d.els = [] from hn]
      simp
    · change (x.g && !d.els.isEmpty) = false at hg
      change d.els.getLast? = some y at hy
      have hne : d.els ≠ [] := fun e => by rw [e] at hy; simp at hy
      have hie : d.els.isEmpty = false := by simpa using hne
      rw [hie] at hg
      rcases hq with hq | hq
      · rw [hq] at hg
        cases hg
      · exact absurd (hf hq.1) hne
  · exact h
 unfold zW
 dsimp only
 split
 · exact key
 · exact gX key _ _ _
theorem wh {d d' : Dw} {xn yn : Int} {F : List Int} (h : uQ d) (hd : vk d xn yn F = some d') : uQ d' := by
 unfold vk at hd
 split at hd
 · split at hd
   · cases hd
   · injection hd with hd
     subst hd
     exact Zt (Zt (gX h _ _ _) _ _ _ _ _ _ _ _) _ _ _ _ _ _ _ _
 · cases hd
theorem NG {rad : Int} {d d' : Dw} {x y : Tk} (h : uQ d) (hd : Kw rad d x y = some d') : uQ d' := by
 unfold Kw at hd
 split at hd
 · cases hd
 · split at hd
   · cases hd
   · exact wh h hd
theorem NH {rad : Int} {d : Dw} {x y : Tk} {r : Dw × Tk} (h : uQ d) (hd : Zp rad d x y = some r) : uQ r.1 := by
 unfold Zp at hd
 dsimp only at hd
 split at hd
 · cases hd
 split at hd
 · cases hd
 split at hd
 · cases hd
 split at hd
 · cases hd
 split at hd
 · injection hd with hd
   subst hd
   exact Zt (gX h _ _ _) _ _ _ _ _ _ _ _
 · cases hd
theorem NI {rad : Int} {d : Dw} {lx ly : En} {x y : Tk} {r : Dw × Tk} (h : uQ d) (hd : kU rad d lx ly x y = some r) : uQ r.1 := by
 unfold kU at hd
 split at hd
 · cases hd
 split at hd
 · split at hd
   · exact NH h hd
   · cases hd
 split at hd
 · cases hd
 · obtain ⟨d', h1, h2⟩ := Option.map_eq_some_iff.1 hd
   subst h2
   exact NG h h1
def rC (l : List En) (rad : Int) (x : Tk) : Prop := x.k = 3 → ∀ d : Dw, uQ d → d.px = x.ax → d.py = x.ay → (kY rad d (zI l x) x).1 = 0 → uQ (kY rad d (zI l x) x).2
theorem tP (l : List En) (first : Bool) (d : Dw) (x : Tk) : (zW l first false d x).px = x.ax ∧ (zW l first false d x).py = x.ay := by
 unfold zW
 dsimp only
 rw [if_neg (by simp)]
 exact Zu _ _ _ _
theorem Ca {rad : Int} {d : Dw} {x y : Tk} {r : Dw × Tk} (hd : Zp rad d x y = some r) : r.2.k = y.k := by
 unfold Zp at hd
 dsimp only at hd
 split at hd
 · cases hd
 split at hd
 · cases hd
 split at hd
 · cases hd
 split at hd
 · cases hd
 split at hd
 · injection hd with hd
   subst hd
   dsimp only
   split <;> rfl
 · cases hd
theorem nT {rad : Int} {d : Dw} {lx ly : En} {x y : Tk} {r : Dw × Tk} (hd : kU rad d lx ly x y = some r) : r.2.k = 1 := by
 unfold kU at hd
 split at hd
 · cases hd
 rename_i hk
 have hy : y.k = 1 := by omega
 split at hd
 · split at hd
   · exact (Ca hd).trans hy
   · cases hd
 split at hd
 · cases hd
 · obtain ⟨d', h1, h2⟩ := Option.map_eq_some_iff.1 hd
   subst h2
   exact hy
theorem gY {l : List En} {rad : Int} : ∀ (r : List Tk) (first done : Bool) (d : Dw) (x : Tk), uQ d → (first = true → d.els = []) → (done = true → x.k ≠ 3) → (rC l rad x) → (∀ y ∈ r, rC l rad y) →
 (ze l rad first done d x r).2.2 = 0 → uQ (ze l rad first done d x r).1
 | [], first, done, d, x, h, hf, hdn, hp, hr, he => by
   have hpen := nS (l := l) (done := done) (x := x) h hf
   unfold ze at he ⊢
   split
   · exact Zt hpen _ _ _ _ _ _ _ _
   · rename_i h2
     split
     · rename_i h3
       rw [if_neg h2, if_pos h3] at he
       have hd0 : done = false := by
        cases done with
        | false => rfl
        | true => exact absurd h3 (hdn rfl)
       subst hd0
       split
       · rename_i h4
         rw [if_pos h4] at he
         exact absurd he h4
       · rename_i h4
         exact hp h3 _ hpen (tP l first d x).1 (tP l first d x).2 (Classical.not_not.1 h4)
     · exact gX hpen _ _ _
 | y :: r, first, done, d, x, h, hf, hdn, hp, hr, he => by
   have hpen := nS (l := l) (done := done) (x := x) h hf
   have hry := hr y (.head _)
   have hrr := fun z hz => hr z (.tail _ hz)
   unfold ze at he ⊢
   split
   · rename_i h2
     rw [if_pos h2] at he
     exact gY r _ _ _ _ (Zt hpen _ _ _ _ _ _ _ _) (fun e => by cases e) (fun e => by cases e) hry hrr he
   · rename_i h2
     rw [if_neg h2] at he
     split
     · rename_i h3
       rw [if_pos h3] at he
       have hd0 : done = false := by
        cases done with
        | false => rfl
        | true => exact absurd h3 (hdn rfl)
       subst hd0
       split
       · rename_i h4
         rw [if_pos h4] at he
         exact absurd he h4
       · rename_i h4
         rw [if_neg h4] at he
         exact gY r _ _ _ _ (hp h3 _ hpen (tP l first d x).1 (tP l first d x).2 (Classical.not_not.1 h4)) (fun e => by cases e) (fun e => by cases e) hry hrr he
     · rename_i h3
       rw [if_neg h3] at he
       generalize hq : (if y.g = true then none else kU rad (zW l first done d x) (zI l x) (zI l y) x y) = q at he ⊢
       cases q with
       | none => exact gY r _ _ _ _ (gX hpen _ _ _) (fun e => by cases e) (fun e => by cases e) hry hrr he
       | some q =>
         obtain ⟨d', y'⟩ := q
         have hq2 : kU rad (zW l first done d x) (zI l x) (zI l y) x y = some (d', y') := by
          split at hq
          · cases hq
          · exact hq
         have hk := nT hq2
         exact gY r _ _ _ _ (NI hpen hq2) (fun e => by cases e) (fun _ e => by rw [show y'.k = 1 from hk] at e; cases e) (fun e => by rw [show y'.k = 1 from hk] at e; cases e) hrr he
theorem KJ {ax ay bx b_y : Int} (h1 : qf ax ay = true) (h2 : qf bx b_y = true) (h : qJ ax ay bx b_y < 1) : bx = ax ∧ b_y = ay := by
 unfold qJ at h
 rw [h1, h2, if_pos (by rfl)] at h
 have h3 : vO (jv ax ay bx b_y).toNat = 0 := by omega
 have h4 := (ZV _).1 h3
 have hx : 0 ≤ (bx - ax) * (bx - ax) := by
  rcases Int.le_total 0 (bx - ax) with q | q
  · exact Int.mul_nonneg q q
  · have := Int.mul_nonneg (show (0 : Int) ≤ -(bx - ax) by omega) (show (0 : Int) ≤ -(bx - ax) by omega)
    rwa [Int.neg_mul_neg] at this
 have hy : 0 ≤ (b_y - ay) * (b_y - ay) := by
  rcases Int.le_total 0 (b_y - ay) with q | q
  · exact Int.mul_nonneg q q
  · have := Int.mul_nonneg (show (0 : Int) ≤ -(b_y - ay) by omega) (show (0 : Int) ≤ -(b_y - ay) by omega)
    rwa [Int.neg_mul_neg] at this
 have h5 : (bx - ax) * (bx - ax) + (b_y - ay) * (b_y - ay) ≤ 0 := by
  unfold jv at h4
  omega
 have e1 : (bx - ax) * (bx - ax) = 0 := by omega
 have e2 : (b_y - ay) * (b_y - ay) = 0 := by omega
 have f1 : bx - ax = 0 := by rcases Int.mul_eq_zero.1 e1 with q | q <;> exact q
 have f2 : b_y - ay = 0 := by rcases Int.mul_eq_zero.1 e2 with q | q <;> exact q
 omega
theorem YX {cx cy rad f s : Int} (hc : qf cx cy = true) (hr : 1 ≤ rad) (hr2 : rad ≤ 8000000) (hs : s = 64800000 ∨ s = -64800000) : 1 ≤ qA cx cy rad (norm f) s := by
 have hn := zM f
 unfold qA
 have hb : yX cx cy rad (norm f) s = true := by
  unfold yX
  rw [hc]
  simp only [Bool.true_and]
  exact decide_eq_true (by omega)
 rw [if_pos hb]
 have hsn : ((s.natAbs : Nat) : Int) = 64800000 := by omega
 rw [hsn]
 unfold jG
 rw [if_neg (by decide), if_neg (by decide)]
 rw [Int.fdiv_eq_ediv_of_nonneg _ (by decide)]
 omega
theorem gH {ax ay bx b_y : Int} (h1 : qf ax ay = true) (h2 : qf bx b_y = true) : (uU ax ay bx b_y).L < 1 → (uU ax ay bx b_y).bx = (uU ax ay bx b_y).ax ∧ (uU ax ay bx b_y).b_y = (uU ax ay bx b_y).ay := fun h => KJ h1 h2 h
theorem YY {ax ay bx b_y cx cy rad f s : Int} (hc : qf cx cy = true) (hr : 1 ≤ rad) (hr2 : rad ≤ 8000000) (hs : s = 64800000 ∨ s = -64800000) :
 (Zo ax ay bx b_y cx cy rad f s).L < 1 → (Zo ax ay bx b_y cx cy rad f s).bx = (Zo ax ay bx b_y cx cy rad f s).ax ∧ (Zo ax ay bx b_y cx cy rad f s).b_y = (Zo ax ay bx b_y cx cy rad f s).ay := fun h => by
 have := YX (f := f) hc hr hr2 hs
 have h2 : qA cx cy rad (norm f) s < 1 := h
 omega
theorem UU (tn : Int) : 2 * xz tn = 64800000 ∨ 2 * xz tn = -64800000 := by unfold xz; split <;> omega
theorem yT {px py c d : Int} (h : (zi px py c d).2.2 = 0) : qf (zi px py c d).1 (zi px py c d).2.1 = true := by
 unfold zi at h ⊢
 split at h
 · cases h
 · rename_i h1
   rw [if_neg h1]
   split at h
   · cases h
   · rename_i h2
     rw [if_neg h2]
     split at h
     · rename_i h3
       rw [if_pos h3]
       exact h3
     · cases h
theorem YZ {fx fy inb tn leg rad : Int} (h : vY fx fy inb tn leg rad = 0) :
 qf fx fy = true ∧ (1 ≤ rad ∧ rad ≤ 2000000) ∧ qf (kV fx fy inb tn leg rad).x1 (kV fx fy inb tn leg rad).y1 = true ∧ qf (kV fx fy inb tn leg rad).x2 (kV fx fy inb tn leg rad).y2 = true ∧ qf (kV fx fy inb tn leg rad).x3 (kV fx fy inb tn leg rad).y3 = true ∧
 qf (kV fx fy inb tn leg rad).cx (kV fx fy inb tn leg rad).cy = true ∧ qf (kV fx fy inb tn leg rad).dx (kV fx fy inb tn leg rad).dy = true := by
 unfold vY at h
 split at h
 · cases h
 rename_i h1
 split at h
 · cases h
 rename_i h2
 split at h
 · rename_i h3
   obtain ⟨a1, a2, a3, a4, a5⟩ := h3
   have hv : qf fx fy = true := by
    rcases hq : qf fx fy with _ | _
    · rw [hq] at h1
      exact absurd rfl h1
    · rfl
   exact ⟨hv, by omega, yT a2, a4, yT a3, yT a1, a5⟩
 · cases h
theorem dW {fx fy inb tn leg rad : Int} (h : vY fx fy inb tn leg rad = 0) : chain fx fy (tN fx fy inb tn leg rad) := by
 obtain ⟨hf, hr, v1, v2, v3, vc, vd⟩ := YZ h
 exact ⟨rfl, rfl, YY vc hr.1 (by omega) (UU tn), rfl, rfl, gH v1 v2, rfl, rfl, YY vd hr.1 (by omega) (UU tn), rfl, rfl, gH v3 hf, trivial⟩
theorem KK {fx fy inb tn leg rad : Int} (w : Int) (h : vY fx fy inb tn leg rad = 0) : chain fx fy (tO w fx fy inb tn leg rad ++ tN fx fy inb tn leg rad) := by
 obtain ⟨hf, hr, v1, v2, v3, vc, vd⟩ := YZ h
 have hp := dW h
 have hq := UU tn
 have hm : -(2 * xz tn) = 64800000 ∨ -(2 * xz tn) = -64800000 := by omega
 unfold tO
 dsimp only
 split
 · exact ⟨rfl, rfl, gH hf v2, rfl, rfl, YY vd hr.1 (by omega) hq, rfl, rfl, gH v3 hf, hp⟩
 split
 · exact ⟨rfl, rfl, gH hf v3, rfl, rfl, YY vd hr.1 (by omega) hm, rfl, rfl, gH v2 hf, hp⟩
 · exact hp
theorem KL {fx fy crs tn dst rad : Int} (h : (vB fx fy crs tn dst rad).1 = 0) : chain fx fy (vB fx fy crs tn dst rad).2 := by
 unfold vB at h ⊢
 split at h
 · cases h
 rename_i h1
 rw [if_neg h1]
 split at h
 · cases h
 rename_i h2
 rw [if_neg h2]
 dsimp only at h ⊢
 split at h
 · rename_i h3
   rw [if_pos h3]
   obtain ⟨a1, a2, a3, a4, a5⟩ := h3
   have hv : qf fx fy = true := by
    rcases hq : qf fx fy with _ | _
    · rw [hq] at h1
      exact absurd rfl h1
    · rfl
   have hq := UU tn
   exact ⟨rfl, rfl, gH hv (yT a1), rfl, rfl, gH (yT a1) (yT a2), rfl, rfl, YY (yT a3) (by omega) (by omega) (by omega), rfl, rfl, gH (yT a4) (yT a5), rfl, rfl, gH (yT a5) hv, trivial⟩
 · rename_i h3
   cases h
theorem nU (l : List En) (rad : Int) (x : Tk) : rC l rad x := fun _ d hd h1 h2 he => by
 unfold kY at he ⊢
 split
 · rename_i h3
   rw [if_pos h3] at he
   exact Yu _ _ _ hd (by rw [h1, h2]; exact KL he)
 · rename_i h3
   rw [if_neg h3] at he
   split
   · rename_i h4
     rw [if_pos h4] at he
     exact absurd he h4
   · rename_i h4
     exact Yu _ _ _ hd (by rw [h1, h2]; exact KK _ (Classical.not_not.1 h4))
def lH (t : Tk) : Prop := t.k = 1 → t.ci = t.co ∧ -8000000 ≤ t.len ∧ t.len ≤ 8000000
def nV (p : Tk × Int) : Prop := p.2 = 0 → lH p.1
theorem zo {q : Prop} [Decidable q] {a b : Tk × Int} (ha : nV a) (hb : nV b) : nV (if q then a else b) := by split <;> assumption
theorem dX (ax ay bx b_y c : Int) {d : Int} (h : -8000000 ≤ d ∧ d ≤ 8000000) : lH (fO 1 ax ay bx b_y c d) := fun _ => ⟨rfl, h⟩
theorem Yv (ax ay bx b_y : Int) : -8000000 ≤ qJ ax ay bx b_y ∧ qJ ax ay bx b_y ≤ 8000000 := by
 have := kh ax ay bx b_y
 omega
theorem zA (e : Int) : nV (Tk.zero, e) := fun _ h => by cases h
theorem xD (ax ay bx b_y c : Int) : lH (qY ax ay bx b_y c) := by
 unfold qY
 split
 · exact dX _ _ _ _ _ (by decide)
 · exact dX _ _ _ _ _ (Yv _ _ _ _)
theorem Zv (ax ay c l : Int) : nV (kw ax ay c l) := by
 unfold kw
 split
 · rename_i h
   intro _
   refine dX _ _ _ _ _ ?_
   unfold zi at h
   split at h
   · cases h
   split at h
   · cases h
   · omega
 · exact zA _
theorem lI (ax ay bx b_y : Int) : -8000000 ≤ fP ax ay bx b_y ∧ fP ax ay bx b_y ≤ 8000000 := by
 unfold fP
 split
 · decide
 · exact Yv _ _ _ _
theorem lJ (fx fy c : Int) (x : En) : nV (yS fx fy c x) := by
 unfold yS
 exact zo (zA _) (zo (zA _) (zo (zA _) (zo (fun _ => xD _ _ _ _ _) (zo (zA _) (fun _ => dX _ _ _ _ _ (lI _ _ _ _))))))
theorem lK (fx fy : Int) (x : En) : nV (jP fx fy x) := by
 unfold jP
 refine zo (zA _) ?_
 split
 · exact zo (zA _) (zo (zA _) (zo (zA _) (fun _ h => by cases h)))
 · exact zA _
theorem KM (fx fy alt : Int) (x : En) (gr : Int) : nV (yp fx fy alt x gr) := by
 unfold yp
 exact zo (zA _) (Zv _ _ _ _)
theorem rF (a b c : Int) : nV (uV a b c) := by
 unfold uV
 exact zo (fun _ h => by cases h) (Zv _ _ _ _)
theorem NJ (fx fy : Int) (x : En) : nV (jX fx fy x) := by
 unfold jX
 exact zo (zA _) (zo (zA _) (zo (zA _) (zo (Zv _ _ _ _) (zo (zA _) (Zv _ _ _ _)))))
theorem NK (fx fy : Int) (x : En) : nV (vp fx fy x) := by
 unfold vp
 exact zo (zA _) (zo (zA _) (zo (zA _) (zo (zA _) (fun _ => dX _ _ _ _ _ (Yv _ _ _ _)))))
theorem NL (fx fy : Int) (x y : En) : nV (yF fx fy x y) := by
 unfold yF
 exact zo (zA _) (zo (zA _) (zo (zA _) (zo (zA _) (zo (zA _) (fun _ => dX _ _ _ _ _ (Yv _ _ _ _))))))
theorem lL (fx fy c alt : Int) (x y : En) (gr : Int) : nV (vR fx fy c alt x y gr) := by
 unfold vR
 exact zo (fun _ => xD _ _ _ _ _) (zo (fun _ => xD _ _ _ _ _) (zo (lJ _ _ _ _) (zo (lK _ _ _) (zo (KM _ _ _ _ _) (zo (KM _ _ _ _ _) (zo (Zv _ _ _ _) (zo (rF _ _ _) (zo (NJ _ _ _) (zo (NK _ _ _) (zo (NL _ _ _ _) (fun _ h => by cases h)))))))))))
theorem dY (pv : Option En) (fx fy c alt : Int) (x y : En) (spd bank oalt gr : Int) : nV (qP pv fx fy c alt x y spd bank oalt gr) := by
 unfold qP
 refine zo (fun _ _ => ⟨rfl, by show (-8000000 : Int) ≤ 0; decide, by show (0 : Int) ≤ 8000000; decide⟩) ?_
 unfold qg
 exact zo (zA _) (zo (zA _) (zo (zA _) (zo (zA _) (zo (zA _) (lL _ _ _ _ _ _ _)))))
theorem QW {spd bank oalt gr : Int} : ∀ (l : List En) (pv : Option En) (i : Nat) (fx fy c alt : Int) (t : Tk), t ∈ (qU spd bank oalt gr pv i fx fy c alt l).1 → lH t
 | [], pv, i, fx, fy, c, alt, t, h => by cases h
 | x :: r, pv, i, fx, fy, c, alt, t, h => by
   rcases hg : x.gap with _ | _
   · by_cases he : (qP pv fx fy c alt x (zH r) spd bank oalt gr).2 = 0
     · obtain ⟨T, hT⟩ : ∃ T, qP pv fx fy c alt x (zH r) spd bank oalt gr = (T, 0) := ⟨_, Prod.ext rfl he⟩
       rw [jc hg hT] at h
       unfold yf at h
       split at h
       · cases h
       · have hs := dY pv fx fy c alt x (zH r) spd bank oalt gr he
         rw [hT] at hs
         rcases List.mem_append.1 h with h | h
         · rw [List.mem_singleton.1 h]
           exact hs
         · exact QW r _ _ _ _ _ _ t h
     · obtain ⟨T, e, hT⟩ : ∃ T e, qP pv fx fy c alt x (zH r) spd bank oalt gr = (T, e) := ⟨_, _, rfl⟩
       rw [hT] at he
       rw [jz hg hT he] at h
       cases h
   · rw [jw hg] at h
     exact QW r _ _ _ _ _ _ t h
end Go.Proofs.YteanfgobpjdmnaaGreatDoor
