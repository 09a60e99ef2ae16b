/-
  What the deviation of an element is, as plain functions; no program.
-/
import Derived.Test.YtdfkkknkiioghaaGreatMPlain
import Derived.Test.YtdfkkknkiioghaaGreatMLaws
namespace Go.Proofs.YtdfkkknkiioghaaGreat
set_option linter.unusedVariables false

/-- the deviation from an element and the distance along it -/
def locF (c : Bool) (ax ay bx b_y cx cy r f s px py : Int) : Int × Int × Int := if c then arcOff cx cy r f s px py else offF ax ay bx b_y px py
/-- the bank of an arc: out of the answer of Bank, to the side of the sweep -/
def bankV (R : Int × Int) : Int := if R.2 = 0 then R.1 else 3000
def bankN (s : Int) (R : Int × Int) : Int := if s < 0 then -(bankV R) else bankV R
def alongV (al L n : Int) : Int := max (min (min (max al 0) L) n) 0
def errF (c : Bool) (ax ay bx b_y cx cy r f s L px py track speed : Int) (R : Int × Int) : Int × Int × Int × Int :=
  if track < 0 ∨ track ≥ 129600000 ∨ speed < 1 ∨ speed > 1000 then (0, 0, 0, 2) else
  if ¬ (locF c ax ay bx b_y cx cy r f s px py).2.2 = 0 then (0, 0, 0, (locF c ax ay bx b_y cx cy r f s px py).2.2) else
  if c then
    (if ¬ (arcAt cx cy r f s (alongV (locF c ax ay bx b_y cx cy r f s px py).2.1 L (arcLen cx cy r f s))).2.2.2 = 0 then (0, 0, 0, (arcAt cx cy r f s (alongV (locF c ax ay bx b_y cx cy r f s px py).2.1 L (arcLen cx cy r f s))).2.2.2)
    else ((locF c ax ay bx b_y cx cy r f s px py).1, diffF (arcAt cx cy r f s (alongV (locF c ax ay bx b_y cx cy r f s px py).2.1 L (arcLen cx cy r f s))).2.2.1 track, bankN s R, 0))
  else (if ¬ (courseF ax ay bx b_y).2 = 0 then (0, 0, 0, (courseF ax ay bx b_y).2) else ((locF c ax ay bx b_y cx cy r f s px py).1, diffF (courseF ax ay bx b_y).1 track, 0, 0))
section
variable {c : Bool} {ax ay bx b_y cx cy r f s L px py track speed o al e X Y C E : Int} {R : Int × Int}
theorem err_out (h : track < 0 ∨ track ≥ 129600000 ∨ speed < 1 ∨ speed > 1000) : errF c ax ay bx b_y cx cy r f s L px py track speed R = (0, 0, 0, 2) := by unfold errF; rw [if_pos h]
theorem err_loc (h : ¬ (track < 0 ∨ track ≥ 129600000 ∨ speed < 1 ∨ speed > 1000)) (hl : (o, al, e) = locF c ax ay bx b_y cx cy r f s px py) (he : ¬ e = 0) :
    errF c ax ay bx b_y cx cy r f s L px py track speed R = (0, 0, 0, e) := by unfold errF; rw [if_neg h, ← hl, if_pos he]
theorem err_line (h : ¬ (track < 0 ∨ track ≥ 129600000 ∨ speed < 1 ∨ speed > 1000)) (hl : (o, al, (0 : Int)) = locF false ax ay bx b_y cx cy r f s px py) (hc : (C, E) = courseF ax ay bx b_y) :
    errF false ax ay bx b_y cx cy r f s L px py track speed R = if E = 0 then (o, diffF C track, 0, 0) else (0, 0, 0, E) := by
  unfold errF; rw [if_neg h, ← hl, if_neg (by simp), if_neg (by decide), ← hc]
  by_cases hE : E = 0
  · rw [if_pos hE, if_neg (by simp [hE])]
  · rw [if_neg hE, if_pos hE]
theorem err_arc (h : ¬ (track < 0 ∨ track ≥ 129600000 ∨ speed < 1 ∨ speed > 1000)) (hl : (o, al, (0 : Int)) = locF true ax ay bx b_y cx cy r f s px py)
    (hc : (X, Y, C, E) = arcAt cx cy r f s (alongV al L (arcLen cx cy r f s))) :
    errF true ax ay bx b_y cx cy r f s L px py track speed R = if E = 0 then (o, diffF C track, bankN s R, 0) else (0, 0, 0, E) := by
  unfold errF; rw [if_neg h, ← hl, if_neg (by simp), if_pos rfl, ← hc]
  by_cases hE : E = 0
  · rw [if_pos hE, if_neg (by simp [hE])]
  · rw [if_neg hE, if_pos hE]
end
theorem alongV_cases (al L n : Int) (hn : 0 ≤ n) :
    (al < 0 ∧ L < 0 ∧ alongV al L n = 0) ∨ (al < 0 ∧ 0 ≤ L ∧ alongV al L n = 0) ∨ (0 ≤ al ∧ L < al ∧ L < 0 ∧ alongV al L n = 0) ∨ (0 ≤ al ∧ L < al ∧ 0 ≤ L ∧ n < L ∧ alongV al L n = n) ∨
    (0 ≤ al ∧ L < al ∧ 0 ≤ L ∧ L ≤ n ∧ alongV al L n = L) ∨ (0 ≤ al ∧ al ≤ L ∧ n < al ∧ alongV al L n = n) ∨ (0 ≤ al ∧ al ≤ L ∧ al ≤ n ∧ alongV al L n = al) := by
  unfold alongV
  omega
end Go.Proofs.YtdfkkknkiioghaaGreat

/-
  Paths and the progress along them, as plain functions; no program.
-/
namespace Go.Proofs.YtdfkkknkiioghaaGreat
set_option linter.unusedVariables false

/-- an element of a path -/
structure El where
  c : Bool
  ax : Int
  ay : Int
  bx : Int
  b_y : Int
  cx : Int
  cy : Int
  r : Int
  f : Int
  s : Int
  L : Int
  n : Int
  g : Bool
/-- two points differ by more than 16 in a coordinate -/
def farB (px py qx qy : Int) : Bool := decide (16 < ((px - qx).natAbs : Int) ∨ 16 < ((py - qy).natAbs : Int))
def awayB (cx cy r f s al px py : Int) : Bool := decide ((arcAt cx cy r f s al).2.2.2 = 0) && farB px py (arcAt cx cy r f s al).1 (arcAt cx cy r f s al).2.1
/-- the error of an element by itself -/
def elemF (c : Bool) (ax ay bx b_y cx cy r f s L : Int) : Int :=
  if !(vldB ax ay && vldB bx b_y) then 1 else
  if c then
    (if !arcB cx cy r f s then 1 else if L < 1 ∨ ¬ L = arcLen cx cy r f s then 4 else
      if awayB cx cy r f s 0 ax ay || awayB cx cy r f s (arcLen cx cy r f s) bx b_y then 10 else 0)
  else (if ¬ (cx = 0 ∧ cy = 0 ∧ r = 0 ∧ f = 0 ∧ s = 0) then 1 else if L < 1 ∨ ¬ L = distF ax ay bx b_y then 4 else 0)
def El.err (x : El) : Int := elemF x.c x.ax x.ay x.bx x.b_y x.cx x.cy x.r x.f x.s x.L
/-- a path's error from an element on: first: no element is ahead; en, bx, b_y: the entry and the end of the element ahead; sum: the lengths ahead -/
def chkG (len : Int) : Bool → Int → Int → Int → Int → List El → Int
  | _, _, _, _, sum, [] => if len = sum then 0 else 4
  | first, en, bx, b_y, sum, x :: l =>
    if ¬ x.err = 0 then x.err else
    if x.n < en ∨ (first = true ∧ x.g = true) then 9 else
    if first = false ∧ x.g = false ∧ ¬ (x.ax = bx ∧ x.ay = b_y) then 10 else
    chkG len false x.n x.bx x.b_y (sum + x.L) l
def chkF (l : List El) (len : Int) : Int := if 500 < l.length then 3 else chkG len true 0 0 0 0 l
/-- a point is beyond the end of an element -/
def overF (c : Bool) (ax ay bx b_y cx cy r f s px py : Int) : Bool :=
  if !(vldB px py && vldB ax ay && vldB bx b_y) then false else
  if c then
    (if !arcB cx cy r f s || decide (px = cx ∧ py = cy) then false else
      decide ((s.natAbs : Int) ≤ sweepF (decide (0 ≤ s)) f (courseF cx cy px py).1 ∧ sweepF (decide (0 ≤ s)) f (courseF cx cy px py).1 < s.natAbs + (129600000 - s.natAbs) / 2))
  else decide (0 ≤ aheadF ax ay bx b_y px py)
def El.over (x : El) (px py : Int) : Bool := overF x.c x.ax x.ay x.bx x.b_y x.cx x.cy x.r x.f x.s px py
/-- an element is the last one, or the last one ahead of a discontinuity -/
def lastB (l : List El) (i : Nat) : Bool := match l[i + 1]? with | none => true | some x => x.g
theorem chkG_nil {len en bx b_y sum : Int} {f : Bool} : chkG len f en bx b_y sum [] = if len = sum then 0 else 4 := by unfold chkG; rfl
theorem chkG_cons {len en bx b_y sum : Int} {f : Bool} {x : El} {l : List El} : chkG len f en bx b_y sum (x :: l) =
    if ¬ x.err = 0 then x.err else if x.n < en ∨ (f = true ∧ x.g = true) then 9 else if f = false ∧ x.g = false ∧ ¬ (x.ax = bx ∧ x.ay = b_y) then 10 else chkG len false x.n x.bx x.b_y (sum + x.L) l := by
  rw [chkG]
theorem elem_L {c : Bool} {ax ay bx b_y cx cy r f s L : Int} (h : elemF c ax ay bx b_y cx cy r f s L = 0) : 1 ≤ L ∧ L ≤ 60000000 := by
  have d := distF_bd ax ay bx b_y
  have m := arcLen_bd cx cy r f s
  unfold elemF at h
  (repeat' split at h) <;> first | (cases h; done) | (constructor <;> omega)
end Go.Proofs.YtdfkkknkiioghaaGreat

/-
  What steps along a path do, and what is left of it: plain laws; no program.
-/
namespace Go.Proofs.YtdfkkknkiioghaaGreat
set_option linter.unusedVariables false
set_option linter.unusedSimpArgs false
/-- the steps along the elements at a point: the element, its entry, done, the entries passed -/
def stepG (l : List El) (px py : Int) : Nat → Nat → Int → List Int → Nat × Int × Bool × List Int
  | 0, k, en, ps => (k, en, false, ps)
  | m + 1, k, en, ps =>
    match l[k]? with
    | none => (k, en, false, ps)
    | some x =>
      if x.over px py = false then (k, en, false, ps) else
      match l[k + 1]? with
      | none => (k, en, true, ps ++ [en])
      | some y => if y.g = true then (k, en, true, ps ++ [en]) else if y.n = en then stepG l px py m (k + 1) en ps else stepG l px py m (k + 1) y.n (ps ++ [en])
theorem stepG_stay {l : List El} {px py : Int} {m k : Nat} {en : Int} {ps : List Int} {x : El} (hx : l[k]? = some x) (h : x.over px py = false) : stepG l px py (m + 1) k en ps = (k, en, false, ps) := by
  rw [stepG, hx]; simp [h]
theorem stepG_end {l : List El} {px py : Int} {m k : Nat} {en : Int} {ps : List Int} {x : El} (hx : l[k]? = some x) (h : x.over px py = true) (hl : lastB l k = true) : stepG l px py (m + 1) k en ps = (k, en, true, ps ++ [en]) := by
  rw [stepG, hx]
  unfold lastB at hl
  rcases hy : l[k + 1]? with _ | y
  · simp [h]
  · rw [hy] at hl
    simp only at hl
    simp [h, hl]
theorem stepG_on {l : List El} {px py : Int} {m k : Nat} {en : Int} {ps : List Int} {x y : El} (hx : l[k]? = some x) (h : x.over px py = true) (hy : l[k + 1]? = some y) (hg : y.g = false) :
    stepG l px py (m + 1) k en ps = if y.n = en then stepG l px py m (k + 1) en ps else stepG l px py m (k + 1) y.n (ps ++ [en]) := by
  rw [stepG, hx]
  simp [h, hy, hg]
/-- the lengths behind an element, up to the end or a discontinuity, added to s -/
def restG (l : List El) : Nat → Nat → Int → Int
  | 0, _, s => s
  | m + 1, j, s => if lastB l j = true then s else restG l m (j + 1) (s + ((l[j + 1]?).map (fun x => x.L)).getD 0)
theorem chkG_errs {len : Int} : ∀ {l : List El} {f : Bool} {en bx b_y sum : Int}, chkG len f en bx b_y sum l = 0 → ∀ x ∈ l, x.err = 0
  | [], _, _, _, _, _, _, x, hx => by cases hx
  | y :: l, f, en, bx, b_y, sum, h, x, hx => by
    rw [chkG_cons] at h
    by_cases h1 : y.err = 0
    · rw [if_neg (by simp [h1])] at h
      by_cases h2 : y.n < en ∨ (f = true ∧ y.g = true)
      · rw [if_pos h2] at h; cases h
      · rw [if_neg h2] at h
        by_cases h3 : f = false ∧ y.g = false ∧ ¬ (y.ax = bx ∧ y.ay = b_y)
        · rw [if_pos h3] at h; cases h
        · rw [if_neg h3] at h
          rcases List.mem_cons.1 hx with rfl | hx
          · exact h1
          · exact chkG_errs h x hx
    · rw [if_pos h1] at h; exact absurd h h1
theorem chkF_L {l : List El} {len : Int} (h : chkF l len = 0) {k : Nat} {x : El} (hx : l[k]? = some x) : 1 ≤ x.L ∧ x.L ≤ 60000000 := by
  unfold chkF at h
  by_cases h5 : 500 < l.length
  · rw [if_pos h5] at h; cases h
  · rw [if_neg h5] at h
    exact elem_L (chkG_errs h x (List.mem_of_getElem? hx))
/-- Step: the progress and the entries passed -/
def stepR (l : List El) (len el e0 : Int) (dn : Bool) (px py : Int) : Int × Int × Bool × List Int :=
  if ¬ chkF l len = 0 then (el, e0, dn, []) else if vldB px py = false then (el, e0, dn, []) else if dn = true then (el, e0, dn, []) else
  if el < 0 ∨ (l.length : Int) ≤ el then (el, e0, dn, []) else
  match l[el.toNat]? with
  | none => (el, e0, dn, [])
  | some x => (((stepG l px py (l.length - el.toNat) el.toNat x.n []).1 : Int), (stepG l px py (l.length - el.toNat) el.toNat x.n []).2.1, (stepG l px py (l.length - el.toNat) el.toNat x.n []).2.2.1, (stepG l px py (l.length - el.toNat) el.toNat x.n []).2.2.2)
/-! ### what a path without error is -/
def sumL : List El → Int
  | [] => 0
  | x :: l => x.L + sumL l
theorem sumL_nil : sumL [] = 0 := rfl
theorem sumL_cons (x : El) (l : List El) : sumL (x :: l) = x.L + sumL l := rfl
theorem chkG_ok {len : Int} : ∀ {l : List El} {f : Bool} {en bx b_y sum : Int}, chkG len f en bx b_y sum l = 0 →
    (∀ (i : Nat) (x : El), l[i]? = some x → en ≤ x.n) ∧
    (∀ (i : Nat) (x y : El), l[i]? = some x → l[i + 1]? = some y → x.n ≤ y.n ∧ (y.g = false → y.ax = x.bx ∧ y.ay = x.b_y)) ∧
    (∀ x : El, l[0]? = some x → (f = true → x.g = false)) ∧ len = sum + sumL l
  | [], f, en, bx, b_y, sum, h => by
    rw [chkG_nil] at h
    split at h
    · rename_i hl
      exact ⟨by simp, by simp, by simp, by rw [sumL_nil]; omega⟩
    · cases h
  | z :: l, f, en, bx, b_y, sum, h => by
    rw [chkG_cons] at h
    by_cases h1 : z.err = 0
    · rw [if_neg (by simp [h1])] at h
      by_cases h2 : z.n < en ∨ (f = true ∧ z.g = true)
      · rw [if_pos h2] at h; cases h
      · rw [if_neg h2] at h
        by_cases h3 : f = false ∧ z.g = false ∧ ¬ (z.ax = bx ∧ z.ay = b_y)
        · rw [if_pos h3] at h; cases h
        · rw [if_neg h3] at h
          obtain ⟨a, b, c, d⟩ := chkG_ok h
          have h4 : f = true → z.g = false := fun hf => by
            cases hg : z.g with
            | false => rfl
            | true => exact absurd (Or.inr ⟨hf, hg⟩) h2
          have h5 : en ≤ z.n := by omega
          refine ⟨?_, ?_, ?_, ?_⟩
          · intro i x hx
            cases i with
            | zero => simp at hx; subst hx; exact h5
            | succ i => simp at hx; exact Int.le_trans h5 (a i x hx)
          · intro i x y hx hy
            cases i with
            | zero =>
              simp at hx hy
              subst hx
              refine ⟨a 0 y hy, fun hg => ?_⟩
              have := chkG_first h y hy
              exact this hg
            | succ i => simp at hx hy; exact b i x y hx hy
          · intro x hx
            simp at hx
            subst hx
            exact h4
          · rw [sumL_cons]; omega
    · rw [if_pos h1] at h; exact absurd h h1
where
  chkG_first {len : Int} {l : List El} {en bx b_y sum : Int} (h : chkG len false en bx b_y sum l = 0) (y : El) (hy : l[0]? = some y) (hg : y.g = false) : y.ax = bx ∧ y.ay = b_y := by
    cases l with
    | nil => simp at hy
    | cons z l =>
      simp at hy
      subst hy
      rw [chkG_cons] at h
      by_cases h1 : z.err = 0
      · rw [if_neg (by simp [h1])] at h
        by_cases h2 : z.n < en ∨ (false = true ∧ z.g = true)
        · rw [if_pos h2] at h; cases h
        · rw [if_neg h2] at h
          by_cases h3 : false = false ∧ z.g = false ∧ ¬ (z.ax = bx ∧ z.ay = b_y)
          · rw [if_pos h3] at h; cases h
          · rcases Classical.em (z.ax = bx ∧ z.ay = b_y) with h6 | h6
            · exact h6
            · exact absurd ⟨rfl, hg, h6⟩ h3
      · rw [if_pos h1] at h; exact absurd h h1
/-- a path without error -/
structure OkPath (l : List El) (len : Int) : Prop where
  short : l.length ≤ 500
  err : ∀ (i : Nat) (x : El), l[i]? = some x → x.err = 0
  low : ∀ (i : Nat) (x : El), l[i]? = some x → 0 ≤ x.n
  rise : ∀ (i : Nat) (x y : El), l[i]? = some x → l[i + 1]? = some y → x.n ≤ y.n
  meet : ∀ (i : Nat) (x y : El), l[i]? = some x → l[i + 1]? = some y → y.g = false → y.ax = x.bx ∧ y.ay = x.b_y
  first : ∀ x : El, l[0]? = some x → x.g = false
  sum : len = sumL l
theorem okPath {l : List El} {len : Int} (h : chkF l len = 0) : OkPath l len := by
  unfold chkF at h
  by_cases h5 : 500 < l.length
  · rw [if_pos h5] at h; cases h
  · rw [if_neg h5] at h
    obtain ⟨a, b, c, d⟩ := chkG_ok h
    exact ⟨by omega, fun i x hx => chkG_errs h x (List.mem_of_getElem? hx), a, fun i x y hx hy => (b i x y hx hy).1, fun i x y hx hy => (b i x y hx hy).2, fun x hx => c x hx rfl, by omega⟩

/-! ### steps: the entries that are passed rise, and a second step passes none -/
/-- the last one of a list, or z -/
def lastI (z : Int) (ts : List Int) : Int := (ts.getLast?).getD z
/-- each one is greater than the one ahead of it; the first one is greater than z -/
def upI : Int → List Int → Prop
  | _, [] => True
  | z, t :: ts => z < t ∧ upI t ts
theorem lastI_cons (z t : Int) (ts : List Int) : lastI z (t :: ts) = lastI t ts := by
  unfold lastI
  rw [List.getLast?_cons]
  cases ts.getLast? <;> rfl
theorem stepG_acc (l : List El) (px py : Int) : ∀ (m k : Nat) (en : Int) (ps : List Int), stepG l px py m k en ps = ((stepG l px py m k en []).1, (stepG l px py m k en []).2.1, (stepG l px py m k en []).2.2.1, ps ++ (stepG l px py m k en []).2.2.2)
  | 0, k, en, ps => by simp [stepG]
  | m + 1, k, en, ps => by
    rw [stepG, stepG]
    cases hk : l[k]? with
    | none => simp
    | some x =>
      dsimp only
      by_cases ho : x.over px py = false
      · simp [ho]
      · simp only [ho, if_false]
        cases hk2 : l[k + 1]? with
        | none => simp
        | some y =>
          dsimp only
          by_cases hg : y.g = true
          · simp [hg]
          · simp only [hg, if_false]
            by_cases hn : y.n = en
            · simp only [hn, if_true]
              exact stepG_acc l px py m (k + 1) en ps
            · simp only [hn, if_false]
              rw [stepG_acc l px py m (k + 1) y.n (ps ++ [en]), stepG_acc l px py m (k + 1) y.n ([] ++ [en])]
              simp
theorem stepG_law {l : List El} {len : Int} (ok : OkPath l len) (px py : Int) : ∀ (m k : Nat) (x : El), l[k]? = some x → l.length ≤ k + m →
    ∃ (k' : Nat) (d : Bool) (ts : List Int) (y : El), stepG l px py m k x.n [] = (k', y.n, d, ts) ∧ k ≤ k' ∧ l[k']? = some y ∧ x.n ≤ y.n ∧ (d = false → y.over px py = false) ∧
      ∀ z, z < x.n → upI z ts ∧ (d = false → lastI z ts < y.n)
  | 0, k, x, hx, hm => by
    have := (List.getElem?_eq_some_iff.1 hx).1
    omega
  | m + 1, k, x, hx, hm => by
    by_cases ho : x.over px py = false
    · exact ⟨k, false, [], x, stepG_stay hx ho, Nat.le_refl _, hx, Int.le_refl _, fun _ => ho, fun z hz => ⟨trivial, fun _ => hz⟩⟩
    · have ho : x.over px py = true := by simpa using ho
      cases hl : lastB l k with
      | true => exact ⟨k, true, [x.n], x, stepG_end hx ho hl, Nat.le_refl _, hx, Int.le_refl _, by simp, fun z hz => ⟨⟨hz, trivial⟩, by simp⟩⟩
      | false =>
        unfold lastB at hl
        cases hy : l[k + 1]? with
        | none => rw [hy] at hl; cases hl
        | some y =>
          rw [hy] at hl
          have hr := ok.rise k x y hx hy
          have ih := stepG_law ok px py m (k + 1) y hy (by omega)
          obtain ⟨k', d, ts, u, e, h1, h2, h3, h4, h5⟩ := ih
          rw [stepG_on hx ho hy hl]
          by_cases hn : y.n = x.n
          · rw [if_pos hn, ← hn]
            exact ⟨k', d, ts, u, e, by omega, h2, h3, h4, h5⟩
          · rw [if_neg hn, stepG_acc, e]
            refine ⟨k', d, x.n :: ts, u, rfl, by omega, h2, by omega, h4, fun z hz => ?_⟩
            have h6 := h5 x.n (by omega)
            exact ⟨⟨hz, h6.1⟩, fun hd => by rw [lastI_cons]; exact h6.2 hd⟩
theorem stepG_again {l : List El} {px py : Int} {k : Nat} {x : El} (hx : l[k]? = some x) (ho : x.over px py = false) : stepG l px py (l.length - k) k x.n [] = (k, x.n, false, []) := by
  have := (List.getElem?_eq_some_iff.1 hx).1
  rw [show l.length - k = (l.length - k - 1) + 1 from by omega]
  exact stepG_stay hx ho

/-- a state of a play: the element is in the path; the entry is that of the element and greater than the last one passed, unless all is done -/
def playB (l : List El) (el e0 : Int) (dn : Bool) (last : Int) : Prop := 0 ≤ el ∧ el < l.length ∧ (dn = false → ∃ x, l[el.toNat]? = some x ∧ e0 = x.n ∧ last < x.n)
theorem play_start {l : List El} {len : Int} (ok : OkPath l len) {x : El} (hx : l[0]? = some x) : playB l 0 x.n false (-1) := by
  have h := (List.getElem?_eq_some_iff.1 hx).1
  have := ok.low 0 x hx
  exact ⟨by omega, by omega, fun _ => ⟨x, hx, rfl, by omega⟩⟩
/-- one point: the progress does not fall, the entries passed rise, a second step at the point passes none -/
theorem play_step {l : List El} {len : Int} (hc : chkF l len = 0) {el e0 last : Int} {dn : Bool} (h : playB l el e0 dn last) (px py : Int) {R : Int × Int × Bool × List Int} (hR : R = stepR l len el e0 dn px py) :
    el ≤ R.1 ∧ (dn = true → R.1 = el ∧ R.2.1 = e0 ∧ R.2.2.1 = dn) ∧ upI last R.2.2.2 ∧ playB l R.1 R.2.1 R.2.2.1 (lastI last R.2.2.2) ∧ stepR l len R.1 R.2.1 R.2.2.1 px py = (R.1, R.2.1, R.2.2.1, []) := by
  have ok := okPath hc
  have same : R = (el, e0, dn, []) → stepR l len el e0 dn px py = (el, e0, dn, []) → el ≤ R.1 ∧ (dn = true → R.1 = el ∧ R.2.1 = e0 ∧ R.2.2.1 = dn) ∧ upI last R.2.2.2 ∧ playB l R.1 R.2.1 R.2.2.1 (lastI last R.2.2.2) ∧ stepR l len R.1 R.2.1 R.2.2.1 px py = (R.1, R.2.1, R.2.2.1, []) := by
    intro e e2
    subst e
    exact ⟨Int.le_refl _, fun _ => ⟨rfl, rfl, rfl⟩, trivial, h, e2⟩
  have hR0 := hR
  unfold stepR at hR
  rw [if_neg (by simp [hc])] at hR
  rcases hq : vldB px py with _ | _
  · rw [if_pos hq] at hR
    exact same hR (hR0.symm.trans hR)
  · rw [if_neg (by simp [hq])] at hR
    cases dn with
    | true =>
      rw [if_pos rfl] at hR
      exact same hR (hR0.symm.trans hR)
    | false =>
      rw [if_neg (by simp)] at hR
      obtain ⟨h1, h2, h3⟩ := h
      obtain ⟨x, hx, he, hl⟩ := h3 rfl
      rw [if_neg (by omega), hx] at hR
      dsimp only at hR
      obtain ⟨k', d, ts, y, e, g1, g2, g3, g4, g5⟩ := stepG_law ok px py (l.length - el.toNat) el.toNat x hx (by omega)
      rw [e] at hR
      subst hR
      dsimp only
      have g6 := (List.getElem?_eq_some_iff.1 g2).1
      have g7 := g5 last hl
      refine ⟨by omega, by simp, g7.1, ⟨by omega, by omega, fun hd => ⟨y, by simpa using g2, rfl, g7.2 hd⟩⟩, ?_⟩
      unfold stepR
      rw [if_neg (by simp [hc]), if_neg (by simp [hq])]
      cases d with
      | true => rw [if_pos rfl]
      | false =>
        rw [if_neg (by simp), if_neg (by omega), show ((k' : Int)).toNat = k' from by omega, g2]
        dsimp only
        rw [stepG_again g2 (g4 rfl)]
/-! ### straight paths -/
theorem elem_straight {ax ay bx b_y cx cy r f s L : Int} (h : elemF false ax ay bx b_y cx cy r f s L = 0) : vldB ax ay = true ∧ vldB bx b_y = true ∧ ¬ (ax = bx ∧ ay = b_y) ∧ L = distF ax ay bx b_y ∧ 1 ≤ L := by
  unfold elemF at h
  by_cases h1 : (!(vldB ax ay && vldB bx b_y)) = true
  · rw [if_pos h1] at h; cases h
  · rw [if_neg h1, if_neg (by decide)] at h
    by_cases h2 : ¬ (cx = 0 ∧ cy = 0 ∧ r = 0 ∧ f = 0 ∧ s = 0)
    · rw [if_pos h2] at h; cases h
    · rw [if_neg h2] at h
      by_cases h3 : L < 1 ∨ ¬ L = distF ax ay bx b_y
      · rw [if_pos h3] at h; cases h
      · have hL : L = distF ax ay bx b_y := by omega
        have hv : vldB ax ay = true ∧ vldB bx b_y = true := by simpa using h1
        refine ⟨hv.1, hv.2, ?_, hL, by omega⟩
        rintro ⟨rfl, rfl⟩
        have : distF ax ay ax ay = 0 := by
          unfold distF
          rw [hv.1]
          have e : dist2 ax ay ax ay = 0 := by unfold dist2; simp
          rw [e]
          simp [isq]
        omega
theorem over_end {x : El} (hc : x.c = false) (h : x.err = 0) : x.over x.bx x.b_y = true := by
  unfold El.err at h
  rw [hc] at h
  obtain ⟨h1, h2, _⟩ := elem_straight h
  unfold El.over overF
  rw [hc, h1, h2, ahead_b]
  simp
theorem over_begin {x : El} (hc : x.c = false) (h : x.err = 0) : x.over x.ax x.ay = false := by
  unfold El.err at h
  rw [hc] at h
  obtain ⟨h1, h2, h3, _⟩ := elem_straight h
  unfold El.over overF
  rw [hc, h1, h2, ahead_a h1 h2 h3]
  simp
/-- the end of each element passes this element and no other one -/
theorem straight_step {l : List El} {len : Int} (ok : OkPath l len) (hs : ∀ (i : Nat) (x : El), l[i]? = some x → x.c = false) {i : Nat} {x : El} (hx : l[i]? = some x) :
    (lastB l i = true → stepG l x.bx x.b_y (l.length - i) i x.n [] = (i, x.n, true, [x.n])) ∧
    (∀ y : El, l[i + 1]? = some y → y.g = false → stepG l x.bx x.b_y (l.length - i) i x.n [] = (i + 1, y.n, false, if y.n = x.n then [] else [x.n])) := by
  have hi := (List.getElem?_eq_some_iff.1 hx).1
  have ho := over_end (hs i x hx) (ok.err i x hx)
  rw [show l.length - i = (l.length - i - 1) + 1 from by omega]
  refine ⟨fun hl => stepG_end hx ho hl, fun y hy hg => ?_⟩
  have hi2 := (List.getElem?_eq_some_iff.1 hy).1
  have hb := over_begin (hs _ y hy) (ok.err _ y hy)
  obtain ⟨m1, m2⟩ := ok.meet i x y hx hy hg
  rw [m1, m2] at hb
  rw [stepG_on hx ho hy hg, show l.length - i - 1 = (l.length - i - 2) + 1 from by omega]
  by_cases hn : y.n = x.n
  · rw [if_pos hn, if_pos hn, ← hn]
    exact stepG_stay hy hb
  · rw [if_neg hn, if_neg hn]
    exact stepG_stay hy hb

/-! ### what is left -/
theorem restG_all {l : List El} (hg : ∀ (i : Nat) (x : El), l[i]? = some x → x.g = false) : ∀ (m j : Nat) (s : Int), j < l.length → l.length ≤ j + m → restG l m j s = s + sumL (l.drop (j + 1))
  | 0, j, s, h1, h2 => by omega
  | m + 1, j, s, h1, h2 => by
    rw [restG]
    by_cases h : j + 1 < l.length
    · have hy : l[j + 1]? = some l[j + 1] := List.getElem?_eq_getElem h
      have hl : lastB l j = false := by
        unfold lastB
        rw [hy]
        exact hg _ _ hy
      rw [if_neg (by rw [hl]; simp), restG_all hg m (j + 1) _ h (by omega), hy]
      rw [show l.drop (j + 1) = l[j + 1] :: l.drop (j + 1 + 1) from by rw [List.drop_eq_getElem_cons h], sumL_cons]
      simp
      omega
    · have hl : lastB l j = true := by
        unfold lastB
        rw [List.getElem?_eq_none (by omega)]
      rw [if_pos hl, List.drop_eq_nil_of_le (by omega), sumL_nil]
      omega
theorem lenF_zero0 (s : Int) : lenF 0 s = 0 := by
  unfold lenF
  rw [if_neg (by omega)]
  simp [isq]
theorem off_begin {ax ay bx b_y : Int} (h1 : vldB ax ay = true) (h2 : vldB bx b_y = true) (h3 : ¬ (ax = bx ∧ ay = b_y)) : offF ax ay bx b_y ax ay = (0, 0, 0) := by
  unfold offF
  rw [h1, h2, if_neg (by simp), if_neg h3]
  simp only [Int.sub_self, Int.mul_zero, Int.neg_zero, Int.add_zero]
  rw [lenF_zero0]
theorem whole {l : List El} {len : Int} (ok : OkPath l len) {x : El} (hx : l[0]? = some x) (hc : x.c = false) (hg : ∀ (i : Nat) (y : El), l[i]? = some y → y.g = false) :
    locF x.c x.ax x.ay x.bx x.b_y x.cx x.cy x.r x.f x.s x.ax x.ay = (0, 0, 0) ∧ restG l l.length 0 (x.L - clamp 0 0 x.L) = len := by
  have he := ok.err 0 x hx
  unfold El.err at he
  rw [hc] at he
  obtain ⟨h1, h2, h3, h4, h5⟩ := elem_straight he
  have h0 := (List.getElem?_eq_some_iff.1 hx).1
  constructor
  · unfold locF
    rw [hc, if_neg (by decide)]
    exact off_begin h1 h2 h3
  · rw [restG_all hg l.length 0 _ h0 (by omega), ok.sum]
    cases l with
    | nil => simp at h0
    | cons z l =>
      simp at hx
      subst hx
      unfold clamp
      rw [sumL_cons]
      simp
      omega
end Go.Proofs.YtdfkkknkiioghaaGreat

/-
  The point at a distance along a path lies on it; what beside it is how far off. No program.
-/
namespace Go.Proofs.YtdfkkknkiioghaaGreat
set_option linter.unusedVariables false
set_option linter.unusedSimpArgs false
/-- the element at a distance, and the distance along it -/
def pickG : List El → Int → Option (El × Int)
  | [], _ => none
  | x :: l, s => if x.L < s then pickG l (s - x.L) else some (x, s)
/-- the point and the course at a distance along an element, the error -/
def ptF (x : El) (s : Int) : Int × Int × Int × Int :=
  if x.c then arcAt x.cx x.cy x.r x.f x.s s else (x.ax + (muldiv 2 (x.bx - x.ax) s x.L).1, x.ay + (muldiv 2 (x.b_y - x.ay) s x.L).1, (courseF x.ax x.ay x.bx x.b_y).1, (courseF x.ax x.ay x.bx x.b_y).2)
/-- the point and the course at a distance along a path, the error -/
def patF (l : List El) (len s : Int) : Int × Int × Int × Int :=
  if ¬ chkF l len = 0 then (0, 0, 0, chkF l len) else if s < 0 ∨ len < s then (0, 0, 0, 2) else
  match pickG l s with
  | none => (0, 0, 0, 6)
  | some T => ptF T.1 T.2
theorem pickG_some {l : List El} : ∀ {s : Int}, l ≠ [] → s ≤ sumL l → ∃ T, pickG l s = some T := by
  induction l with
  | nil => intro s h; exact absurd rfl h
  | cons x l ih =>
    intro s _ h
    rw [pickG]
    rw [sumL_cons] at h
    by_cases hx : x.L < s
    · rw [if_pos hx]
      cases l with
      | nil => rw [sumL_nil] at h; omega
      | cons y l => exact ih (by simp) (by omega)
    · rw [if_neg hx]; exact ⟨_, rfl⟩
theorem pickG_nil (s : Int) : pickG [] s = none := rfl
theorem pickG_at {l : List El} {i : Nat} {x : El} (hx : l[i]? = some x) (s : Int) : pickG (l.drop i) s = if x.L < s then pickG (l.drop (i + 1)) (s - x.L) else some (x, s) := by
  have h := (List.getElem?_eq_some_iff.1 hx)
  obtain ⟨h1, h2⟩ := h
  rw [List.drop_eq_getElem_cons h1, h2, pickG]
theorem pickG_none {l : List El} {i : Nat} (h : l.length ≤ i) (s : Int) : pickG (l.drop i) s = none := by
  rw [List.drop_eq_nil_of_le h, pickG_nil]
theorem pickG_mem : ∀ {l : List El} {s : Int} {T : El × Int}, pickG l s = some T → T.1 ∈ l ∧ T.2 ≤ T.1.L ∧ (0 ≤ s → 0 ≤ T.2)
  | [], _, _, h => by cases h
  | x :: l, s, T, h => by
    rw [pickG] at h
    by_cases hx : x.L < s
    · rw [if_pos hx] at h
      obtain ⟨a, b, c⟩ := pickG_mem h
      exact ⟨List.mem_cons_of_mem _ a, b, fun hs => c (by omega)⟩
    · rw [if_neg hx] at h
      injection h with h
      subst h
      exact ⟨List.mem_cons_self, by show s ≤ x.L; omega, fun hs => hs⟩
theorem sumL_le : ∀ {l : List El}, (∀ x ∈ l, 1 ≤ x.L ∧ x.L ≤ 60000000) → 0 ≤ sumL l ∧ sumL l ≤ l.length * 60000000
  | [], _ => by rw [sumL_nil]; simp
  | x :: l, h => by
    have a := h x List.mem_cons_self
    have b := sumL_le (l := l) (fun y hy => h y (List.mem_cons_of_mem _ hy))
    rw [sumL_cons]
    simp
    omega
theorem chk_len {l : List El} {len : Int} (h : chkF l len = 0) : 0 ≤ len ∧ len ≤ 30000000000 := by
  have ok := okPath h
  have := sumL_le (l := l) (fun x hx => by
    obtain ⟨i, hi⟩ := List.getElem?_of_mem hx
    exact chkF_L h hi)
  have h5 := ok.short
  rw [ok.sum]
  omega
/-! ### a point of a line -/
theorem md_pt {d s L : Int} (hd : -4000000 ≤ d ∧ d ≤ 4000000) (h0 : 0 ≤ s) (h1 : s ≤ L) (hL : 1 ≤ L) (hL2 : L ≤ 60000000) :
    (muldiv 2 d s L).2 = 0 ∧ (-L ≤ 2 * ((muldiv 2 d s L).1 * L - d * s) ∧ 2 * ((muldiv 2 d s L).1 * L - d * s) ≤ L) ∧ -4000001 ≤ (muldiv 2 d s L).1 ∧ (muldiv 2 d s L).1 ≤ 4000001 := by
  have hn := rnd2_near (d * s) L (by omega)
  rw [show (L.natAbs : Int) = L from by omega] at hn
  have a1 : d * s ≤ 4000000 * s := Int.mul_le_mul_of_nonneg_right hd.2 h0
  have a2 : -4000000 * s ≤ d * s := Int.mul_le_mul_of_nonneg_right hd.1 h0
  have hb : -4000001 ≤ rnd 2 (d * s) L ∧ rnd 2 (d * s) L ≤ 4000001 := by
    generalize rnd 2 (d * s) L = v at *
    constructor
    · rcases Int.lt_or_le v (-4000001) with h | h
      · have : v * L ≤ -4000002 * L := Int.mul_le_mul_of_nonneg_right (by omega) (by omega)
        omega
      · exact h
    · rcases Int.lt_or_le 4000001 v with h | h
      · have : 4000002 * L ≤ v * L := Int.mul_le_mul_of_nonneg_right (by omega) (by omega)
        omega
      · exact h
  unfold muldiv
  rw [if_neg (by omega)]
  generalize rnd 2 (d * s) L = v at *
  have hi : in64 v = true := by unfold in64; exact decide_eq_true (by omega)
  rw [if_pos hi]
  exact ⟨rfl, hn, hb⟩
/-- twice what a rounded point is off, and the sum of the sides -/
theorem cross_pt {p q u v L s : Int} (hL : 1 ≤ L) (hu : -L ≤ 2 * (u * L - p * s) ∧ 2 * (u * L - p * s) ≤ L) (hv : -L ≤ 2 * (v * L - q * s) ∧ 2 * (v * L - q * s) ≤ L) :
    2 * (p * v - q * u) ≤ p.natAbs + q.natAbs ∧ -(p.natAbs + q.natAbs : Int) ≤ 2 * (p * v - q * u) := by
  generalize he : 2 * (u * L - p * s) = e at *
  generalize hf : 2 * (v * L - q * s) = f at *
  have key : 2 * (p * v - q * u) * L = p * f - q * e := by rw [← he, ← hf]; grind
  have b1 : ∀ (a t : Int), -L ≤ t → t ≤ L → a * t ≤ a.natAbs * L ∧ -(a.natAbs * L : Int) ≤ a * t := by
    intro a t h1 h2
    rcases Int.le_total 0 a with h | h
    · rw [show (a.natAbs : Int) = a from by omega]
      have x1 := Int.mul_le_mul_of_nonneg_left h2 h
      have x2 := Int.mul_le_mul_of_nonneg_left h1 h
      rw [Int.mul_neg] at x2
      omega
    · rw [show (a.natAbs : Int) = -a from by omega]
      have x1 := Int.mul_le_mul_of_nonneg_left h2 (show 0 ≤ -a by omega)
      have x2 := Int.mul_le_mul_of_nonneg_left h1 (show 0 ≤ -a by omega)
      rw [Int.neg_mul, Int.neg_mul] at x1 x2
      rw [Int.mul_neg] at x2
      rw [Int.neg_mul]
      omega
  have c1 := b1 p f hv.1 hv.2
  have c2 := b1 q e hu.1 hu.2
  generalize hX : 2 * (p * v - q * u) = X at *
  generalize hM : (p.natAbs : Int) + q.natAbs = M at *
  have e1 : M * L = p.natAbs * L + q.natAbs * L := by rw [← hM]; grind
  constructor
  · rcases Int.lt_or_le M X with h | h
    · have : (M + 1) * L ≤ X * L := Int.mul_le_mul_of_nonneg_right (by omega) (by omega)
      have e2 : (M + 1) * L = M * L + L := by grind
      omega
    · exact h
  · rcases Int.lt_or_le X (-M) with h | h
    · have : X * L ≤ -(M + 1) * L := Int.mul_le_mul_of_nonneg_right (by omega) (by omega)
      have e2 : -(M + 1) * L = -(M * L) - L := by grind
      omega
    · exact h
theorem abs_sq (p : Int) : (p.natAbs : Int) * p.natAbs = p * p := by
  rcases Int.le_total 0 p with h | h
  · rw [show (p.natAbs : Int) = p from by omega]
  · rw [show (p.natAbs : Int) = -p from by omega, Int.neg_mul_neg]
theorem lenF_small {n s : Int} (hs : 0 < s) (h : n * n < s) : lenF n s = 0 := by
  have h0 : n * n / s = 0 := Int.ediv_eq_zero_of_lt (sq_nonneg n) h
  unfold lenF
  rw [h0]
  simp [isq]
theorem big_of {ax ay bx b_y : Int} (h4 : ¬ (ax = bx ∧ ay = b_y)) : 1 ≤ big (bx - ax) (b_y - ay) := by unfold big; omega
/-- a rounded point of a line is on it -/
theorem on_line {ax ay bx b_y s L : Int} (h1 : vldB ax ay = true) (h2 : vldB bx b_y = true) (h4 : ¬ (ax = bx ∧ ay = b_y)) (h0 : 0 ≤ s) (hs : s ≤ L) (hL : 1 ≤ L) (hL2 : L ≤ 60000000)
    {X Y : Int} (hX : X = ax + (muldiv 2 (bx - ax) s L).1) (hY : Y = ay + (muldiv 2 (b_y - ay) s L).1) (h3 : vldB X Y = true) : ∃ al, offF ax ay bx b_y X Y = (0, al, 0) := by
  have v1 := vld_bds h1
  have v2 := vld_bds h2
  have u := md_pt (d := bx - ax) (by omega) h0 hs hL hL2
  have v := md_pt (d := b_y - ay) (by omega) h0 hs hL hL2
  rw [off_val h1 h2 h3 h4, hX, hY]
  have c := cross_pt hL u.2.1 v.2.1
  rw [show ay + (muldiv 2 (b_y - ay) s L).1 - ay = (muldiv 2 (b_y - ay) s L).1 from by omega, show ax + (muldiv 2 (bx - ax) s L).1 - ax = (muldiv 2 (bx - ax) s L).1 from by omega]
  suffices key : lenF (-((bx - ax) * (muldiv 2 (b_y - ay) s L).1 - (b_y - ay) * (muldiv 2 (bx - ax) s L).1)) (dist2 ax ay bx b_y) = 0 by
    rw [key]; exact ⟨_, rfl⟩
  apply lenF_small (dist2_pos h4)
  generalize (muldiv 2 (bx - ax) s L).1 = U at *
  generalize (muldiv 2 (b_y - ay) s L).1 = V at *
  unfold dist2
  have hp := dist2_pos h4
  unfold dist2 at hp
  generalize bx - ax = p at *
  generalize b_y - ay = q at *
  generalize hc : p * V - q * U = C at *
  have q1 := sq_bd (a := 2 * C) (m := p.natAbs + q.natAbs) (by omega) (by omega)
  have ap := abs_sq p
  have aq := abs_sq q
  have am := sq_nonneg ((p.natAbs : Int) - q.natAbs)
  have e1 : (2 * C) * (2 * C) = 4 * (C * C) := by grind
  have e2 : ((p.natAbs : Int) + q.natAbs) * (p.natAbs + q.natAbs) = p.natAbs * p.natAbs + q.natAbs * q.natAbs + 2 * (p.natAbs * q.natAbs) := by grind
  have e3 : ((p.natAbs : Int) - q.natAbs) * (p.natAbs - q.natAbs) = p.natAbs * p.natAbs + q.natAbs * q.natAbs - 2 * (p.natAbs * q.natAbs) := by grind
  rw [e1, e2] at q1
  rw [e3] at am
  have e4 : (-C) * (-C) = C * C := by grind
  rw [e4]
  omega
/-- a point of an arc is on it, but for one unit -/
theorem on_arc {cx cy r f s al X Y C : Int} (h : arcAt cx cy r f s al = (X, Y, C, 0)) {o a : Int} (ho : arcOff cx cy r f s X Y = (o, a, 0)) : -1 ≤ o ∧ o ≤ 1 ∧ arcB cx cy r f s = true := by
  unfold arcAt at h
  by_cases h1 : (!arcB cx cy r f s) = true
  · rw [if_pos h1] at h
    exact absurd (congrArg (fun t => t.2.2.2) h) (by simp)
  rw [if_neg h1] at h
  have hB : arcB cx cy r f s = true := by simpa using h1
  split at h
  · exact absurd (congrArg (fun t => t.2.2.2) h) (by simp)
  split at h
  · rename_i hr
    have hr1 := ((arcB_iff cx cy r f s).1 hB)
    generalize arcDir f s (arcLen cx cy r f s) al = D at *
    have e1 : (rayF cx cy D r).1 = X := congrArg (fun t => t.1) h
    have e2 : (rayF cx cy D r).2.1 = Y := congrArg (fun t => t.2.1) h
    have hray : rayF cx cy D r = (X, Y, 0) := by rw [← e1, ← e2, ← hr]
    have hd := rays hray
    unfold arcOff at ho
    split at ho
    · exact absurd (congrArg (fun t => t.2.2) ho) (by simp)
    split at ho
    · exact absurd (congrArg (fun t => t.2.2) ho) (by simp)
    have e3 : sideOf s (r - distF cx cy X Y) = o := congrArg (fun t => t.1) ho
    unfold sideOf at e3
    refine ⟨?_, ?_, hB⟩ <;> (split at e3 <;> omega)
  · exact absurd (congrArg (fun t => t.2.2.2) h) (by simp)
/-! ### points beside a line -/
theorem lenF_big {n s : Int} (hs : 0 < s) {k : Int} (hk : 1 ≤ k) (h : k * k * s ≤ n * n) : (0 < n → k ≤ lenF n s) ∧ (n < 0 → lenF n s ≤ -k) := by
  have l := lenN_spec n s hs
  have hk2 : k < lenN n s + 1 := by
    apply isq_lt' (by omega)
    rcases Int.lt_or_le (k * k) ((lenN n s + 1) * (lenN n s + 1)) with h5 | h5
    · exact h5
    · have := Int.mul_le_mul_of_nonneg_right h5 (show 0 ≤ s by omega)
      omega
  have c := lenF_cases n s
  constructor <;> intro hn <;> omega
/-- a point that lies at least 200 units beside a point of a line is more than 6 units off, to the right side: d = side or -side -/
theorem beside {ax ay bx b_y s L : Int} (h1 : vldB ax ay = true) (h2 : vldB bx b_y = true) (h4 : ¬ (ax = bx ∧ ay = b_y)) (h0 : 0 ≤ s) (hs : s ≤ L) (hL : 1 ≤ L) (hL2 : L ≤ 60000000)
    {X Y : Int} (hX : X = ax + (muldiv 2 (bx - ax) s L).1) (hY : Y = ay + (muldiv 2 (b_y - ay) s L).1) {side : Int} (hd : 200 ≤ side) {P Q : Int} (hv : vldB P Q = true) :
    (rayF X Y (atan2F (bx - ax) (b_y - ay) + 32400000) side = (P, Q, 0) → ∃ o al, offF ax ay bx b_y P Q = (o, al, 0) ∧ 6 ≤ o) ∧
    (rayF X Y (atan2F (bx - ax) (b_y - ay) - 32400000) side = (P, Q, 0) → ∃ o al, offF ax ay bx b_y P Q = (o, al, 0) ∧ o ≤ -6) := by
  have v1 := vld_bds h1
  have v2 := vld_bds h2
  have u := md_pt (d := bx - ax) (by omega) h0 hs hL hL2
  have v := md_pt (d := b_y - ay) (by omega) h0 hs hL hL2
  have c := cross_pt hL u.2.1 v.2.1
  have hp := dist2_pos h4
  have hb := big_of h4
  have hn := atan2_near (p := bx - ax) (q := b_y - ay) (by omega)
  have hsq := big_sq (bx - ax) (b_y - ay)
  have hbb : ((bx - ax).natAbs : Int) ≤ big (bx - ax) (b_y - ay) ∧ ((b_y - ay).natAbs : Int) ≤ big (bx - ax) (b_y - ay) := by unfold big; omega
  have hS := Sin_bd (atan2F (bx - ax) (b_y - ay))
  have s1 : Sin (atan2F (bx - ax) (b_y - ay) - 32400000) = -Cos (atan2F (bx - ax) (b_y - ay)) := by
    rw [show atan2F (bx - ax) (b_y - ay) - 32400000 = -(32400000 - atan2F (bx - ax) (b_y - ay)) from by omega, Sin_neg, Sin_quarter_sub]
  have s2 : Cos (atan2F (bx - ax) (b_y - ay) - 32400000) = Sin (atan2F (bx - ax) (b_y - ay)) := by
    rw [show atan2F (bx - ax) (b_y - ay) - 32400000 = -(32400000 - atan2F (bx - ax) (b_y - ay)) from by omega, Cos_neg, Cos_quarter_sub]
  have s3 := Sin_add_quarter (atan2F (bx - ax) (b_y - ay))
  have s4 := Cos_add_quarter (atan2F (bx - ax) (b_y - ay))
  unfold dist2 at hp
  -- what the sides are
  have key : ∀ (A B m n : Int), m = rnd 2 (side * A) 1073741824 → n = rnd 2 (side * B) 1073741824 → ∀ p q : Int, ∀ G : Int, (p.natAbs : Int) ≤ G → (q.natAbs : Int) ≤ G → 1 ≤ G → 759250125 * G ≤ q * A - p * B → 140 * G ≤ q * m - p * n := by
    intro A B m n hm hn p q G hpG hqG hG hAB
    have r1 := rnd2_one (side * A)
    have r2 := rnd2_one (side * B)
    rw [← hm] at r1
    rw [← hn] at r2
    generalize he : 2 * (m * 1073741824 - side * A) = e at *
    generalize hf : 2 * (n * 1073741824 - side * B) = f at *
    have bd : ∀ (a t : Int), (a.natAbs : Int) ≤ G → -1073741824 ≤ t → t ≤ 1073741824 → -(1073741824 * G) ≤ a * t := by
      intro a t ha h5 h6
      rcases Int.le_total 0 a with h | h
      · have x2 := Int.mul_le_mul_of_nonneg_left h5 h
        have : a * -1073741824 = -1073741824 * a := by grind
        omega
      · have x2 := Int.mul_le_mul_of_nonneg_left h6 (show 0 ≤ -a by omega)
        rw [Int.neg_mul] at x2
        have : -a * 1073741824 = -1073741824 * a := by grind
        omega
    have b1 := bd q e hqG r1.1 r1.2
    have b2 := bd (-p) f (by omega) r2.1 r2.2
    have w1 : 2 * 1073741824 * (q * m - p * n) = 2 * (side * (q * A - p * B)) + q * e + (-p) * f := by rw [← he, ← hf]; grind
    have w2 : 200 * (q * A - p * B) ≤ side * (q * A - p * B) := Int.mul_le_mul_of_nonneg_right hd (by omega)
    omega
  have k := fun m n hm hn0 => key (Cos (atan2F (bx - ax) (b_y - ay))) (-Sin (atan2F (bx - ax) (b_y - ay))) m n hm hn0 (bx - ax) (b_y - ay) (big (bx - ax) (b_y - ay)) hbb.1 hbb.2 hb (by
    have e1 : (b_y - ay) * Cos (atan2F (bx - ax) (b_y - ay)) - (bx - ax) * -Sin (atan2F (bx - ax) (b_y - ay)) = Sin (atan2F (bx - ax) (b_y - ay)) * (bx - ax) + Cos (atan2F (bx - ax) (b_y - ay)) * (b_y - ay) := by grind
    rw [e1]; exact hn.2)
  have k2 := fun m n hm hn0 => key (-Cos (atan2F (bx - ax) (b_y - ay))) (Sin (atan2F (bx - ax) (b_y - ay))) m n hm hn0 (-(bx - ax)) (-(b_y - ay)) (big (bx - ax) (b_y - ay)) (by omega) (by omega) hb (by
    have e1 : -(b_y - ay) * -Cos (atan2F (bx - ax) (b_y - ay)) - -(bx - ax) * Sin (atan2F (bx - ax) (b_y - ay)) = Sin (atan2F (bx - ax) (b_y - ay)) * (bx - ax) + Cos (atan2F (bx - ax) (b_y - ay)) * (b_y - ay) := by grind
    rw [e1]; exact hn.2)
  have hq2 : ∀ G : Int, 1 ≤ G → 36 * (2 * (G * G)) ≤ 100 * G * (100 * G) := by
    intro G hG
    have e : 100 * G * (100 * G) = 10000 * (G * G) := by grind
    have := Int.mul_le_mul hG hG (by decide) (by omega)
    omega
  have hq3 := hq2 _ hb
  constructor
  · intro hr
    have hr2 : (rayF X Y (atan2F (bx - ax) (b_y - ay) + 32400000) side).2.2 = 0 := by rw [hr]
    obtain ⟨_, _, _, _, e1, e2⟩ := ray_ok hr2
    rw [hr] at e1 e2
    dsimp only at e1 e2
    have k3 := k _ _ rfl rfl
    unfold rayX at e1
    unfold rayY at e2
    rw [s3] at e1
    rw [s4] at e2
    generalize rnd 2 (side * Cos (atan2F (bx - ax) (b_y - ay))) 1073741824 = m at *
    generalize rnd 2 (side * -Sin (atan2F (bx - ax) (b_y - ay))) 1073741824 = n at *
    refine ⟨_, _, off_val h1 h2 hv h4, ?_⟩
    rw [e1, e2, hX, hY]
    generalize (muldiv 2 (bx - ax) s L).1 = U at *
    generalize (muldiv 2 (b_y - ay) s L).1 = V at *
    unfold dist2
    generalize hG : big (bx - ax) (b_y - ay) = G at *
    have w1 : -((bx - ax) * (ay + V + n - ay) - (b_y - ay) * (ax + U + m - ax)) = -((bx - ax) * V - (b_y - ay) * U) + ((b_y - ay) * m - (bx - ax) * n) := by grind
    rw [w1]
    generalize (bx - ax) * V - (b_y - ay) * U = K at *
    generalize (b_y - ay) * m - (bx - ax) * n = J at *
    have g1 : 100 * G ≤ -K + J := by omega
    refine (lenF_big hp (k := 6) (by decide) ?_).1 (by omega)
    have g2 := Int.mul_le_mul g1 g1 (by omega) (by omega)
    omega
  · intro hr
    have hr2 : (rayF X Y (atan2F (bx - ax) (b_y - ay) - 32400000) side).2.2 = 0 := by rw [hr]
    obtain ⟨_, _, _, _, e1, e2⟩ := ray_ok hr2
    rw [hr] at e1 e2
    dsimp only at e1 e2
    have k3 := k2 _ _ rfl rfl
    unfold rayX at e1
    unfold rayY at e2
    rw [s1] at e1
    rw [s2] at e2
    generalize rnd 2 (side * -Cos (atan2F (bx - ax) (b_y - ay))) 1073741824 = m at *
    generalize rnd 2 (side * Sin (atan2F (bx - ax) (b_y - ay))) 1073741824 = n at *
    refine ⟨_, _, off_val h1 h2 hv h4, ?_⟩
    rw [e1, e2, hX, hY]
    generalize (muldiv 2 (bx - ax) s L).1 = U at *
    generalize (muldiv 2 (b_y - ay) s L).1 = V at *
    unfold dist2
    generalize hG : big (bx - ax) (b_y - ay) = G at *
    have w1 : -((bx - ax) * (ay + V + n - ay) - (b_y - ay) * (ax + U + m - ax)) = -((bx - ax) * V - (b_y - ay) * U) - (-(b_y - ay) * m - -(bx - ax) * n) := by grind
    rw [w1]
    generalize (bx - ax) * V - (b_y - ay) * U = K at *
    generalize -(b_y - ay) * m - -(bx - ax) * n = J at *
    have g1 : 100 * G ≤ K + J := by omega
    refine (lenF_big hp (k := 6) (by decide) ?_).2 (by omega)
    have g2 := Int.mul_le_mul g1 g1 (by omega) (by omega)
    have g3 : (K + J) * (K + J) = (-K - J) * (-K - J) := by grind
    omega
end Go.Proofs.YtdfkkknkiioghaaGreat

