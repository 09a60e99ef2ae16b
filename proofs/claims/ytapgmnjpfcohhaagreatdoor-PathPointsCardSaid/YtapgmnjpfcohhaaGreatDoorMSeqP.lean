/-
  What the deviation of an element is, as plain functions; no program.
-/
import Derived.Test.YtapgmnjpfcohhaaGreatDoorMLaws
import Derived.Test.YtapgmnjpfcohhaaGreatDoorMPlain
namespace Go.Proofs.YtapgmnjpfcohhaaGreatDoor
set_option linter.unusedVariables false

/-- the deviation from an element and the distance along it -/
def locF (c : Bool) (ax ay bx b_y cx cy r f s px py : Int) : Int × Int × Int := if c then arcOff cx cy r f s px py else offF ax ay bx b_y px py
section
variable {c : Bool} {ax ay bx b_y cx cy r f s L px py track speed o al e X Y C E : Int} {R : Int × Int}
end
end Go.Proofs.YtapgmnjpfcohhaaGreatDoor

/-
  Paths and the progress along them, as plain functions; no program.
-/
namespace Go.Proofs.YtapgmnjpfcohhaaGreatDoor
set_option linter.unusedVariables false

/-- an element of a path -/
structure El where
  c : Bool
  ax : Int
  ay : Int
  bx : Int
  b_y : Int
  cx : Int
  cy : Int
  r : Int
  f : Int
  s : Int
  L : Int
  n : Int
  g : Bool
/-- two points differ by more than 16 in a coordinate -/
def farB (px py qx qy : Int) : Bool := decide (16 < ((px - qx).natAbs : Int) ∨ 16 < ((py - qy).natAbs : Int))
def awayB (cx cy r f s al px py : Int) : Bool := decide ((arcAt cx cy r f s al).2.2.2 = 0) && farB px py (arcAt cx cy r f s al).1 (arcAt cx cy r f s al).2.1
/-- the error of an element by itself -/
def elemF (c : Bool) (ax ay bx b_y cx cy r f s L : Int) : Int :=
  if !(vldB ax ay && vldB bx b_y) then 1 else
  if c then
    (if !arcB cx cy r f s then 1 else if L < 1 ∨ ¬ L = arcLen cx cy r f s then 4 else
      if awayB cx cy r f s 0 ax ay || awayB cx cy r f s (arcLen cx cy r f s) bx b_y then 10 else 0)
  else (if ¬ (cx = 0 ∧ cy = 0 ∧ r = 0 ∧ f = 0 ∧ s = 0) then 1 else if L < 1 ∨ ¬ L = distF ax ay bx b_y then 4 else 0)
def El.err (x : El) : Int := elemF x.c x.ax x.ay x.bx x.b_y x.cx x.cy x.r x.f x.s x.L
/-- a path's error from an element on: first: no element is ahead; en, bx, b_y: the entry and the end of the element ahead; sum: the lengths ahead -/
def chkG (len : Int) : Bool → Int → Int → Int → Int → List El → Int
  | _, _, _, _, sum, [] => if len = sum then 0 else 4
  | first, en, bx, b_y, sum, x :: l =>
    if ¬ x.err = 0 then x.err else
    if x.n < en ∨ (first = true ∧ x.g = true) then 9 else
    if first = false ∧ x.g = false ∧ ¬ (x.ax = bx ∧ x.ay = b_y) then 10 else
    chkG len false x.n x.bx x.b_y (sum + x.L) l
def chkF (l : List El) (len : Int) : Int := if 500 < l.length then 3 else chkG len true 0 0 0 0 l
/-- a point is beyond the end of an element -/
def overF (c : Bool) (ax ay bx b_y cx cy r f s px py : Int) : Bool :=
  if !(vldB px py && vldB ax ay && vldB bx b_y) then false else
  if c then
    (if !arcB cx cy r f s || decide (px = cx ∧ py = cy) then false else
      decide ((s.natAbs : Int) ≤ sweepF (decide (0 ≤ s)) f (courseF cx cy px py).1 ∧ sweepF (decide (0 ≤ s)) f (courseF cx cy px py).1 < s.natAbs + (129600000 - s.natAbs) / 2))
  else decide (0 ≤ aheadF ax ay bx b_y px py)
def El.over (x : El) (px py : Int) : Bool := overF x.c x.ax x.ay x.bx x.b_y x.cx x.cy x.r x.f x.s px py
theorem chkG_nil {len en bx b_y sum : Int} {f : Bool} : chkG len f en bx b_y sum [] = if len = sum then 0 else 4 := by unfold chkG; rfl
theorem chkG_cons {len en bx b_y sum : Int} {f : Bool} {x : El} {l : List El} : chkG len f en bx b_y sum (x :: l) =
    if ¬ x.err = 0 then x.err else if x.n < en ∨ (f = true ∧ x.g = true) then 9 else if f = false ∧ x.g = false ∧ ¬ (x.ax = bx ∧ x.ay = b_y) then 10 else chkG len false x.n x.bx x.b_y (sum + x.L) l := by
  rw [chkG]
theorem elem_L {c : Bool} {ax ay bx b_y cx cy r f s L : Int} (h : elemF c ax ay bx b_y cx cy r f s L = 0) : 1 ≤ L ∧ L ≤ 60000000 := by
  have d := distF_bd ax ay bx b_y
  have m := arcLen_bd cx cy r f s
  unfold elemF at h
  (repeat' split at h) <;> first | (cases h; done) | (constructor <;> omega)
end Go.Proofs.YtapgmnjpfcohhaaGreatDoor

/-
  What steps along a path do, and what is left of it: plain laws; no program.
-/
namespace Go.Proofs.YtapgmnjpfcohhaaGreatDoor
set_option linter.unusedVariables false
set_option linter.unusedSimpArgs false
theorem chkG_errs {len : Int} : ∀ {l : List El} {f : Bool} {en bx b_y sum : Int}, chkG len f en bx b_y sum l = 0 → ∀ x ∈ l, x.err = 0
  | [], _, _, _, _, _, _, x, hx => by cases hx
  | y :: l, f, en, bx, b_y, sum, h, x, hx => by
    rw [chkG_cons] at h
    by_cases h1 : y.err = 0
    · rw [if_neg (by simp [h1])] at h
      by_cases h2 : y.n < en ∨ (f = true ∧ y.g = true)
      · rw [if_pos h2] at h; cases h
      · rw [if_neg h2] at h
        by_cases h3 : f = false ∧ y.g = false ∧ ¬ (y.ax = bx ∧ y.ay = b_y)
        · rw [if_pos h3] at h; cases h
        · rw [if_neg h3] at h
          rcases List.mem_cons.1 hx with rfl | hx
          · exact h1
          · exact chkG_errs h x hx
    · rw [if_pos h1] at h; exact absurd h h1
theorem chkF_L {l : List El} {len : Int} (h : chkF l len = 0) {k : Nat} {x : El} (hx : l[k]? = some x) : 1 ≤ x.L ∧ x.L ≤ 60000000 := by
  unfold chkF at h
  by_cases h5 : 500 < l.length
  · rw [if_pos h5] at h; cases h
  · rw [if_neg h5] at h
    exact elem_L (chkG_errs h x (List.mem_of_getElem? hx))
/-! ### what a path without error is -/
def sumL : List El → Int
  | [] => 0
  | x :: l => x.L + sumL l
theorem sumL_nil : sumL [] = 0 := rfl
theorem sumL_cons (x : El) (l : List El) : sumL (x :: l) = x.L + sumL l := rfl
theorem chkG_ok {len : Int} : ∀ {l : List El} {f : Bool} {en bx b_y sum : Int}, chkG len f en bx b_y sum l = 0 →
    (∀ (i : Nat) (x : El), l[i]? = some x → en ≤ x.n) ∧
    (∀ (i : Nat) (x y : El), l[i]? = some x → l[i + 1]? = some y → x.n ≤ y.n ∧ (y.g = false → y.ax = x.bx ∧ y.ay = x.b_y)) ∧
    (∀ x : El, l[0]? = some x → (f = true → x.g = false)) ∧ len = sum + sumL l
  | [], f, en, bx, b_y, sum, h => by
    rw [chkG_nil] at h
    split at h
    · rename_i hl
      exact ⟨by simp, by simp, by simp, by rw [sumL_nil]; omega⟩
    · cases h
  | z :: l, f, en, bx, b_y, sum, h => by
    rw [chkG_cons] at h
    by_cases h1 : z.err = 0
    · rw [if_neg (by simp [h1])] at h
      by_cases h2 : z.n < en ∨ (f = true ∧ z.g = true)
      · rw [if_pos h2] at h; cases h
      · rw [if_neg h2] at h
        by_cases h3 : f = false ∧ z.g = false ∧ ¬ (z.ax = bx ∧ z.ay = b_y)
        · rw [if_pos h3] at h; cases h
        · rw [if_neg h3] at h
          obtain ⟨a, b, c, d⟩ := chkG_ok h
          have h4 : f = true → z.g = false := fun hf => by
            cases hg : z.g with
            | false => rfl
            | true => exact absurd (Or.inr ⟨hf, hg⟩) h2
          have h5 : en ≤ z.n := by omega
          refine ⟨?_, ?_, ?_, ?_⟩
          · intro i x hx
            cases i with
            | zero => simp at hx; subst hx; exact h5
            | succ i => simp at hx; exact Int.le_trans h5 (a i x hx)
          · intro i x y hx hy
            cases i with
            | zero =>
              simp at hx hy
              subst hx
              refine ⟨a 0 y hy, fun hg => ?_⟩
              have := chkG_first h y hy
              exact this hg
            | succ i => simp at hx hy; exact b i x y hx hy
          · intro x hx
            simp at hx
            subst hx
            exact h4
          · rw [sumL_cons]; omega
    · rw [if_pos h1] at h; exact absurd h h1
where
  chkG_first {len : Int} {l : List El} {en bx b_y sum : Int} (h : chkG len false en bx b_y sum l = 0) (y : El) (hy : l[0]? = some y) (hg : y.g = false) : y.ax = bx ∧ y.ay = b_y := by
    cases l with
    | nil => simp at hy
    | cons z l =>
      simp at hy
      subst hy
      rw [chkG_cons] at h
      by_cases h1 : z.err = 0
      · rw [if_neg (by simp [h1])] at h
        by_cases h2 : z.n < en ∨ (false = true ∧ z.g = true)
        · rw [if_pos h2] at h; cases h
        · rw [if_neg h2] at h
          by_cases h3 : false = false ∧ z.g = false ∧ ¬ (z.ax = bx ∧ z.ay = b_y)
          · rw [if_pos h3] at h; cases h
          · rcases Classical.em (z.ax = bx ∧ z.ay = b_y) with h6 | h6
            · exact h6
            · exact absurd ⟨rfl, hg, h6⟩ h3
      · rw [if_pos h1] at h; exact absurd h h1
/-- a path without error -/
structure OkPath (l : List El) (len : Int) : Prop where
  short : l.length ≤ 500
  err : ∀ (i : Nat) (x : El), l[i]? = some x → x.err = 0
  low : ∀ (i : Nat) (x : El), l[i]? = some x → 0 ≤ x.n
  rise : ∀ (i : Nat) (x y : El), l[i]? = some x → l[i + 1]? = some y → x.n ≤ y.n
  meet : ∀ (i : Nat) (x y : El), l[i]? = some x → l[i + 1]? = some y → y.g = false → y.ax = x.bx ∧ y.ay = x.b_y
  first : ∀ x : El, l[0]? = some x → x.g = false
  sum : len = sumL l
theorem okPath {l : List El} {len : Int} (h : chkF l len = 0) : OkPath l len := by
  unfold chkF at h
  by_cases h5 : 500 < l.length
  · rw [if_pos h5] at h; cases h
  · rw [if_neg h5] at h
    obtain ⟨a, b, c, d⟩ := chkG_ok h
    exact ⟨by omega, fun i x hx => chkG_errs h x (List.mem_of_getElem? hx), a, fun i x y hx hy => (b i x y hx hy).1, fun i x y hx hy => (b i x y hx hy).2, fun x hx => c x hx rfl, by omega⟩

/-! ### steps: the entries that are passed rise, and a second step passes none -/
/-! ### straight paths -/
theorem elem_straight {ax ay bx b_y cx cy r f s L : Int} (h : elemF false ax ay bx b_y cx cy r f s L = 0) : vldB ax ay = true ∧ vldB bx b_y = true ∧ ¬ (ax = bx ∧ ay = b_y) ∧ L = distF ax ay bx b_y ∧ 1 ≤ L := by
  unfold elemF at h
  by_cases h1 : (!(vldB ax ay && vldB bx b_y)) = true
  · rw [if_pos h1] at h; cases h
  · rw [if_neg h1, if_neg (by decide)] at h
    by_cases h2 : ¬ (cx = 0 ∧ cy = 0 ∧ r = 0 ∧ f = 0 ∧ s = 0)
    · rw [if_pos h2] at h; cases h
    · rw [if_neg h2] at h
      by_cases h3 : L < 1 ∨ ¬ L = distF ax ay bx b_y
      · rw [if_pos h3] at h; cases h
      · have hL : L = distF ax ay bx b_y := by omega
        have hv : vldB ax ay = true ∧ vldB bx b_y = true := by simpa using h1
        refine ⟨hv.1, hv.2, ?_, hL, by omega⟩
        rintro ⟨rfl, rfl⟩
        have : distF ax ay ax ay = 0 := by
          unfold distF
          rw [hv.1]
          have e : dist2 ax ay ax ay = 0 := by unfold dist2; simp
          rw [e]
          simp [isq]
        omega
/-! ### what is left -/
end Go.Proofs.YtapgmnjpfcohhaaGreatDoor

/-
  The point at a distance along a path lies on it; what beside it is how far off. No program.
-/
namespace Go.Proofs.YtapgmnjpfcohhaaGreatDoor
set_option linter.unusedVariables false
set_option linter.unusedSimpArgs false
/-- the element at a distance, and the distance along it -/
def pickG : List El → Int → Option (El × Int)
  | [], _ => none
  | x :: l, s => if x.L < s then pickG l (s - x.L) else some (x, s)
/-- the point and the course at a distance along an element, the error -/
def ptF (x : El) (s : Int) : Int × Int × Int × Int :=
  if x.c then arcAt x.cx x.cy x.r x.f x.s s else (x.ax + (muldiv 2 (x.bx - x.ax) s x.L).1, x.ay + (muldiv 2 (x.b_y - x.ay) s x.L).1, (courseF x.ax x.ay x.bx x.b_y).1, (courseF x.ax x.ay x.bx x.b_y).2)
/-- the point and the course at a distance along a path, the error -/
def patF (l : List El) (len s : Int) : Int × Int × Int × Int :=
  if ¬ chkF l len = 0 then (0, 0, 0, chkF l len) else if s < 0 ∨ len < s then (0, 0, 0, 2) else
  match pickG l s with
  | none => (0, 0, 0, 6)
  | some T => ptF T.1 T.2
theorem pickG_some {l : List El} : ∀ {s : Int}, l ≠ [] → s ≤ sumL l → ∃ T, pickG l s = some T := by
  induction l with
  | nil => intro s h; exact absurd rfl h
  | cons x l ih =>
    intro s _ h
    rw [pickG]
    rw [sumL_cons] at h
    by_cases hx : x.L < s
    · rw [if_pos hx]
      cases l with
      | nil => rw [sumL_nil] at h; omega
      | cons y l => exact ih (by simp) (by omega)
    · rw [if_neg hx]; exact ⟨_, rfl⟩
theorem pickG_nil (s : Int) : pickG [] s = none := rfl
theorem pickG_at {l : List El} {i : Nat} {x : El} (hx : l[i]? = some x) (s : Int) : pickG (l.drop i) s = if x.L < s then pickG (l.drop (i + 1)) (s - x.L) else some (x, s) := by
  have h := (List.getElem?_eq_some_iff.1 hx)
  obtain ⟨h1, h2⟩ := h
  rw [List.drop_eq_getElem_cons h1, h2, pickG]
theorem pickG_none {l : List El} {i : Nat} (h : l.length ≤ i) (s : Int) : pickG (l.drop i) s = none := by
  rw [List.drop_eq_nil_of_le h, pickG_nil]
theorem sumL_le : ∀ {l : List El}, (∀ x ∈ l, 1 ≤ x.L ∧ x.L ≤ 60000000) → 0 ≤ sumL l ∧ sumL l ≤ l.length * 60000000
  | [], _ => by rw [sumL_nil]; simp
  | x :: l, h => by
    have a := h x List.mem_cons_self
    have b := sumL_le (l := l) (fun y hy => h y (List.mem_cons_of_mem _ hy))
    rw [sumL_cons]
    simp
    omega
theorem chk_len {l : List El} {len : Int} (h : chkF l len = 0) : 0 ≤ len ∧ len ≤ 30000000000 := by
  have ok := okPath h
  have := sumL_le (l := l) (fun x hx => by
    obtain ⟨i, hi⟩ := List.getElem?_of_mem hx
    exact chkF_L h hi)
  have h5 := ok.short
  rw [ok.sum]
  omega
/-! ### a point of a line -/
theorem md_pt {d s L : Int} (hd : -4000000 ≤ d ∧ d ≤ 4000000) (h0 : 0 ≤ s) (h1 : s ≤ L) (hL : 1 ≤ L) (hL2 : L ≤ 60000000) :
    (muldiv 2 d s L).2 = 0 ∧ (-L ≤ 2 * ((muldiv 2 d s L).1 * L - d * s) ∧ 2 * ((muldiv 2 d s L).1 * L - d * s) ≤ L) ∧ -4000001 ≤ (muldiv 2 d s L).1 ∧ (muldiv 2 d s L).1 ≤ 4000001 := by
  have hn := rnd2_near (d * s) L (by omega)
  rw [show (L.natAbs : Int) = L from by omega] at hn
  have a1 : d * s ≤ 4000000 * s := Int.mul_le_mul_of_nonneg_right hd.2 h0
  have a2 : -4000000 * s ≤ d * s := Int.mul_le_mul_of_nonneg_right hd.1 h0
  have hb : -4000001 ≤ rnd 2 (d * s) L ∧ rnd 2 (d * s) L ≤ 4000001 := by
    generalize rnd 2 (d * s) L = v at *
    constructor
    · rcases Int.lt_or_le v (-4000001) with h | h
      · have : v * L ≤ -4000002 * L := Int.mul_le_mul_of_nonneg_right (by omega) (by omega)
        omega
      · exact h
    · rcases Int.lt_or_le 4000001 v with h | h
      · have : 4000002 * L ≤ v * L := Int.mul_le_mul_of_nonneg_right (by omega) (by omega)
        omega
      · exact h
  unfold muldiv
  rw [if_neg (by omega)]
  generalize rnd 2 (d * s) L = v at *
  have hi : in64 v = true := by unfold in64; exact decide_eq_true (by omega)
  rw [if_pos hi]
  exact ⟨rfl, hn, hb⟩
/-! ### points beside a line -/
end Go.Proofs.YtapgmnjpfcohhaaGreatDoor
