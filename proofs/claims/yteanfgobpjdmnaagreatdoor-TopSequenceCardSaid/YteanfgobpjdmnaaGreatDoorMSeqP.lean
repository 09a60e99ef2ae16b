/-
  What the deviation of an element is, as plain functions; no program.
-/
import Derived.Test.YteanfgobpjdmnaaGreatDoorMLaws
namespace Go.Proofs.YteanfgobpjdmnaaGreatDoor
set_option linter.unusedVariables false
section
variable {c : Bool} {ax ay bx b_y cx cy r f s L px py track speed o al e X Y C E : Int} {R : Int × Int}
end
structure El where
 c : Bool
 ax : Int
 ay : Int
 bx : Int
 b_y : Int
 cx : Int
 cy : Int
 r : Int
 f : Int
 s : Int
 L : Int
 n : Int
 g : Bool
def ng (px py qx qy : Int) : Bool := decide (16 < ((px - qx).natAbs : Int) ∨ 16 < ((py - qy).natAbs : Int))
def uW (cx cy r f s al px py : Int) : Bool := decide ((qI cx cy r f s al).2.2.2 = 0) && ng px py (qI cx cy r f s al).1 (qI cx cy r f s al).2.1
def uX (c : Bool) (ax ay bx b_y cx cy r f s L : Int) : Int :=
 if !(qf ax ay && qf bx b_y) then 1 else
 if c then
  (if !yX cx cy r f s then 1 else if L < 1 ∨ ¬ L = qA cx cy r f s then 4 else
    if uW cx cy r f s 0 ax ay || uW cx cy r f s (qA cx cy r f s) bx b_y then 10 else 0)
 else (if ¬ (cx = 0 ∧ cy = 0 ∧ r = 0 ∧ f = 0 ∧ s = 0) then 1 else if L < 1 ∨ ¬ L = qJ ax ay bx b_y then 4 else 0)
def El.err (x : El) : Int := uX x.c x.ax x.ay x.bx x.b_y x.cx x.cy x.r x.f x.s x.L
def Qh (len : Int) : Bool → Int → Int → Int → Int → List El → Int
 | _, _, _, _, sum, [] => if len = sum then 0 else 4
 | first, en, bx, b_y, sum, x :: l =>
   if ¬ x.err = 0 then x.err else
   if x.n < en ∨ (first = true ∧ x.g = true) then 9 else
   if first = false ∧ x.g = false ∧ ¬ (x.ax = bx ∧ x.ay = b_y) then 10 else
   Qh len false x.n x.bx x.b_y (sum + x.L) l
def vX (l : List El) (len : Int) : Int := if 500 < l.length then 3 else Qh len true 0 0 0 0 l
def Ed (c : Bool) (ax ay bx b_y cx cy r f s px py : Int) : Bool :=
 if !(qf px py && qf ax ay && qf bx b_y) then false else
 if c then
  (if !yX cx cy r f s || decide (px = cx ∧ py = cy) then false else
    decide ((s.natAbs : Int) ≤ kK (decide (0 ≤ s)) f (qF cx cy px py).1 ∧ kK (decide (0 ≤ s)) f (qF cx cy px py).1 < s.natAbs + (129600000 - s.natAbs) / 2))
 else decide (0 ≤ BH ax ay bx b_y px py)
def El.over (x : El) (px py : Int) : Bool := Ed x.c x.ax x.ay x.bx x.b_y x.cx x.cy x.r x.f x.s px py
def EG (l : List El) (i : Nat) : Bool := match l[i + 1]? with | none => true | some x => x.g
theorem Kd {len en bx b_y sum : Int} {f : Bool} : Qh len f en bx b_y sum [] = if len = sum then 0 else 4 := by unfold Qh; rfl
theorem kC {len en bx b_y sum : Int} {f : Bool} {x : El} {l : List El} : Qh len f en bx b_y sum (x :: l) =
 if ¬ x.err = 0 then x.err else if x.n < en ∨ (f = true ∧ x.g = true) then 9 else if f = false ∧ x.g = false ∧ ¬ (x.ax = bx ∧ x.ay = b_y) then 10 else Qh len false x.n x.bx x.b_y (sum + x.L) l := by
 rw [Qh]
theorem iE {c : Bool} {ax ay bx b_y cx cy r f s L : Int} (h : uX c ax ay bx b_y cx cy r f s L = 0) : 1 ≤ L ∧ L ≤ 60000000 := by
 have d := kh ax ay bx b_y
 have m := yJ cx cy r f s
 unfold uX at h
 (repeat' split at h) <;> first | (cases h; done) | (constructor <;> omega)
set_option linter.unusedSimpArgs false
def stepG (l : List El) (px py : Int) : Nat → Nat → Int → List Int → Nat × Int × Bool × List Int
 | 0, k, en, ps => (k, en, false, ps)
 | m + 1, k, en, ps =>
   match l[k]? with
   | none => (k, en, false, ps)
   | some x =>
     if x.over px py = false then (k, en, false, ps) else
     match l[k + 1]? with
     | none => (k, en, true, ps ++ [en])
     | some y => if y.g = true then (k, en, true, ps ++ [en]) else if y.n = en then stepG l px py m (k + 1) en ps else stepG l px py m (k + 1) y.n (ps ++ [en])
theorem AU {l : List El} {px py : Int} {m k : Nat} {en : Int} {ps : List Int} {x : El} (hx : l[k]? = some x) (h : x.over px py = false) : stepG l px py (m + 1) k en ps = (k, en, false, ps) := by
 rw [stepG, hx]; simp [h]
theorem Ep {l : List El} {px py : Int} {m k : Nat} {en : Int} {ps : List Int} {x : El} (hx : l[k]? = some x) (h : x.over px py = true) (hl : EG l k = true) : stepG l px py (m + 1) k en ps = (k, en, true, ps ++ [en]) := by
 rw [stepG, hx]
 unfold EG at hl
 rcases hy : l[k + 1]? with _ | y
 · simp [h]
 · rw [hy] at hl
   simp only at hl
   simp [h, hl]
theorem EH {l : List El} {px py : Int} {m k : Nat} {en : Int} {ps : List Int} {x y : El} (hx : l[k]? = some x) (h : x.over px py = true) (hy : l[k + 1]? = some y) (hg : y.g = false) :
 stepG l px py (m + 1) k en ps = if y.n = en then stepG l px py m (k + 1) en ps else stepG l px py m (k + 1) y.n (ps ++ [en]) := by
 rw [stepG, hx]
 simp [h, hy, hg]
theorem JP {len : Int} : ∀ {l : List El} {f : Bool} {en bx b_y sum : Int}, Qh len f en bx b_y sum l = 0 → ∀ x ∈ l, x.err = 0
 | [], _, _, _, _, _, _, x, hx => by cases hx
 | y :: l, f, en, bx, b_y, sum, h, x, hx => by
   rw [kC] at h
   by_cases h1 : y.err = 0
   · rw [if_neg (by simp [h1])] at h
     by_cases h2 : y.n < en ∨ (f = true ∧ y.g = true)
     · rw [if_pos h2] at h; cases h
     · rw [if_neg h2] at h
       by_cases h3 : f = false ∧ y.g = false ∧ ¬ (y.ax = bx ∧ y.ay = b_y)
       · rw [if_pos h3] at h; cases h
       · rw [if_neg h3] at h
         rcases List.mem_cons.1 hx with rfl | hx
         · exact h1
         · exact JP h x hx
   · rw [if_pos h1] at h; exact absurd h h1
def zp (l : List El) (len el e0 : Int) (dn : Bool) (px py : Int) : Int × Int × Bool × List Int :=
 if ¬ vX l len = 0 then (el, e0, dn, []) else if qf px py = false then (el, e0, dn, []) else if dn = true then (el, e0, dn, []) else
 if el < 0 ∨ (l.length : Int) ≤ el then (el, e0, dn, []) else
 match l[el.toNat]? with
 | none => (el, e0, dn, [])
 | some x => (((stepG l px py (l.length - el.toNat) el.toNat x.n []).1 : Int), (stepG l px py (l.length - el.toNat) el.toNat x.n []).2.1, (stepG l px py (l.length - el.toNat) el.toNat x.n []).2.2.1, (stepG l px py (l.length - el.toNat) el.toNat x.n []).2.2.2)
def jH : List El → Int
 | [] => 0
 | x :: l => x.L + jH l
theorem Qi : jH [] = 0 := rfl
theorem yq (x : El) (l : List El) : jH (x :: l) = x.L + jH l := rfl
theorem dn {len : Int} : ∀ {l : List El} {f : Bool} {en bx b_y sum : Int}, Qh len f en bx b_y sum l = 0 →
 (∀ (i : Nat) (x : El), l[i]? = some x → en ≤ x.n) ∧
 (∀ (i : Nat) (x y : El), l[i]? = some x → l[i + 1]? = some y → x.n ≤ y.n ∧ (y.g = false → y.ax = x.bx ∧ y.ay = x.b_y)) ∧
 (∀ x : El, l[0]? = some x → (f = true → x.g = false)) ∧ len = sum + jH l
 | [], f, en, bx, b_y, sum, h => by
   rw [Kd] at h
   split at h
   · rename_i hl
     exact ⟨by simp, by simp, by simp, by rw [Qi]; omega⟩
   · cases h
 | z :: l, f, en, bx, b_y, sum, h => by
   rw [kC] at h
   by_cases h1 : z.err = 0
   · rw [if_neg (by simp [h1])] at h
     by_cases h2 : z.n < en ∨ (f = true ∧ z.g = true)
     · rw [if_pos h2] at h; cases h
     · rw [if_neg h2] at h
       by_cases h3 : f = false ∧ z.g = false ∧ ¬ (z.ax = bx ∧ z.ay = b_y)
       · rw [if_pos h3] at h; cases h
       · rw [if_neg h3] at h
         obtain ⟨a, b, c, d⟩ := dn h
         have h4 : f = true → z.g = false := fun hf => by
          cases hg : z.g with
          | false => rfl
          | true => exact absurd (Or.inr ⟨hf, hg⟩) h2
         have h5 : en ≤ z.n := by omega
         refine ⟨?_, ?_, ?_, ?_⟩
         · intro i x hx
           cases i with
           | zero => simp at hx; subst hx; exact h5
           | succ i => simp at hx; exact Int.le_trans h5 (a i x hx)
         · intro i x y hx hy
           cases i with
           | zero =>
             simp at hx hy
             subst hx
             refine ⟨a 0 y hy, fun hg => ?_⟩
             have := chkG_first h y hy
             exact this hg
           | succ i => simp at hx hy; exact b i x y hx hy
         · intro x hx
           simp at hx
           subst hx
           exact h4
         · rw [yq]; omega
   · rw [if_pos h1] at h; exact absurd h h1
where
 chkG_first {len : Int} {l : List El} {en bx b_y sum : Int} (h : Qh len false en bx b_y sum l = 0) (y : El) (hy : l[0]? = some y) (hg : y.g = false) : y.ax = bx ∧ y.ay = b_y := by
  cases l with
  | nil => simp at hy
  | cons z l =>
    simp at hy
    subst hy
    rw [kC] at h
    by_cases h1 : z.err = 0
    · rw [if_neg (by simp [h1])] at h
      by_cases h2 : z.n < en ∨ (false = true ∧ z.g = true)
      · rw [if_pos h2] at h; cases h
      · rw [if_neg h2] at h
        by_cases h3 : false = false ∧ z.g = false ∧ ¬ (z.ax = bx ∧ z.ay = b_y)
        · rw [if_pos h3] at h; cases h
        · rcases Classical.em (z.ax = bx ∧ z.ay = b_y) with h6 | h6
          · exact h6
          · exact absurd ⟨rfl, hg, h6⟩ h3
    · rw [if_pos h1] at h; exact absurd h h1
structure Df (l : List El) (len : Int) : Prop where
 short : l.length ≤ 500
 err : ∀ (i : Nat) (x : El), l[i]? = some x → x.err = 0
 low : ∀ (i : Nat) (x : El), l[i]? = some x → 0 ≤ x.n
 rise : ∀ (i : Nat) (x y : El), l[i]? = some x → l[i + 1]? = some y → x.n ≤ y.n
 meet : ∀ (i : Nat) (x y : El), l[i]? = some x → l[i + 1]? = some y → y.g = false → y.ax = x.bx ∧ y.ay = x.b_y
 first : ∀ x : El, l[0]? = some x → x.g = false
 sum : len = jH l
theorem JR {l : List El} {len : Int} (h : vX l len = 0) : Df l len := by
 unfold vX at h
 by_cases h5 : 500 < l.length
 · rw [if_pos h5] at h; cases h
 · rw [if_neg h5] at h
   obtain ⟨a, b, c, d⟩ := dn h
   exact ⟨by omega, fun i x hx => JP h x (List.mem_of_getElem? hx), a, fun i x y hx hy => (b i x y hx hy).1, fun i x y hx hy => (b i x y hx hy).2, fun x hx => c x hx rfl, by omega⟩
theorem MX (l : List El) (px py : Int) : ∀ (m k : Nat) (en : Int) (ps : List Int), stepG l px py m k en ps = ((stepG l px py m k en []).1, (stepG l px py m k en []).2.1, (stepG l px py m k en []).2.2.1, ps ++ (stepG l px py m k en []).2.2.2)
 | 0, k, en, ps => by simp [stepG]
 | m + 1, k, en, ps => by
   rw [stepG, stepG]
   cases hk : l[k]? with
   | none => simp
   | some x =>
     dsimp only
     by_cases ho : x.over px py = false
     · simp [ho]
     · simp only [ho, if_false]
       cases hk2 : l[k + 1]? with
       | none => simp
       | some y =>
         dsimp only
         by_cases hg : y.g = true
         · simp [hg]
         · simp only [hg, if_false]
           by_cases hn : y.n = en
           · simp only [hn, if_true]
             exact MX l px py m (k + 1) en ps
           · simp only [hn, if_false]
             rw [MX l px py m (k + 1) y.n (ps ++ [en]), MX l px py m (k + 1) y.n ([] ++ [en])]
             simp
end Go.Proofs.YteanfgobpjdmnaaGreatDoor
