/-
  What the deviation of an element is, as plain functions; no program.
-/
import Derived.Test.YtdlognnifmihnaaGreatDoorMLaws
namespace Go.Proofs.YtdlognnifmihnaaGreatDoor
set_option linter.unusedVariables false
section
variable {c : Bool} {ax ay bx b_y cx cy r f s L px py track speed o al e X Y C E : Int} {R : Int × Int}
end
structure El where
 c : Bool
 ax : Int
 ay : Int
 bx : Int
 b_y : Int
 cx : Int
 cy : Int
 r : Int
 f : Int
 s : Int
 L : Int
 n : Int
 g : Bool
def ng (px py qx qy : Int) : Bool := decide (16 < ((px - qx).natAbs : Int) ∨ 16 < ((py - qy).natAbs : Int))
def uW (cx cy r f s al px py : Int) : Bool := decide ((qI cx cy r f s al).2.2.2 = 0) && ng px py (qI cx cy r f s al).1 (qI cx cy r f s al).2.1
def uX (c : Bool) (ax ay bx b_y cx cy r f s L : Int) : Int :=
 if !(qf ax ay && qf bx b_y) then 1 else
 if c then
  (if !yX cx cy r f s then 1 else if L < 1 ∨ ¬ L = qA cx cy r f s then 4 else
    if uW cx cy r f s 0 ax ay || uW cx cy r f s (qA cx cy r f s) bx b_y then 10 else 0)
 else (if ¬ (cx = 0 ∧ cy = 0 ∧ r = 0 ∧ f = 0 ∧ s = 0) then 1 else if L < 1 ∨ ¬ L = qJ ax ay bx b_y then 4 else 0)
def El.err (x : El) : Int := uX x.c x.ax x.ay x.bx x.b_y x.cx x.cy x.r x.f x.s x.L
def Qh (len : Int) : Bool → Int → Int → Int → Int → List El → Int
 | _, _, _, _, sum, [] => if len = sum then 0 else 4
 | first, en, bx, b_y, sum, x :: l =>
   if ¬ x.err = 0 then x.err else
   if x.n < en ∨ (first = true ∧ x.g = true) then 9 else
   if first = false ∧ x.g = false ∧ ¬ (x.ax = bx ∧ x.ay = b_y) then 10 else
   Qh len false x.n x.bx x.b_y (sum + x.L) l
def vX (l : List El) (len : Int) : Int := if 500 < l.length then 3 else Qh len true 0 0 0 0 l
theorem Kd {len en bx b_y sum : Int} {f : Bool} : Qh len f en bx b_y sum [] = if len = sum then 0 else 4 := by unfold Qh; rfl
theorem kC {len en bx b_y sum : Int} {f : Bool} {x : El} {l : List El} : Qh len f en bx b_y sum (x :: l) =
 if ¬ x.err = 0 then x.err else if x.n < en ∨ (f = true ∧ x.g = true) then 9 else if f = false ∧ x.g = false ∧ ¬ (x.ax = bx ∧ x.ay = b_y) then 10 else Qh len false x.n x.bx x.b_y (sum + x.L) l := by
 rw [Qh]
theorem iE {c : Bool} {ax ay bx b_y cx cy r f s L : Int} (h : uX c ax ay bx b_y cx cy r f s L = 0) : 1 ≤ L ∧ L ≤ 60000000 := by
 have d := kh ax ay bx b_y
 have m := yJ cx cy r f s
 unfold uX at h
 (repeat' split at h) <;> first | (cases h; done) | (constructor <;> omega)
set_option linter.unusedSimpArgs false
theorem JP {len : Int} : ∀ {l : List El} {f : Bool} {en bx b_y sum : Int}, Qh len f en bx b_y sum l = 0 → ∀ x ∈ l, x.err = 0
 | [], _, _, _, _, _, _, x, hx => by cases hx
 | y :: l, f, en, bx, b_y, sum, h, x, hx => by
   rw [kC] at h
   by_cases h1 : y.err = 0
   · rw [if_neg (by simp [h1])] at h
     by_cases h2 : y.n < en ∨ (f = true ∧ y.g = true)
     · rw [if_pos h2] at h; cases h
     · rw [if_neg h2] at h
       by_cases h3 : f = false ∧ y.g = false ∧ ¬ (y.ax = bx ∧ y.ay = b_y)
       · rw [if_pos h3] at h; cases h
       · rw [if_neg h3] at h
         rcases List.mem_cons.1 hx with rfl | hx
         · exact h1
         · exact JP h x hx
   · rw [if_pos h1] at h; exact absurd h h1
theorem BO {l : List El} {len : Int} (h : vX l len = 0) {k : Nat} {x : El} (hx : l[k]? = some x) : 1 ≤ x.L ∧ x.L ≤ 60000000 := by
 unfold vX at h
 by_cases h5 : 500 < l.length
 · rw [if_pos h5] at h; cases h
 · rw [if_neg h5] at h
   exact iE (JP h x (List.mem_of_getElem? hx))
def jH : List El → Int
 | [] => 0
 | x :: l => x.L + jH l
theorem Qi : jH [] = 0 := rfl
theorem yq (x : El) (l : List El) : jH (x :: l) = x.L + jH l := rfl
theorem dn {len : Int} : ∀ {l : List El} {f : Bool} {en bx b_y sum : Int}, Qh len f en bx b_y sum l = 0 →
 (∀ (i : Nat) (x : El), l[i]? = some x → en ≤ x.n) ∧
 (∀ (i : Nat) (x y : El), l[i]? = some x → l[i + 1]? = some y → x.n ≤ y.n ∧ (y.g = false → y.ax = x.bx ∧ y.ay = x.b_y)) ∧
 (∀ x : El, l[0]? = some x → (f = true → x.g = false)) ∧ len = sum + jH l
 | [], f, en, bx, b_y, sum, h => by
   rw [Kd] at h
   split at h
   · rename_i hl
     exact ⟨by simp, by simp, by simp, by rw [Qi]; omega⟩
   · cases h
 | z :: l, f, en, bx, b_y, sum, h => by
   rw [kC] at h
   by_cases h1 : z.err = 0
   · rw [if_neg (by simp [h1])] at h
     by_cases h2 : z.n < en ∨ (f = true ∧ z.g = true)
     · rw [if_pos h2] at h; cases h
     · rw [if_neg h2] at h
       by_cases h3 : f = false ∧ z.g = false ∧ ¬ (z.ax = bx ∧ z.ay = b_y)
       · rw [if_pos h3] at h; cases h
       · rw [if_neg h3] at h
         obtain ⟨a, b, c, d⟩ := dn h
         have h4 : f = true → z.g = false := fun hf => by
          cases hg : z.g with
          | false => rfl
          | true => exact absurd (Or.inr ⟨hf, hg⟩) h2
         have h5 : en ≤ z.n := by omega
         refine ⟨?_, ?_, ?_, ?_⟩
         · intro i x hx
           cases i with
           | zero => simp at hx; subst hx; exact h5
           | succ i => simp at hx; exact Int.le_trans h5 (a i x hx)
         · intro i x y hx hy
           cases i with
           | zero =>
             simp at hx hy
             subst hx
             refine ⟨a 0 y hy, fun hg => ?_⟩
             have := chkG_first h y hy
             exact this hg
           | succ i => simp at hx hy; exact b i x y hx hy
         · intro x hx
           simp at hx
           subst hx
           exact h4
         · rw [yq]; omega
   · rw [if_pos h1] at h; exact absurd h h1
where
 chkG_first {len : Int} {l : List El} {en bx b_y sum : Int} (h : Qh len false en bx b_y sum l = 0) (y : El) (hy : l[0]? = some y) (hg : y.g = false) : y.ax = bx ∧ y.ay = b_y := by
  cases l with
  | nil => simp at hy
  | cons z l =>
    simp at hy
    subst hy
    rw [kC] at h
    by_cases h1 : z.err = 0
    · rw [if_neg (by simp [h1])] at h
      by_cases h2 : z.n < en ∨ (false = true ∧ z.g = true)
      · rw [if_pos h2] at h; cases h
      · rw [if_neg h2] at h
        by_cases h3 : false = false ∧ z.g = false ∧ ¬ (z.ax = bx ∧ z.ay = b_y)
        · rw [if_pos h3] at h; cases h
        · rcases Classical.em (z.ax = bx ∧ z.ay = b_y) with h6 | h6
          · exact h6
          · exact absurd ⟨rfl, hg, h6⟩ h3
    · rw [if_pos h1] at h; exact absurd h h1
structure Df (l : List El) (len : Int) : Prop where
 short : l.length ≤ 500
 err : ∀ (i : Nat) (x : El), l[i]? = some x → x.err = 0
 low : ∀ (i : Nat) (x : El), l[i]? = some x → 0 ≤ x.n
 rise : ∀ (i : Nat) (x y : El), l[i]? = some x → l[i + 1]? = some y → x.n ≤ y.n
 meet : ∀ (i : Nat) (x y : El), l[i]? = some x → l[i + 1]? = some y → y.g = false → y.ax = x.bx ∧ y.ay = x.b_y
 first : ∀ x : El, l[0]? = some x → x.g = false
 sum : len = jH l
theorem JR {l : List El} {len : Int} (h : vX l len = 0) : Df l len := by
 unfold vX at h
 by_cases h5 : 500 < l.length
 · rw [if_pos h5] at h; cases h
 · rw [if_neg h5] at h
   obtain ⟨a, b, c, d⟩ := dn h
   exact ⟨by omega, fun i x hx => JP h x (List.mem_of_getElem? hx), a, fun i x y hx hy => (b i x y hx hy).1, fun i x y hx hy => (b i x y hx hy).2, fun x hx => c x hx rfl, by omega⟩
theorem KE {ax ay bx b_y cx cy r f s L : Int} (h : uX false ax ay bx b_y cx cy r f s L = 0) : qf ax ay = true ∧ qf bx b_y = true ∧ ¬ (ax = bx ∧ ay = b_y) ∧ L = qJ ax ay bx b_y ∧ 1 ≤ L := by
 unfold uX at h
 by_cases h1 : (!(qf ax ay && qf bx b_y)) = true
 · rw [if_pos h1] at h; cases h
 · rw [if_neg h1, if_neg (by decide)] at h
   by_cases h2 : ¬ (cx = 0 ∧ cy = 0 ∧ r = 0 ∧ f = 0 ∧ s = 0)
   · rw [if_pos h2] at h; cases h
   · rw [if_neg h2] at h
     by_cases h3 : L < 1 ∨ ¬ L = qJ ax ay bx b_y
     · rw [if_pos h3] at h; cases h
     · have hL : L = qJ ax ay bx b_y := by omega
       have hv : qf ax ay = true ∧ qf bx b_y = true := by simpa using h1
       refine ⟨hv.1, hv.2, ?_, hL, by omega⟩
       rintro ⟨rfl, rfl⟩
       have : qJ ax ay ax ay = 0 := by
        unfold qJ
        rw [hv.1]
        have e : jv ax ay ax ay = 0 := by unfold jv; simp
        rw [e]
        simp [vO]
       omega
def uP : List El → Int → Option (El × Int)
 | [], _ => none
 | x :: l, s => if x.L < s then uP l (s - x.L) else some (x, s)
def Pv (x : El) (s : Int) : Int × Int × Int × Int :=
 if x.c then qI x.cx x.cy x.r x.f x.s s else (x.ax + (qM 2 (x.bx - x.ax) s x.L).1, x.ay + (qM 2 (x.b_y - x.ay) s x.L).1, (qF x.ax x.ay x.bx x.b_y).1, (qF x.ax x.ay x.bx x.b_y).2)
def JS (l : List El) (len s : Int) : Int × Int × Int × Int :=
 if ¬ vX l len = 0 then (0, 0, 0, vX l len) else if s < 0 ∨ len < s then (0, 0, 0, 2) else
 match uP l s with
 | none => (0, 0, 0, 6)
 | some T => Pv T.1 T.2
theorem ni {l : List El} : ∀ {s : Int}, l ≠ [] → s ≤ jH l → ∃ T, uP l s = some T := by
 induction l with
 | nil => intro s h; exact absurd rfl h
 | cons x l ih =>
   intro s _ h
   rw [uP]
   rw [yq] at h
   by_cases hx : x.L < s
   · rw [if_pos hx]
     cases l with
     | nil => rw [Qi] at h; omega
     | cons y l => exact ih (by simp) (by omega)
   · rw [if_neg hx]; exact ⟨_, rfl⟩
theorem fT (s : Int) : uP [] s = none := rfl
theorem Tw {l : List El} {i : Nat} {x : El} (hx : l[i]? = some x) (s : Int) : uP (l.drop i) s = if x.L < s then uP (l.drop (i + 1)) (s - x.L) else some (x, s) := by
 have h := (List.getElem?_eq_some_iff.1 hx)
 obtain ⟨h1, h2⟩ := h
 rw [List.drop_eq_getElem_cons h1, h2, uP]
theorem nj {l : List El} {i : Nat} (h : l.length ≤ i) (s : Int) : uP (l.drop i) s = none := by
 rw [List.drop_eq_nil_of_le h, fT]
theorem YN : ∀ {l : List El}, (∀ x ∈ l, 1 ≤ x.L ∧ x.L ≤ 60000000) → 0 ≤ jH l ∧ jH l ≤ l.length * 60000000
 | [], _ => by rw [Qi]; simp
 | x :: l, h => by
   have a := h x List.mem_cons_self
   have b := YN (l := l) (fun y hy => h y (List.mem_cons_of_mem _ hy))
   rw [yq]
   simp
   omega
theorem Pw {l : List El} {len : Int} (h : vX l len = 0) : 0 ≤ len ∧ len ≤ 30000000000 := by
 have ok := JR h
 have := YN (l := l) (fun x hx => by
  obtain ⟨i, hi⟩ := List.getElem?_of_mem hx
  exact BO h hi)
 have h5 := ok.short
 rw [ok.sum]
 omega
theorem dq {d s L : Int} (hd : -4000000 ≤ d ∧ d ≤ 4000000) (h0 : 0 ≤ s) (h1 : s ≤ L) (hL : 1 ≤ L) (hL2 : L ≤ 60000000) :
 (qM 2 d s L).2 = 0 ∧ (-L ≤ 2 * ((qM 2 d s L).1 * L - d * s) ∧ 2 * ((qM 2 d s L).1 * L - d * s) ≤ L) ∧ -4000001 ≤ (qM 2 d s L).1 ∧ (qM 2 d s L).1 ≤ 4000001 := by
 have hn := QC (d * s) L (by omega)
 rw [show (L.natAbs : Int) = L from by omega] at hn
 have a1 : d * s ≤ 4000000 * s := Int.mul_le_mul_of_nonneg_right hd.2 h0
 have a2 : -4000000 * s ≤ d * s := Int.mul_le_mul_of_nonneg_right hd.1 h0
 have hb : -4000001 ≤ jG 2 (d * s) L ∧ jG 2 (d * s) L ≤ 4000001 := by
  generalize jG 2 (d * s) L = v at *
  constructor
  · rcases Int.lt_or_le v (-4000001) with h | h
    · have : v * L ≤ -4000002 * L := Int.mul_le_mul_of_nonneg_right (by omega) (by omega)
      omega
    · exact h
  · rcases Int.lt_or_le 4000001 v with h | h
    · have : 4000002 * L ≤ v * L := Int.mul_le_mul_of_nonneg_right (by omega) (by omega)
      omega
    · exact h
 unfold qM
 rw [if_neg (by omega)]
 generalize jG 2 (d * s) L = v at *
 have hi : Zj v = true := by unfold Zj; exact decide_eq_true (by omega)
 rw [if_pos hi]
 exact ⟨rfl, hn, hb⟩
theorem SG (p : Int) : (p.natAbs : Int) * p.natAbs = p * p := by
 rcases Int.le_total 0 p with h | h
 · rw [show (p.natAbs : Int) = p from by omega]
 · rw [show (p.natAbs : Int) = -p from by omega, Int.neg_mul_neg]
end Go.Proofs.YtdlognnifmihnaaGreatDoor
