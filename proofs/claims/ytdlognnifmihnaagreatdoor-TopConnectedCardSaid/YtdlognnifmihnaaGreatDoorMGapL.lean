/-
  The discontinuities of a path that is built are those of the plan. No program.
-/
import Derived.Test.YtdlognnifmihnaaGreatDoorMBuildV
namespace Go.Proofs.YtdlognnifmihnaaGreatDoor
set_option linter.unusedVariables false
def xU (l : List En) (a b : Int) : Prop := ∃ (j : Nat) (x : En), a < (j : Int) ∧ (j : Int) < b ∧ l[j]? = some x ∧ x.gap = true
theorem cM (l : List En) (a : Int) : ¬ xU l a a := fun ⟨j, x, h1, h2, _⟩ => by omega
theorem Ub {l : List En} {a b a' b' : Int} (h : xU l a b) (h1 : a' ≤ a) (h2 : b ≤ b') : xU l a' b' := by
 obtain ⟨j, x, e1, e2, e3, e4⟩ := h
 exact ⟨j, x, by omega, by omega, e3, e4⟩
structure Mz (l : List En) (x y : Tk) : Prop where
 le : x.n ≤ y.n
 yes : y.g = true → xU l x.n y.n
 no : y.g = false → ∀ (j : Nat) (e : En), x.n ≤ (j : Int) → (j : Int) < y.n → l[j]? = some e → e.gap = false
def sY (l : List En) : List Tk → Prop
 | [] => True
 | x :: r => (∀ y, r.head? = some y → Mz l x y) ∧ sY l r
theorem Uc {l r : List En} {i : Nat} {x : En} (h : x :: r = l.drop i) : l[i]? = some x ∧ r = l.drop (i + 1) := by
 have h1 : (l.drop i)[0]? = some x := by rw [← h]; rfl
 rw [List.getElem?_drop] at h1
 refine ⟨h1, ?_⟩
 rw [← List.drop_drop, ← h]
 rfl
theorem cN {L : List En} {pv : Option En} {i : Nat} {l : List En} {ts : List Tk} (h : bO pv i l ts) (hl : l = L.drop i) :
 sY L ts ∧ ∀ t, ts.head? = some t → (i : Int) ≤ t.n ∧ (t.g = true → Zk pv = true ∨ ∃ (j : Nat) (e : En), (i : Int) ≤ j ∧ (j : Int) < t.n ∧ L[j]? = some e ∧ e.gap = true) ∧
  (t.g = false → Zk pv = false ∧ ∀ (j : Nat) (e : En), (i : Int) ≤ j → (j : Int) < t.n → L[j]? = some e → e.gap = false) := by
 induction h with
 | nil => exact ⟨trivial, fun t h => by cases h⟩
 | @gap pv i x r ts hg ho ih =>
   obtain ⟨h1, h2⟩ := Uc hl
   obtain ⟨a, b⟩ := ih h2
   refine ⟨a, fun t ht => ?_⟩
   obtain ⟨b1, b2, b3⟩ := b t ht
   exact ⟨by omega, fun _ => .inr ⟨i, x, by omega, by omega, h1, hg⟩, fun hf => by have := (b3 hf).1; rw [show Zk (some x) = x.gap from rfl, hg] at this; cases this⟩
 | @leg pv i x r t ts hg hn hq ho ih =>
   obtain ⟨h1, h2⟩ := Uc hl
   obtain ⟨a, b⟩ := ih h2
   refine ⟨⟨fun y hy => ?_, a⟩, fun u hu => ?_⟩
   · obtain ⟨b1, b2, b3⟩ := b y hy
     refine ⟨by omega, fun hy1 => ?_, fun hy0 j e hj1 hj2 hje => ?_⟩
     · rcases b2 hy1 with b2 | ⟨j, e, c1, c2, c3, c4⟩
       · rw [show Zk (some x) = x.gap from rfl, hg] at b2
         cases b2
       · exact ⟨j, e, by omega, c2, c3, c4⟩
     · by_cases hji : j = i
       · subst hji
         rw [h1] at hje
         injection hje with hje
         rw [← hje]
         exact hg
       · exact (b3 hy0).2 j e (by omega) hj2 hje
   · injection hu with hu
     subst hu
     exact ⟨by omega, fun hg1 => .inl (by rw [← hq]; exact hg1), fun hg0 => ⟨by rw [← hq]; exact hg0, fun j e c1 c2 _ => by omega⟩⟩
structure bv (l : List En) (d : Dw) (n : Int) : Prop where
 head : ∀ x, d.els[0]? = some x → x.g = false
 step : ∀ (i : Nat) (x y : El), d.els[i]? = some x → d.els[i + 1]? = some y → (y.g = true ↔ xU l x.n y.n)
 pend : ∀ x, d.els.getLast? = some x → x.n ≤ n ∧ (d.gp = true ↔ xU l x.n n)
 none : d.els = [] → d.gp = false
structure cO (l : List En) (d : Dw) (n : Int) (g : Bool) : Prop where
 head : ∀ x, d.els[0]? = some x → x.g = false
 step : ∀ (i : Nat) (x y : El), d.els[i]? = some x → d.els[i + 1]? = some y → (y.g = true ↔ xU l x.n y.n)
 pend : ∀ x, d.els.getLast? = some x → x.n ≤ n ∧ (g = false → (d.gp = true ↔ xU l x.n n)) ∧ (g = true → xU l x.n n)
 none : d.els = [] → d.gp = false
theorem Bo {l : List En} {d : Dw} {n : Int} {x : El} (h : bv l d n) (hx : x.n = n) : bv l (ur d x) n := by
 refine ⟨fun y hy => ?_, fun i y z hy hz => ?_, fun y hy => ?_, fun hn => ?_⟩
 · change (d.els ++ [{ x with g := d.gp }])[0]? = some y at hy
   rcases hl : d.els with _ | ⟨e, r⟩
   · rw [hl] at hy
     simp at hy
     rw [← hy]
     exact h.none hl
   · rw [hl] at hy
     refine h.head y ?_
     rw [hl]
     simpa using hy
 · change (d.els ++ [{ x with g := d.gp }])[i]? = some y at hy
   change (d.els ++ [{ x with g := d.gp }])[i + 1]? = some z at hz
   have hi : i + 1 < (d.els ++ [{ x with g := d.gp }]).length := (List.getElem?_eq_some_iff.1 hz).1
   rw [List.length_append, List.length_singleton] at hi
   rw [List.getElem?_append_left (by omega)] at hy
   by_cases hlt : i + 1 < d.els.length
   · rw [List.getElem?_append_left hlt] at hz
     exact h.step i y z hy hz
   · rw [List.getElem?_append_right (by omega), show i + 1 - d.els.length = 0 by omega] at hz
     simp at hz
     subst hz
     have hlast : d.els.getLast? = some y := by rw [List.getLast?_eq_getElem?, show d.els.length - 1 = i by omega]; exact hy
     have hp := (h.pend y hlast).2
     dsimp only
     rw [hx]
     exact hp
 · change (d.els ++ [{ x with g := d.gp }]).getLast? = some y at hy
   rw [List.getLast?_concat] at hy
   injection hy with hy
   subst hy
   dsimp only
   rw [hx]
   exact ⟨Int.le_refl _, ⟨fun e => absurd (show false = true from e) (by decide), fun e => absurd e (cM l n)⟩⟩
 · change d.els ++ [_] = [] at hn
   simp at hn
theorem xV {l : List En} {d : Dw} {n : Int} (h : bv l d n) (qx qy : Int) : bv l (zJ d qx qy n) n := by
 unfold zJ
 split
 · exact h
 · exact Bo h rfl
theorem YB {l : List En} {d : Dw} {n : Int} (h : bv l d n) (cx cy r f s qx qy : Int) : bv l (yu d cx cy r f s qx qy n) n := by
 unfold yu
 split
 · exact Bo h rfl
 · exact xV h _ _
theorem Bp {l : List En} {n : Int} : ∀ (L : List El) (d : Dw), bv l d n → bv l (jT n d L) n
 | [], d, h => h
 | x :: r, d, h => by
   unfold jT
   refine Bp r _ ?_
   split
   · exact Bo h rfl
   · exact h
theorem WI {l : List En} {first done : Bool} {d : Dw} {x : Tk} (h : cO l d x.n x.g) (hf : first = true → d.els = []) : bv l (zW l first done d x) x.n := by
 have key : bv l (vC l first d x) x.n := by
  unfold vC
  split
  · rename_i hq
    refine ⟨h.head, h.step, fun y hy => ?_, fun hn => ?_⟩
    · have hne : d.els ≠ [] := fun e => by rw [show ({ d with px := x.ax, py := x.ay, gp := x.g && !d.els.isEmpty } : Dw).els = d.els from rfl, e] at hy; simp at hy
      have hie : d.els.isEmpty = false := by simpa using hne
      obtain ⟨p1, p2, p3⟩ := h.pend y hy
      have hg : x.g = true := by
       rcases hq with hq | hq
       · exact hq
       · exact absurd (hf hq.1) hne
      refine ⟨p1, ?_⟩
      show (x.g && !d.els.isEmpty) = true ↔ _
      rw [hie, hg]
      exact ⟨fun _ => p3 hg, fun _ => rfl⟩
    · show (x.g && !d.els.isEmpty) = false
      rw [show d.els = [] from hn]
      simp
  · rename_i hq
    have hg : x.g = false := by
     cases hg : x.g with
     | false => rfl
     | true => exact absurd (.inl hg) hq
    exact ⟨h.head, h.step, fun y hy => ⟨(h.pend y hy).1, (h.pend y hy).2.1 hg⟩, h.none⟩
 rw [kD]
 split
 · exact key
 · exact xV key _ _
theorem Gv {l : List En} {d : Dw} {x y : Tk} (h : bv l d x.n) (ha : Mz l x y) : cO l d y.n y.g := by
 refine ⟨h.head, h.step, fun z hz => ?_, h.none⟩
 obtain ⟨p1, p2⟩ := h.pend z hz
 have := ha.le
 refine ⟨by omega, fun hg => ?_, fun hg => Ub (ha.yes hg) p1 (Int.le_refl _)⟩
 rw [p2]
 refine ⟨fun hh => Ub hh (Int.le_refl _) ha.le, fun ⟨j, e, c1, c2, c3, c4⟩ => ?_⟩
 by_cases hj : (j : Int) < x.n
 · exact ⟨j, e, c1, hj, c3, c4⟩
 · have := ha.no hg j e (by omega) c2 c3
   rw [this] at c4
   cases c4
theorem WJ {l : List En} {d : Dw} {n : Int} (h : cO l d n false) : bv l d n := ⟨h.head, h.step, fun y hy => ⟨(h.pend y hy).1, (h.pend y hy).2.1 rfl⟩, h.none⟩
theorem WK {l : List En} {d : Dw} {n : Int} (h : bv l d n) : cO l d n false := ⟨h.head, h.step, fun y hy => ⟨(h.pend y hy).1, fun _ => (h.pend y hy).2, fun e => by cases e⟩, h.none⟩
theorem MA {l : List En} {rad : Int} {d : Dw} {lx ly : En} {x y : Tk} {r : Dw × Tk} (h : bv l d x.n) (ha : Mz l x y) (hg : y.g = false) (hd : kU rad d lx ly x y = some r) : bv l r.1 y.n ∧ r.2.n = y.n ∧ r.2.g = y.g := by
 have sh : ∀ d1 : Dw, bv l d1 x.n → bv l d1 y.n := fun d1 h1 => WJ (by have := Gv h1 ha; rw [hg] at this; exact this)
 unfold kU at hd
 split at hd
 · cases hd
 split at hd
 · split at hd
   · unfold Zp at hd
     dsimp only at hd
     split at hd
     · cases hd
     split at hd
     · cases hd
     split at hd
     · cases hd
     split at hd
     · cases hd
     split at hd
     · injection hd with hd
       subst hd
       refine ⟨YB (sh _ (xV h _ _)) _ _ _ _ _ _ _, ?_⟩
       dsimp only
       split <;> exact ⟨rfl, rfl⟩
     · cases hd
   · cases hd
 split at hd
 · cases hd
 · obtain ⟨d', h1, h2⟩ := Option.map_eq_some_iff.1 hd
   subst h2
   refine ⟨?_, rfl, rfl⟩
   unfold Kw at h1
   split at h1
   · cases h1
   split at h1
   · cases h1
   unfold vk at h1
   split at h1
   · split at h1
     · cases h1
     · injection h1 with h1
       subst h1
       exact YB (sh _ (YB (xV h _ _) _ _ _ _ _ _ _)) _ _ _ _ _ _ _
   · cases h1
theorem MB {l : List En} {rad : Int} {d : Dw} {lx : En} {x : Tk} (h : bv l d x.n) : bv l (kY rad d lx x).2 x.n := by
 unfold kY
 split
 · exact Bp _ _ h
 · split
   · exact h
   · exact Bp _ _ h
theorem MC {l : List En} {y y' : Tk} {r : List Tk} (h : sY l (y :: r)) (hn : y'.n = y.n) : sY l (y' :: r) :=
 ⟨fun z hz => by
  have a := h.1 z hz
  exact ⟨by rw [hn]; exact a.le, by rw [hn]; exact a.yes, by rw [hn]; exact a.no⟩, h.2⟩
theorem tE {l : List En} {rad : Int} : ∀ (r : List Tk) (first done : Bool) (d : Dw) (n0 : Int), (∀ x, r.head? = some x → cO l d x.n x.g) → (r = [] → bv l d n0) → (first = true → d.els = []) → sY l r → (yU l rad first done d r).2.2 = 0 → ∃ n, bv l (yU l rad first done d r).1 n
 | [], first, done, d, n0, h, h0, hf, hA, he => ⟨n0, h0 rfl⟩
 | x :: r, first, done, d, n0, h, h0, hf, hA, he => by
   have hpen : bv l (zW l first done d x) x.n := WI (h x rfl) hf
   have nx : ∀ d1 : Dw, bv l d1 x.n → ∀ y, r.head? = some y → cO l d1 y.n y.g := fun d1 h1 y hy => Gv h1 (hA.1 y hy)
   by_cases h2 : x.k = 2
   · rw [ZA h2] at he ⊢
     have h3 := YB hpen x.cx x.cy x.r x.f x.s x.bx x.b_y
     exact tE r _ _ _ x.n (nx _ h3) (fun _ => h3) (fun e => by cases e) hA.2 he
   by_cases h3 : x.k = 3
   · by_cases hb : (kY rad (zW l first done d x) (zI l x) x).1 = 0
     · rw [xO h3 hb] at he ⊢
       have h4 := MB (rad := rad) (lx := zI l x) hpen
       exact tE r _ _ _ x.n (nx _ h4) (fun _ => h4) (fun e => by cases e) hA.2 he
     · rw [xN h3 hb] at he
       exact absurd he hb
   have hl := xV hpen x.bx x.b_y
   cases r with
   | nil =>
     rw [Qm h2 h3] at he ⊢
     exact ⟨x.n, hl⟩
   | cons y r =>
     by_cases hn : y.g = true ∨ kU rad (zW l first done d x) (zI l x) (zI l y) x y = none
     · rw [bi h2 h3 hn] at he ⊢
       exact tE (y :: r) _ _ _ x.n (nx _ hl) (fun e => by cases e) (fun e => by cases e) hA.2 he
     · have hg : y.g = false := by
        cases hg : y.g with
        | false => rfl
        | true => exact absurd (.inl hg) hn
       obtain ⟨⟨d', y'⟩, hq⟩ : ∃ q, kU rad (zW l first done d x) (zI l x) (zI l y) x y = some q := Option.ne_none_iff_exists'.1 (fun e => hn (.inr e))
       obtain ⟨v1, v2, v3⟩ := MA hpen (hA.1 y rfl) hg hq
       dsimp only at v1 v2 v3
       rw [ZB h2 h3 hg hq] at he ⊢
       refine tE (y' :: r) _ _ _ x.n (fun z hz => ?_) (fun e => by cases e) (fun e => by cases e) (MC hA.2 v2) he
       injection hz with hz
       subst hz
       rw [v2, v3, hg]
       exact WK v1
termination_by r => r.length
theorem sZ {pa pb : ByteArray} {l : List En} {act fx fy c spd bank oalt gr : Int} {R : Int × Int} (h : (ji l fx fy R (qO pa pb l act fx fy c spd bank oalt gr)).2.2 = 0) :
 (∀ x, (ji l fx fy R (qO pa pb l act fx fy c spd bank oalt gr)).1[0]? = some x → x.g = false) ∧
 ∀ (i : Nat) (x y : El), (ji l fx fy R (qO pa pb l act fx fy c spd bank oalt gr)).1[i]? = some x → (ji l fx fy R (qO pa pb l act fx fy c spd bank oalt gr)).1[i + 1]? = some y → (y.g = true ↔ xU l x.n y.n) := by
 have hT : (qO pa pb l act fx fy c spd bank oalt gr).2.2 = 0 := by
  unfold ji at h
  by_cases h1 : (qO pa pb l act fx fy c spd bank oalt gr).2.2 ≠ 0
  · rw [if_pos h1] at h; exact absurd h h1
  · exact Classical.not_not.1 h1
 have hO := gM hT
 have e : jY l (qN act) (qN act) = none := if_pos rfl
 rw [e] at hO
 obtain ⟨hA, hH⟩ := cN hO rfl
 unfold ji at h ⊢
 rw [if_neg (by rw [hT]; simp)] at h ⊢
 by_cases hR0 : R.2 ≠ 0
 · rw [if_pos hR0] at h; exact absurd h hR0
 rw [if_neg hR0] at h ⊢
 generalize (qO pa pb l act fx fy c spd bank oalt gr).1 = T at *
 cases T with
 | nil => exact ⟨fun x hx => by simp at hx, fun i x y hx => by simp at hx⟩
 | cons y r =>
   dsimp only at h ⊢
   by_cases h1 : (ze l R.1 true false ⟨[], fx, fy, false⟩ y r).2.2 ≠ 0
   · rw [if_pos h1] at h; exact absurd h h1
   rw [if_neg h1] at h ⊢
   by_cases h2 : ((ze l R.1 true false ⟨[], fx, fy, false⟩ y r).1.els.length : Int) > 500
   · rw [if_pos h2] at h; cases h
   rw [if_neg h2]
   obtain ⟨n, G⟩ := tE (l := l) (rad := R.1) (y :: r) true false ⟨[], fx, fy, false⟩ 0 (fun x hx => ⟨(fun z hz => by simp at hz), (fun i z w hz => by simp at hz), (fun z hz => by simp at hz), fun _ => rfl⟩) (fun e => by cases e) (fun _ => rfl) hA (Classical.not_not.1 h1)
   exact ⟨G.head, G.step⟩
end Go.Proofs.YtdlognnifmihnaaGreatDoor
