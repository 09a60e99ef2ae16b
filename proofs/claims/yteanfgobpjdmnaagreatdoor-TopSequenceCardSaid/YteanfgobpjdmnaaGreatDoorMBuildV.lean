/-
  The elements that a drawer draws are sound by themselves (points, lengths), given valid points. No program.
-/
import Derived.Test.YteanfgobpjdmnaaGreatDoorMBuildP
namespace Go.Proofs.YteanfgobpjdmnaaGreatDoor
set_option linter.unusedVariables false
structure NN (x : El) : Prop where
 a : qf x.ax x.ay = true
 b : qf x.bx x.b_y = true
 pos : 1 ≤ x.L
 line : x.c = false → x.L = qJ x.ax x.ay x.bx x.b_y ∧ x.cx = 0 ∧ x.cy = 0 ∧ x.r = 0 ∧ x.f = 0 ∧ x.s = 0
 arc : x.c = true → yX x.cx x.cy x.r x.f x.s = true ∧ x.L = qA x.cx x.cy x.r x.f x.s
structure bT (d : Dw) : Prop where
 pen : qf d.px d.py = true
 els : ∀ x ∈ d.els, NN x
theorem UV {d : Dw} {x : El} (h : bT d) (hx : NN x) : bT (ur d x) :=
 ⟨hx.b, fun y hy => by
  change y ∈ d.els ++ [{ x with g := d.gp }] at hy
  rcases List.mem_append.1 hy with hy | hy
  · exact h.els y hy
  · rw [List.mem_singleton.1 hy]
    exact ⟨hx.a, hx.b, hx.pos, hx.line, hx.arc⟩⟩
theorem Cb {ax ay bx b_y : Int} (h1 : qf ax ay = true) (h2 : qf bx b_y = true) (hne : ¬ (ax = bx ∧ ay = b_y)) : 1 ≤ qJ ax ay bx b_y := by
 apply Classical.byContradiction
 intro h
 have := KJ h1 h2 (by omega)
 exact hne ⟨this.1.symm, this.2.symm⟩
theorem gZ {d : Dw} (h : bT d) {qx qy : Int} (n : Int) (hq : qf qx qy = true) : bT (zJ d qx qy n) := by
 unfold zJ
 split
 · exact h
 · rename_i hne
   exact UV h ⟨h.pen, hq, Cb h.pen hq hne, fun _ => ⟨rfl, rfl, rfl, rfl, rfl, rfl⟩, fun e => by cases e⟩
theorem nW {cx cy r f s : Int} (h : 1 ≤ qA cx cy r f s) : yX cx cy r f s = true := by
 unfold qA at h
 split at h
 · assumption
 · omega
theorem Zw {d : Dw} (h : bT d) {cx cy r f s qx qy : Int} (n : Int) (hq : qf qx qy = true) : bT (yu d cx cy r f s qx qy n) := by
 unfold yu
 split
 · rename_i hl
   exact UV h ⟨h.pen, hq, hl, (fun e => by cases e), fun _ => ⟨nW hl, rfl⟩⟩
 · exact gZ h n hq
def KN (x : El) : Prop := 1 ≤ x.L → NN x
theorem Yw (n : Int) : ∀ (l : List El) (d : Dw), bT d → (∀ x ∈ l, KN x) → bT (jT n d l)
 | [], d, h, _ => h
 | x :: r, d, h, hl => by
   unfold jT
   split
   · rename_i hp
     have hx := hl x (.head _) hp
     exact Yw n r _ (UV h ⟨hx.a, hx.b, hx.pos, hx.line, hx.arc⟩) (fun y hy => hl y (.tail _ hy))
   · exact Yw n r _ h (fun y hy => hl y (.tail _ hy))
theorem gI {ax ay bx b_y : Int} (h1 : qf ax ay = true) (h2 : qf bx b_y = true) : KN (uU ax ay bx b_y) := fun hp => ⟨h1, h2, hp, fun _ => ⟨rfl, rfl, rfl, rfl, rfl, rfl⟩, fun e => by cases e⟩
theorem Va {ax ay bx b_y cx cy rad f s : Int} (h1 : qf ax ay = true) (h2 : qf bx b_y = true) : KN (Zo ax ay bx b_y cx cy rad f s) := fun hp => ⟨h1, h2, hp, (fun e => by cases e), fun _ => ⟨nW hp, rfl⟩⟩
theorem lM {fx fy inb tn leg rad : Int} (h : vY fx fy inb tn leg rad = 0) : ∀ x ∈ tN fx fy inb tn leg rad, KN x := by
 obtain ⟨hf, hr, v1, v2, v3, vc, vd⟩ := YZ h
 intro x hx
 unfold tN at hx
 simp only [List.mem_cons, List.not_mem_nil, or_false] at hx
 rcases hx with rfl | rfl | rfl | rfl
 · exact Va hf v1
 · exact gI v1 v2
 · exact Va v2 v3
 · exact gI v3 hf
theorem lN {fx fy inb tn leg rad : Int} (w : Int) (h : vY fx fy inb tn leg rad = 0) : ∀ x ∈ tO w fx fy inb tn leg rad ++ tN fx fy inb tn leg rad, KN x := by
 obtain ⟨hf, hr, v1, v2, v3, vc, vd⟩ := YZ h
 intro x hx
 rcases List.mem_append.1 hx with hx | hx
 · unfold tO at hx
   dsimp only at hx
   split at hx
   · simp only [List.mem_cons, List.not_mem_nil, or_false] at hx
     rcases hx with rfl | rfl | rfl
     · exact gI hf v2
     · exact Va v2 v3
     · exact gI v3 hf
   split at hx
   · simp only [List.mem_cons, List.not_mem_nil, or_false] at hx
     rcases hx with rfl | rfl | rfl
     · exact gI hf v3
     · exact Va v3 v2
     · exact gI v2 hf
   · cases hx
 · exact lM h x hx
theorem lO {fx fy crs tn dst rad : Int} (h : (vB fx fy crs tn dst rad).1 = 0) : ∀ x ∈ (vB fx fy crs tn dst rad).2, KN x := by
 unfold vB at h ⊢
 split at h
 · cases h
 rename_i h1
 rw [if_neg h1]
 split at h
 · cases h
 rename_i h2
 rw [if_neg h2]
 dsimp only at h ⊢
 split at h
 · rename_i h3
   rw [if_pos h3]
   obtain ⟨a1, a2, a3, a4, a5⟩ := h3
   have hv : qf fx fy = true := by
    rcases hq : qf fx fy with _ | _
    · rw [hq] at h1
      exact absurd rfl h1
    · rfl
   intro x hx
   simp only [List.mem_cons, List.not_mem_nil, or_false] at hx
   rcases hx with rfl | rfl | rfl | rfl | rfl
   · exact gI hv (yT a1)
   · exact gI (yT a1) (yT a2)
   · exact Va (yT a2) (yT a4)
   · exact gI (yT a4) (yT a5)
   · exact gI (yT a5) hv
 · cases h
def ra (t : Tk) : Prop := qf t.ax t.ay = true ∧ qf t.bx t.b_y = true
theorem nX {l : List En} {first done : Bool} {d : Dw} {x : Tk} (h : bT d) (hx : ra x) : bT (zW l first done d x) := by
 have key : bT (if x.g = true ∨ (first = true ∧ (zI l x).ty = 1) then { d with px := x.ax, py := x.ay, gp := x.g && !d.els.isEmpty } else d) := by
  split
  · exact ⟨hx.1, h.els⟩
  · exact h
 unfold zW
 dsimp only
 split
 · exact key
 · exact gZ key _ hx.1
theorem Fz {cx cy r f s n : Int} (h : (qI cx cy r f s n).2.2.2 = 0) : qf (qI cx cy r f s n).1 (qI cx cy r f s n).2.1 = true := by
 unfold qI at h ⊢
 split at h
 · cases h
 rename_i h1
 rw [if_neg h1]
 split at h
 · cases h
 rename_i h2
 rw [if_neg h2]
 split at h
 · rename_i h3
   rw [if_pos h3]
   exact yT h3
 · cases h
theorem PX {ax ay bx b_y cx cy r : Int} {F : List Int} (h : vV ax ay bx b_y cx cy r = (F, 0)) : ∃ p q u f s sx sy ex ey k : Int, F = [p, q, u, f, s, sx, sy, ex, ey, k] ∧ qf sx sy = true ∧ qf ex ey = true := by
 unfold vV at h
 split at h
 · injection h with _ h; cases h
 split at h
 · injection h with _ h; cases h
 split at h
 · injection h with _ h; cases h
 unfold gi at h
 split at h
 · injection h with _ h; cases h
 split at h
 · injection h with _ h; cases h
 split at h
 · injection h with _ h; cases h
 rename_i h1
 split at h
 · injection h with _ h; cases h
 rename_i h2
 split at h
 · injection h with _ h; cases h
 injection h with h _
 exact ⟨_, _, _, _, _, _, _, _, _, _, h.symm, yT (Classical.not_not.1 h1), yT (Classical.not_not.1 h2)⟩
theorem NP {rad : Int} {d d' : Dw} {x y : Tk} (h : bT d) (hd : Kw rad d x y = some d') : bT d' := by
 unfold Kw at hd
 split at hd
 · cases hd
 rename_i r _
 split at hd
 · cases hd
 rename_i h1
 obtain ⟨F, e, hF⟩ : ∃ F e, vV x.ax x.ay x.bx x.b_y y.bx y.b_y r = (F, e) := ⟨_, _, rfl⟩
 rw [hF] at hd h1
 have he : e = 0 := Classical.byContradiction fun hn => h1 (.inl hn)
 subst he
 obtain ⟨p, q, u, f, s, sx, sy, ex, ey, k, rfl, v1, v2⟩ := PX hF
 unfold vk at hd
 dsimp only at hd
 split at hd
 · cases hd
 · rename_i h2
   injection hd with hd
   subst hd
   exact Zw (Zw (gZ h _ v1) _ (Fz (Classical.not_not.1 h2))) _ v2
theorem Cc {cx cy r px py : Int} {b : Bool} (h : (xX cx cy r px py b).2.2 = 0) : qf (xX cx cy r px py b).1 (xX cx cy r px py b).2.1 = true := by
 unfold xX at h ⊢
 split at h
 · cases h
 rename_i h1
 rw [if_neg h1]
 split at h
 · cases h
 rename_i h2
 rw [if_neg h2]
 split at h
 · cases h
 rename_i h3
 rw [if_neg h3]
 split at h
 · cases h
 rename_i h4
 rw [if_neg h4]
 exact yT (Classical.not_not.1 h4)
theorem NQ {rad : Int} {d : Dw} {x y : Tk} {r : Dw × Tk} (h : bT d) (hx : ra x) (hy : ra y) (hd : Zp rad d x y = some r) : bT r.1 ∧ ra r.2 := by
 unfold Zp at hd
 dsimp only at hd
 split at hd
 · cases hd
 split at hd
 · cases hd
 split at hd
 · cases hd
 rename_i h3
 have hv := Cc (Classical.not_not.1 h3)
 split at hd
 · cases hd
 split at hd
 · injection hd with hd
   subst hd
   refine ⟨Zw (gZ h _ hx.2) _ hv, ?_⟩
   dsimp only
   split
   · exact ⟨hv, hy.2⟩
   · exact ⟨hv, hy.2⟩
 · cases hd
theorem NR {rad : Int} {d : Dw} {lx ly : En} {x y : Tk} {r : Dw × Tk} (h : bT d) (hx : ra x) (hy : ra y) (hd : kU rad d lx ly x y = some r) : bT r.1 ∧ ra r.2 := by
 unfold kU at hd
 split at hd
 · cases hd
 split at hd
 · split at hd
   · exact NQ h hx hy hd
   · cases hd
 split at hd
 · cases hd
 · obtain ⟨d', h1, h2⟩ := Option.map_eq_some_iff.1 hd
   subst h2
   exact ⟨NP h h1, hy⟩
theorem rG {rad : Int} {d : Dw} {lx : En} {x : Tk} (h : bT d) (he : (kY rad d lx x).1 = 0) : bT (kY rad d lx x).2 := by
 unfold kY at he ⊢
 split
 · rename_i h3
   rw [if_pos h3] at he
   exact Yw _ _ _ h (lO he)
 · rename_i h3
   rw [if_neg h3] at he
   split
   · rename_i h4
     rw [if_pos h4] at he
     exact absurd he h4
   · rename_i h4
     exact Yw _ _ _ h (lN _ (Classical.not_not.1 h4))
theorem tj {l : List En} {rad : Int} : ∀ (r : List Tk) (first done : Bool) (d : Dw) (x : Tk), bT d → ra x → (∀ y ∈ r, ra y) → (ze l rad first done d x r).2.2 = 0 → bT (ze l rad first done d x r).1
 | [], first, done, d, x, h, hx, hr, he => by
   have hpen := nX (l := l) (first := first) (done := done) h hx
   unfold ze at he ⊢
   split
   · exact Zw hpen _ hx.2
   · rename_i h2
     split
     · rename_i h3
       rw [if_neg h2, if_pos h3] at he
       split
       · rename_i h4
         rw [if_pos h4] at he
         exact absurd he h4
       · rename_i h4
         exact rG hpen (Classical.not_not.1 h4)
     · exact gZ hpen _ hx.2
 | y :: r, first, done, d, x, h, hx, hr, he => by
   have hpen := nX (l := l) (first := first) (done := done) h hx
   have hry := hr y (.head _)
   have hrr := fun z hz => hr z (.tail _ hz)
   unfold ze at he ⊢
   split
   · rename_i h2
     rw [if_pos h2] at he
     exact tj r _ _ _ _ (Zw hpen _ hx.2) hry hrr he
   · rename_i h2
     rw [if_neg h2] at he
     split
     · rename_i h3
       rw [if_pos h3] at he
       split
       · rename_i h4
         rw [if_pos h4] at he
         exact absurd he h4
       · rename_i h4
         rw [if_neg h4] at he
         exact tj r _ _ _ _ (rG hpen (Classical.not_not.1 h4)) hry hrr he
     · rename_i h3
       rw [if_neg h3] at he
       generalize hq : (if y.g = true then none else kU rad (zW l first done d x) (zI l x) (zI l y) x y) = q at he ⊢
       cases q with
       | none => exact tj r _ _ _ _ (gZ hpen _ hx.2) hry hrr he
       | some q =>
         obtain ⟨d', y'⟩ := q
         have hq2 : kU rad (zW l first done d x) (zI l x) (zI l y) x y = some (d', y') := by
          split at hq
          · cases hq
          · exact hq
         obtain ⟨v1, v2⟩ := NR hpen hx hry hq2
         exact tj r _ _ _ _ v1 v2 hrr he
theorem nY {ax ay vx vy n d : Int} (h : (ul ax ay vx vy n d).2.2 = 0) : qf (ul ax ay vx vy n d).1 (ul ax ay vx vy n d).2.1 = true := by
 unfold ul at h ⊢
 repeat' split at h
 all_goals first
  | (cases h; done)
  | (simp_all; done)
theorem NS {ax ay bx b_y px py : Int} (h : (VT ax ay bx b_y px py).2.2 = 0) : qf (VT ax ay bx b_y px py).1 (VT ax ay bx b_y px py).2.1 = true := by
 unfold VT at h ⊢
 split at h
 · cases h
 rename_i h1
 rw [if_neg h1]
 split at h
 · cases h
 rename_i h2
 rw [if_neg h2]
 exact nY h
theorem rH {ax ay bx b_y cx cy dx dy : Int} (h : (Yg ax ay bx b_y cx cy dx dy).2.2 = 0) : qf (Yg ax ay bx b_y cx cy dx dy).1 (Yg ax ay bx b_y cx cy dx dy).2.1 = true := by
 unfold Yg at h ⊢
 split at h
 · cases h
 rename_i h1
 rw [if_neg h1]
 split at h
 · cases h
 rename_i h2
 rw [if_neg h2]
 exact nY h
theorem lQ {x : En} (h : vW x = 0) : qf x.ex x.ey = true ∧ qf x.mx x.my = true := by
 unfold vW at h
 split at h
 · rename_i h1; exact absurd h h1
 split at h
 · cases h
 split at h
 · cases h
 split at h
 · cases h
 · rename_i h4
   simpa using h4
theorem wj {pv : Option En} {x : En} {lo : Bool} {la : Int} (h : (yG pv x lo la).1 = 0) (hg : x.gap = false) : vW x = 0 := by
 unfold yG at h
 rw [if_neg (by rw [hg]; simp)] at h
 split at h
 · rename_i h1; exact absurd h h1
 · rename_i h1; exact Classical.not_not.1 h1
theorem QX : ∀ (l : List En) (pv : Option En) (la : Int), yN pv la l = 0 → ∀ x ∈ l, x.gap = false → vW x = 0
 | [], pv, la, _, x, hx, _ => by cases hx
 | y :: r, pv, la, h, x, hx, hg => by
   unfold yN at h
   split at h
   · rename_i h1; exact absurd h h1
   · rename_i h1
     rcases List.mem_cons.1 hx with rfl | hx
     · exact wj (Classical.not_not.1 h1) hg
     · exact QX r _ _ h x hx hg
def okV (p : Tk × Int) : Prop := p.2 = 0 → ra p.1
theorem zk {q : Prop} [Decidable q] {a b : Tk × Int} (ha : q → okV a) (hb : ¬ q → okV b) : okV (if q then a else b) := by
 split
 · rename_i h; exact ha h
 · rename_i h; exact hb h
theorem zS {t : Tk} {e : Int} (h : e ≠ 0) : okV (t, e) := fun h2 => absurd h2 h
theorem tQ (ax ay c l : Int) : okV (kw ax ay c l) := by
 unfold kw
 refine zk (fun h _ => ⟨(bz h).1, yT h⟩) (fun h => zS h)
theorem tR {ax ay bx b_y : Int} (c : Int) (h1 : qf ax ay = true) (h2 : qf bx b_y = true) : ra (qY ax ay bx b_y c) := by
 unfold qY
 split <;> exact ⟨h1, h2⟩
theorem lR {fx fy : Int} (c alt : Int) {x : En} (y : En) (gr : Int) (h1 : qf fx fy = true) (h2 : qf x.ex x.ey = true) : okV (vR fx fy c alt x y gr) := by
 unfold vR
 refine zk (fun _ _ => tR _ h2 h2) (fun _ => zk (fun _ _ => tR _ h1 h2) (fun _ => zk (fun _ => ?_) (fun _ => zk (fun _ => ?_) (fun _ => zk (fun _ => ?_) (fun _ => zk (fun _ => ?_) (fun _ => zk (fun _ => tQ _ _ _ _) (fun _ => zk (fun _ => ?_) (fun _ => zk (fun _ => ?_) (fun _ => zk (fun _ => ?_) (fun _ => zk (fun _ => ?_) (fun _ _ => ⟨h2, h2⟩)))))))))))
 · unfold yS
   exact zk (fun h => zS h) (fun _ => zk (fun _ => zS (by decide)) (fun _ => zk (fun h => zS h) (fun _ => zk (fun _ _ => tR _ h1 h2) (fun _ => zk (fun h => zS h) (fun h _ => ⟨NS (Classical.not_not.1 h), h2⟩)))))
 · unfold jP
   refine zk (fun h => zS h) (fun _ => ?_)
   split
   · exact zk (fun _ => zS (by decide)) (fun _ => zk (fun h => zS h) (fun _ => zk (fun h => zS h) (fun _ _ => ⟨h1, h2⟩)))
   · rename_i hq
     obtain ⟨v0, v1, v2, v3, v4, e0, e, _⟩ := Yl fx fy x.mx x.my x.ex x.ey (decide (x.tn = 2))
     rw [e] at hq
     exact (hq _ _ _ _ _ rfl).elim
 · unfold yp
   exact zk (fun _ => zS (by decide)) (fun _ => tQ _ _ _ _)
 · unfold yp
   exact zk (fun _ => zS (by decide)) (fun _ => tQ _ _ _ _)
 · unfold uV
   exact zk (fun h _ => tQ _ _ _ _ h) (fun _ => tQ _ _ _ _)
 · unfold jX
   exact zk (fun h => zS h) (fun _ => zk (fun h => zS h) (fun _ => zk (fun _ => zS (by decide)) (fun _ => zk (fun _ => tQ _ _ _ _) (fun _ => zk (fun _ => zS (by decide)) (fun _ => tQ _ _ _ _)))))
 · unfold vp
   exact zk (fun h => zS h) (fun _ => zk (fun h => zS h) (fun _ => zk (fun h => zS h) (fun h => zk (fun _ => zS (by decide)) (fun _ _ => ⟨h1, rH (Classical.not_not.1 h)⟩))))
 · unfold yF
   exact zk (fun _ => zS (by decide)) (fun _ => zk (fun h => zS h) (fun _ => zk (fun h => zS h) (fun _ => zk (fun h => zS h) (fun h => zk (fun _ => zS (by decide)) (fun _ _ => ⟨h1, rH (Classical.not_not.1 h)⟩)))))
theorem dZ {pv : Option En} (fx fy c alt : Int) {x : En} (y : En) (spd bank oalt gr : Int) (h2 : qf x.ex x.ey = true) : okV (qP pv fx fy c alt x y spd bank oalt gr) := by
 unfold qP
 refine zk (fun _ _ => ⟨h2, h2⟩) (fun _ => ?_)
 unfold qg
 refine zk (fun h => zS h) (fun _ => zk (fun _ => zS (by decide)) (fun _ => zk (fun h => zS h) (fun _ => zk (fun _ => zS (by decide)) (fun h => zk (fun _ => zS (by decide)) (fun _ => ?_)))))
 have hv : qf fx fy = true := by
  rcases hq : qf fx fy with _ | _
  · rw [hq] at h
    exact absurd rfl h
  · rfl
 exact lR _ _ _ _ hv h2
theorem Jt {spd bank oalt gr : Int} : ∀ (l : List En) (pv : Option En) (i : Nat) (fx fy c alt : Int), (∀ x ∈ l, x.gap = false → qf x.ex x.ey = true) → ∀ t ∈ (qU spd bank oalt gr pv i fx fy c alt l).1, ra t
 | [], pv, i, fx, fy, c, alt, _, t, h => by cases h
 | x :: r, pv, i, fx, fy, c, alt, hl, t, h => by
   have hr := fun z hz => hl z (.tail _ hz)
   rcases hg : x.gap with _ | _
   · have hx := hl x (.head _) hg
     by_cases he : (qP pv fx fy c alt x (zH r) spd bank oalt gr).2 = 0
     · obtain ⟨T, hT⟩ : ∃ T, qP pv fx fy c alt x (zH r) spd bank oalt gr = (T, 0) := ⟨_, Prod.ext rfl he⟩
       rw [jc hg hT] at h
       unfold yf at h
       split at h
       · cases h
       · have hs := dZ (pv := pv) fx fy c alt (zH r) spd bank oalt gr hx he
         rw [hT] at hs
         rcases List.mem_append.1 h with h | h
         · rw [List.mem_singleton.1 h]
           exact hs
         · exact Jt r _ _ _ _ _ _ hr t h
     · obtain ⟨T, e, hT⟩ : ∃ T e, qP pv fx fy c alt x (zH r) spd bank oalt gr = (T, e) := ⟨_, _, rfl⟩
       rw [hT] at he
       rw [jz hg hT he] at h
       cases h
   · rw [jw hg] at h
     exact Jt r _ _ _ _ _ _ hr t h
structure tk (d : Dw) (m : Int) : Prop where
 up : ∀ (i : Nat) (a b : El), d.els[i]? = some a → d.els[i + 1]? = some b → a.n ≤ b.n
 top : ∀ a ∈ d.els, a.n ≤ m
theorem Gi {d : Dw} {m k : Int} (h : tk d m) (hk : m ≤ k) : tk d k := ⟨h.up, fun a ha => Int.le_trans (h.top a ha) hk⟩
theorem UW {d : Dw} {m : Int} {x : El} (h : tk d m) (hx : m ≤ x.n) : tk (ur d x) x.n := by
 refine ⟨fun i a b ha hb => ?_, fun a ha => ?_⟩
 · change (d.els ++ [{ x with g := d.gp }])[i]? = some a at ha
   change (d.els ++ [{ x with g := d.gp }])[i + 1]? = some b at hb
   have hi : i + 1 < (d.els ++ [{ x with g := d.gp }]).length := (List.getElem?_eq_some_iff.1 hb).1
   rw [List.length_append, List.length_singleton] at hi
   rw [List.getElem?_append_left (by omega)] at ha
   by_cases hlt : i + 1 < d.els.length
   · rw [List.getElem?_append_left hlt] at hb
     exact h.up i a b ha hb
   · rw [List.getElem?_append_right (by omega), show i + 1 - d.els.length = 0 by omega] at hb
     simp at hb
     subst hb
     exact Int.le_trans (h.top a (List.mem_of_getElem? ha)) hx
 · change a ∈ d.els ++ [{ x with g := d.gp }] at ha
   rcases List.mem_append.1 ha with ha | ha
   · exact Int.le_trans (h.top a ha) hx
   · rw [List.mem_singleton.1 ha]
     exact Int.le_refl _
theorem tu {d : Dw} {m n : Int} (h : tk d m) (qx qy : Int) (hn : m ≤ n) : tk (zJ d qx qy n) n := by
 unfold zJ
 split
 · exact Gi h hn
 · exact UW (x := ⟨false, d.px, d.py, qx, qy, 0, 0, 0, 0, 0, qJ d.px d.py qx qy, n, false⟩) h hn
theorem Zx {d : Dw} {m n : Int} (h : tk d m) (cx cy r f s qx qy : Int) (hn : m ≤ n) : tk (yu d cx cy r f s qx qy n) n := by
 unfold yu
 split
 · exact UW (x := ⟨true, d.px, d.py, qx, qy, cx, cy, r, f, s, qA cx cy r f s, n, false⟩) h hn
 · exact tu h _ _ hn
theorem Yx (n : Int) : ∀ (l : List El) (d : Dw), tk d n → tk (jT n d l) n
 | [], d, h => h
 | x :: r, d, h => by
   unfold jT
   split
   · exact Yx n r _ (UW (x := { x with n := n }) h (Int.le_refl _))
   · exact Yx n r _ h
theorem nZ {l : List En} {first done : Bool} {d : Dw} {x : Tk} {m : Int} (h : tk d m) (hm : m ≤ x.n) : tk (zW l first done d x) x.n := by
 have key : tk (if x.g = true ∨ (first = true ∧ (zI l x).ty = 1) then { d with px := x.ax, py := x.ay, gp := x.g && !d.els.isEmpty } else d) m := by
  split
  · exact ⟨h.up, h.top⟩
  · exact h
 unfold zW
 dsimp only
 split
 · exact Gi key hm
 · exact tu key _ _ hm
theorem NT {rad : Int} {d : Dw} {lx ly : En} {x y : Tk} {r : Dw × Tk} (h : tk d x.n) (hn : x.n ≤ y.n) (hd : kU rad d lx ly x y = some r) : tk r.1 y.n ∧ r.2.n = y.n := by
 unfold kU at hd
 split at hd
 · cases hd
 split at hd
 · split at hd
   · unfold Zp at hd
     dsimp only at hd
     split at hd
     · cases hd
     split at hd
     · cases hd
     split at hd
     · cases hd
     split at hd
     · cases hd
     split at hd
     · injection hd with hd
       subst hd
       refine ⟨Zx (tu h _ _ (Int.le_refl _)) _ _ _ _ _ _ _ hn, ?_⟩
       dsimp only
       split <;> rfl
     · cases hd
   · cases hd
 split at hd
 · cases hd
 · obtain ⟨d', h1, h2⟩ := Option.map_eq_some_iff.1 hd
   subst h2
   refine ⟨?_, rfl⟩
   unfold Kw at h1
   split at h1
   · cases h1
   split at h1
   · cases h1
   unfold vk at h1
   split at h1
   · split at h1
     · cases h1
     · injection h1 with h1
       subst h1
       exact Zx (Zx (tu h _ _ (Int.le_refl _)) _ _ _ _ _ _ _ (Int.le_refl _)) _ _ _ _ _ _ _ hn
   · cases h1
theorem rI {rad : Int} {d : Dw} {lx : En} {x : Tk} (h : tk d x.n) : tk (kY rad d lx x).2 x.n := by
 unfold kY
 split
 · exact Yx _ _ _ h
 · split
   · exact h
   · exact Yx _ _ _ h
def rise : Int → List Tk → Prop
 | _, [] => True
 | m, y :: r => m ≤ y.n ∧ rise y.n r
theorem tv {l : List En} {rad : Int} : ∀ (r : List Tk) (first done : Bool) (d : Dw) (x : Tk) (m : Int), tk d m → m ≤ x.n → rise x.n r → (ze l rad first done d x r).2.2 = 0 → ∃ k, tk (ze l rad first done d x r).1 k
 | [], first, done, d, x, m, h, hm, hr, he => by
   have hpen := nZ (l := l) (first := first) (done := done) h hm
   unfold ze at he ⊢
   split
   · exact ⟨_, Zx hpen _ _ _ _ _ _ _ (Int.le_refl _)⟩
   · rename_i h2
     split
     · rename_i h3
       rw [if_neg h2, if_pos h3] at he
       split
       · rename_i h4
         rw [if_pos h4] at he
         exact absurd he h4
       · exact ⟨_, rI hpen⟩
     · exact ⟨_, tu hpen _ _ (Int.le_refl _)⟩
 | y :: r, first, done, d, x, m, h, hm, hr, he => by
   have hpen := nZ (l := l) (first := first) (done := done) h hm
   obtain ⟨hxy, hrr⟩ := hr
   unfold ze at he ⊢
   split
   · rename_i h2
     rw [if_pos h2] at he
     exact tv r _ _ _ _ _ (Zx hpen _ _ _ _ _ _ _ (Int.le_refl _)) hxy hrr he
   · rename_i h2
     rw [if_neg h2] at he
     split
     · rename_i h3
       rw [if_pos h3] at he
       split
       · rename_i h4
         rw [if_pos h4] at he
         exact absurd he h4
       · rename_i h4
         rw [if_neg h4] at he
         exact tv r _ _ _ _ _ (rI hpen) hxy hrr he
     · rename_i h3
       rw [if_neg h3] at he
       generalize hq : (if y.g = true then none else kU rad (zW l first done d x) (zI l x) (zI l y) x y) = q at he ⊢
       cases q with
       | none => exact tv r _ _ _ _ _ (tu hpen _ _ (Int.le_refl _)) hxy hrr he
       | some q =>
         obtain ⟨d', y'⟩ := q
         have hq2 : kU rad (zW l first done d x) (zI l x) (zI l y) x y = some (d', y') := by
          split at hq
          · cases hq
          · exact hq
         obtain ⟨v1, v2⟩ := NT hpen hxy hq2
         dsimp only at v1 v2 he ⊢
         exact tv r _ _ _ _ _ v1 (by omega) (by rw [v2]; exact hrr) he
theorem tS {spd bank oalt gr : Int} : ∀ (l : List En) (pv : Option En) (i : Nat) (fx fy c alt m : Int), m ≤ (i : Int) → rise m (qU spd bank oalt gr pv i fx fy c alt l).1
 | [], pv, i, fx, fy, c, alt, m, hm => trivial
 | x :: r, pv, i, fx, fy, c, alt, m, hm => by
   rcases hg : x.gap with _ | _
   · by_cases he : (qP pv fx fy c alt x (zH r) spd bank oalt gr).2 = 0
     · obtain ⟨T, hT⟩ : ∃ T, qP pv fx fy c alt x (zH r) spd bank oalt gr = (T, 0) := ⟨_, Prod.ext rfl he⟩
       rw [jc hg hT]
       unfold yf
       split
       · trivial
       · exact ⟨hm, tS r _ _ _ _ _ _ _ (by show (i : Int) ≤ ((i + 1 : Nat) : Int); omega)⟩
     · obtain ⟨T, e, hT⟩ : ∃ T e, qP pv fx fy c alt x (zH r) spd bank oalt gr = (T, e) := ⟨_, _, rfl⟩
       rw [hT] at he
       rw [jz hg hT he]
       trivial
   · rw [jw hg]
     exact tS r _ _ _ _ _ _ _ (by omega)
def Nr (cx cy r f s ax ay bx b_y : Int) : Prop := uW cx cy r f s 0 ax ay = false ∧ uW cx cy r f s (qA cx cy r f s) bx b_y = false ∧
 ((ax - (cx + zQ r f) ≤ 12 ∧ cx + zQ r f - ax ≤ 12) ∧ (ay - (cy + zR r f) ≤ 12 ∧ cy + zR r f - ay ≤ 12))
theorem bV {cx cy r f s al px py : Int} (h : (qI cx cy r f s al).2.2.2 = 0 → (px - (qI cx cy r f s al).1 ≤ 16 ∧ (qI cx cy r f s al).1 - px ≤ 16) ∧ (py - (qI cx cy r f s al).2.1 ≤ 16 ∧ (qI cx cy r f s al).2.1 - py ≤ 16)) : uW cx cy r f s al px py = false := by
 unfold uW ng
 by_cases h0 : (qI cx cy r f s al).2.2.2 = 0
 · have := h h0
   rw [Bool.and_eq_false_iff]
   right
   apply decide_eq_false
   generalize (qI cx cy r f s al).1 = u at *
   generalize (qI cx cy r f s al).2.1 = v at *
   omega
 · rw [decide_eq_false h0]
   rfl
theorem bW {r a b : Int} (h : norm a = norm b) : zQ r a = zQ r b ∧ zR r a = zR r b := by
 unfold zQ zR
 rw [ve _ _ h, kR _ _ h]
 exact ⟨rfl, rfl⟩
theorem PY {cx cy r f s ax ay bx b_y : Int} (hB : yX cx cy r f s = true) (hn : 1 ≤ qA cx cy r f s)
 (ha : (ax - (cx + zQ r f) ≤ 12 ∧ cx + zQ r f - ax ≤ 12) ∧ (ay - (cy + zR r f) ≤ 12 ∧ cy + zR r f - ay ≤ 12))
 (hb : (bx - (cx + zQ r (f + s)) ≤ 16 ∧ cx + zQ r (f + s) - bx ≤ 16) ∧ (b_y - (cy + zR r (f + s)) ≤ 16 ∧ cy + zR r (f + s) - b_y ≤ 16)) : Nr cx cy r f s ax ay bx b_y := by
 have hl := yJ cx cy r f s
 have hf := (vF _ _ _ _ _).1 hB
 refine ⟨bV fun h0 => ?_, bV fun h0 => ?_, ha⟩
 · have hat := kG hB (Int.le_refl 0) hl.1 h0
   rw [yx _ _ _ hf.2.2.2.1 hf.2.2.2.2.1] at hat
   rw [hat.1, hat.2]
   omega
 · have hat := kG hB hl.1 (Int.le_refl _) h0
   rw [ui _ _ _ (by omega)] at hat
   have e := bW (r := r) (a := (f + s) % 129600000) (b := f + s) (by unfold norm; omega)
   rw [e.1, e.2] at hat
   rw [hat.1, hat.2]
   exact hb
theorem KO {ax ay cx cy bx b_y v0 v1 v2 v3 v4 : Int} {right : Bool} (h : jh ax ay cx cy bx b_y right = ([v0, v1, v2, v3, v4], 0)) : Nr v0 v1 v2 v3 v4 ax ay bx b_y := by
 have h0 : (jh ax ay cx cy bx b_y right).2 = 0 := by rw [h]
 obtain ⟨w1, w2, w3, w4, w5, w6, k4⟩ := Ui h0
 obtain ⟨a0, a1, a2, a3, a4⟩ := YE w2 w1 w4
 have S := ZM a0 a3 a4 a1 (by omega)
 clear a0 a1 a2 a3 a4 w1 w2 w3 w4 w5 w6
 rw [h] at k4
 simp only [List.cons.injEq, and_true] at k4
 obtain ⟨rfl, rfl, e2, e3, e4⟩ := k4
 have A := WU h0 e2 e3 e4
 rw [← e2, ← e3] at S
 refine ⟨bV fun h1 => ?_, bV fun h1 => ?_, ?_⟩
 rotate_left 2
 · clear A
   generalize zQ v2 v3 = u at *
   generalize zR v2 v3 = v at *
   clear e2 e3 e4 h h0
   omega
 · have := A.2.1 h1
   generalize (qI v0 v1 v2 v3 v4 0).1 = u at *
   generalize (qI v0 v1 v2 v3 v4 0).2.1 = v at *
   omega
 · have := A.2.2 h1
   generalize (qI v0 v1 v2 v3 v4 (qA v0 v1 v2 v3 v4)).1 = u at *
   generalize (qI v0 v1 v2 v3 v4 (qA v0 v1 v2 v3 v4)).2.1 = v at *
   omega
theorem Gj (r a : Int) : (-1 ≤ zQ r (a + 64800000) + zQ r a ∧ zQ r (a + 64800000) + zQ r a ≤ 1) ∧ (-1 ≤ zR r (a + 64800000) + zR r a ∧ zR r (a + 64800000) + zR r a ≤ 1) := by
 unfold zQ zR
 rw [vT, kS, Int.mul_neg, Int.mul_neg]
 have h1 := zO (r * qV a)
 have h2 := zO (-(r * qV a))
 have h3 := zO (r * qX a)
 have h4 := zO (-(r * qX a))
 omega
theorem KP (r a : Int) : (-1 ≤ zQ (2 * r) a - 2 * zQ r a ∧ zQ (2 * r) a - 2 * zQ r a ≤ 1) ∧ (-1 ≤ zR (2 * r) a - 2 * zR r a ∧ zR (2 * r) a - 2 * zR r a ≤ 1) := by
 unfold zQ zR
 rw [show 2 * r * qV a = 2 * (r * qV a) by grind, show 2 * r * qX a = 2 * (r * qX a) by grind]
 have h1 := zO (r * qV a)
 have h2 := zO (2 * (r * qV a))
 have h3 := zO (r * qX a)
 have h4 := zO (2 * (r * qX a))
 omega
theorem NU {cx cy r u f s ax ay bx b_y : Int} (hB : yX cx cy r f s = true) (hn : 1 ≤ qA cx cy r f s) (hf : norm f = norm (u + 64800000)) (hs : s = 64800000 ∨ s = -64800000)
 (ha : ax = cx - zQ r u ∧ ay = cy - zR r u) (hb : bx = cx - zQ r u + zQ (2 * r) u ∧ b_y = cy - zR r u + zR (2 * r) u) : Nr cx cy r f s ax ay bx b_y := by
 have e1 := bW (r := r) hf
 have e2 := bW (r := r) (a := f + s) (b := u) (by unfold norm at *; omega)
 have h1 := Gj r u
 have h2 := KP r u
 refine PY hB hn ?_ ?_
 · rw [e1.1, e1.2]; omega
 · rw [e2.1, e2.2]; omega
theorem Cd {cx cy r u f s ax ay bx b_y : Int} (hB : yX cx cy r f s = true) (hn : 1 ≤ qA cx cy r f s) (hf : norm f = norm u) (hs : s = 64800000 ∨ s = -64800000)
 (hb : bx = cx - zQ r u ∧ b_y = cy - zR r u) (ha : ax = cx - zQ r u + zQ (2 * r) u ∧ ay = cy - zR r u + zR (2 * r) u) : Nr cx cy r f s ax ay bx b_y := by
 have e1 := bW (r := r) hf
 have e2 := bW (r := r) (a := f + s) (b := u + 64800000) (by unfold norm at *; omega)
 have h1 := Gj r u
 have h2 := KP r u
 refine PY hB hn ?_ ?_
 · rw [e1.1, e1.2]; omega
 · rw [e2.1, e2.2]; omega
def lS (x : El) : Prop := x.c = true → 1 ≤ x.L → Nr x.cx x.cy x.r x.f x.s x.ax x.ay x.bx x.b_y
structure vU (d : Dw) : Prop where
 all : ∀ x ∈ d.els, lS x
theorem Vb {d : Dw} {x : El} (h : vU d) (hx : lS x) : vU (ur d x) := ⟨fun y hy => by
 rcases List.mem_append.1 hy with hy | hy
 · exact h.all y hy
 · rw [List.mem_singleton.1 hy]
   exact hx⟩
theorem bg {d : Dw} (h : vU d) (qx qy n : Int) : vU (zJ d qx qy n) := by
 unfold zJ
 split
 · exact h
 · exact Vb h (fun hc => by cases hc)
theorem xF {d : Dw} (h : vU d) {cx cy r f s qx qy : Int} (n : Int) (hx : 1 ≤ qA cx cy r f s → Nr cx cy r f s d.px d.py qx qy) : vU (yu d cx cy r f s qx qy n) := by
 unfold yu
 split
 · exact Vb h (fun _ hl => hx hl)
 · exact bg h _ _ _
theorem Vc (n : Int) : ∀ (l : List El) (d : Dw), vU d → (∀ x ∈ l, lS x) → vU (jT n d l)
 | [], d, h, _ => h
 | x :: r, d, h, hl => by
   unfold jT
   refine Vc n r _ ?_ (fun y hy => hl y (.tail _ hy))
   split
   · exact Vb h (hl x (.head _))
   · exact h
theorem Gk {l : List En} {first done : Bool} {d : Dw} {x : Tk} (h : vU d) : vU (zW l first done d x) := by
 have key : vU (if x.g = true ∨ (first = true ∧ (zI l x).ty = 1) then { d with px := x.ax, py := x.ay, gp := x.g && !d.els.isEmpty } else d) := by
  split
  · exact ⟨h.all⟩
  · exact h
 unfold zW
 dsimp only
 split
 · exact key
 · exact bg key _ _ _
theorem QP {ax ay bx b_y : Int} : lS (uU ax ay bx b_y) := fun hc => by cases hc
theorem wk {cx cy r u f s ax ay bx b_y : Int} (hf : norm f = norm (u + 64800000)) (hs : s = 64800000 ∨ s = -64800000)
 (ha : ax = cx - zQ r u ∧ ay = cy - zR r u) (hb : bx = cx - zQ r u + zQ (2 * r) u ∧ b_y = cy - zR r u + zR (2 * r) u) : lS (Zo ax ay bx b_y cx cy r f s) :=
 fun _ hl => NU (nW hl) hl (by rw [← hf]; unfold Zo norm; dsimp only; omega) hs ha hb
theorem PZ {cx cy r u f s ax ay bx b_y : Int} (hf : norm f = norm u) (hs : s = 64800000 ∨ s = -64800000)
 (hb : bx = cx - zQ r u ∧ b_y = cy - zR r u) (ha : ax = cx - zQ r u + zQ (2 * r) u ∧ ay = cy - zR r u + zR (2 * r) u) : lS (Zo ax ay bx b_y cx cy r f s) :=
 fun _ hl => Cd (nW hl) hl (by rw [← hf]; unfold Zo norm; dsimp only; omega) hs hb ha
theorem Na (tn : Int) : -(2 * xz tn) = 64800000 ∨ -(2 * xz tn) = -64800000 := by unfold xz; split <;> omega
theorem ma {fx fy inb tn leg rad : Int} (h : vY fx fy inb tn leg rad = 0) : ∃ mx my : Int,
 ((kV fx fy inb tn leg rad).cx = fx + zQ rad (yt inb tn) ∧ (kV fx fy inb tn leg rad).cy = fy + zR rad (yt inb tn)) ∧
 ((kV fx fy inb tn leg rad).x1 = fx + zQ (2 * rad) (yt inb tn) ∧ (kV fx fy inb tn leg rad).y1 = fy + zR (2 * rad) (yt inb tn)) ∧
 ((kV fx fy inb tn leg rad).x3 = fx + mx ∧ (kV fx fy inb tn leg rad).y3 = fy + my) ∧
 ((kV fx fy inb tn leg rad).x2 = fx + zQ (2 * rad) (yt inb tn) + mx ∧ (kV fx fy inb tn leg rad).y2 = fy + zR (2 * rad) (yt inb tn) + my) ∧
 ((kV fx fy inb tn leg rad).dx = fx + zQ rad (yt inb tn) + mx ∧ (kV fx fy inb tn leg rad).dy = fy + zR rad (yt inb tn) + my) := by
 unfold vY at h
 split at h
 · cases h
 split at h
 · cases h
 split at h
 · rename_i h3
   obtain ⟨a1, a2, a3, _, _⟩ := h3
   obtain ⟨_, _, _, _, b1, b2⟩ := bz a1
   obtain ⟨_, _, _, _, c1, c2⟩ := bz a2
   obtain ⟨_, _, _, _, d1, d2⟩ := bz a3
   refine ⟨zQ leg (inb + 64800000), zR leg (inb + 64800000), ?_⟩
   unfold kV
   dsimp only
   rw [b1, b2, c1, c2, d1, d2]
   generalize zQ leg (inb + 64800000) = m1
   generalize zR leg (inb + 64800000) = m2
   generalize zQ rad (yt inb tn) = m3
   generalize zR rad (yt inb tn) = m4
   generalize zQ (2 * rad) (yt inb tn) = m5
   generalize zR (2 * rad) (yt inb tn) = m6
   omega
 · cases h
theorem NV {fx fy inb tn leg rad : Int} (h : vY fx fy inb tn leg rad = 0) : ∀ x ∈ tN fx fy inb tn leg rad, lS x := by
 obtain ⟨mx, my, e1, e2, e3, e4, e5⟩ := ma h
 unfold tN
 dsimp only
 rw [e1.1, e1.2, e2.1, e2.2, e3.1, e3.2, e4.1, e4.2, e5.1, e5.2]
 intro x hx
 simp only [List.mem_cons, List.not_mem_nil, or_false] at hx
 rcases hx with rfl | rfl | rfl | rfl
 · exact wk (u := yt inb tn) rfl (UU tn) (by omega) (by omega)
 · exact QP
 · exact PZ (u := yt inb tn) rfl (UU tn) (by omega) (by omega)
 · exact QP
theorem NW {fx fy inb tn leg rad : Int} (w : Int) (h : vY fx fy inb tn leg rad = 0) : ∀ x ∈ tO w fx fy inb tn leg rad ++ tN fx fy inb tn leg rad, lS x := by
 intro x hx
 rcases List.mem_append.1 hx with hx | hx
 · obtain ⟨mx, my, e1, e2, e3, e4, e5⟩ := ma h
   unfold tO at hx
   dsimp only at hx
   rw [e3.1, e3.2, e4.1, e4.2, e5.1, e5.2] at hx
   split at hx
   · simp only [List.mem_cons, List.not_mem_nil, or_false] at hx
     rcases hx with rfl | rfl | rfl
     · exact QP
     · exact PZ (u := yt inb tn) rfl (UU tn) (by omega) (by omega)
     · exact QP
   · split at hx
     · simp only [List.mem_cons, List.not_mem_nil, or_false] at hx
       rcases hx with rfl | rfl | rfl
       · exact QP
       · exact wk (u := yt inb tn) rfl (Na tn) (by omega) (by omega)
       · exact QP
     · cases hx
 · exact NV h x hx
theorem NZ {fx fy crs tn dst rad : Int} (h : (vB fx fy crs tn dst rad).1 = 0) : ∀ x ∈ (vB fx fy crs tn dst rad).2, lS x := by
 unfold vB at h ⊢
 split
 · rename_i h1
   rw [if_pos h1] at h
   cases h
 · rename_i h1
   rw [if_neg h1] at h
   split
   · rename_i h2
     rw [if_pos h2] at h
     cases h
   · rename_i h2
     rw [if_neg h2] at h
     dsimp only at h ⊢
     split
     · rename_i h3
       obtain ⟨_, _, a3, a4, _⟩ := h3
       obtain ⟨_, _, _, _, b1, b2⟩ := bz a3
       obtain ⟨_, _, _, _, c1, c2⟩ := bz a4
       rw [b1, b2, c1, c2]
       intro x hx
       simp only [List.mem_cons, List.not_mem_nil, or_false] at hx
       rcases hx with rfl | rfl | rfl | rfl | rfl
       · exact QP
       · exact QP
       · exact wk (u := dV crs tn) rfl (Na tn) (by omega) (by omega)
       · exact QP
       · exact QP
     · rename_i h3
       rw [if_neg h3] at h
       cases h
theorem Ju {l : List Int} {c : Int} (hc : c ≠ 0) (h : ((l, c) : List Int × Int).2 = 0) : False := hc h
theorem Ma {x d r cx cy sx sy f : Int} (ecx : cx = sx + zQ r (zg x (zr d 32400000))) (ecy : cy = sy + zR r (zg x (zr d 32400000))) (hf : f = zg x (-zr d 32400000)) :
 (sx - (cx + zQ r f) ≤ 12 ∧ cx + zQ r f - sx ≤ 12) ∧ (sy - (cy + zR r f) ≤ 12 ∧ cy + zR r f - sy ≤ 12) := by
 have hopp : qV f = -qV (zg x (zr d 32400000)) ∧ qX f = -qX (zg x (zr d 32400000)) :=
  Vy (by rw [hf, jD, jD]; unfold norm; rcases Zd d with ⟨_, h⟩ | ⟨_, h⟩ <;> rw [h] <;> omega)
 obtain ⟨u, hu⟩ : ∃ u, u = cx + zQ r f := ⟨_, rfl⟩
 obtain ⟨v, hv⟩ : ∃ v, v = cy + zR r f := ⟨_, rfl⟩
 rw [← hu, ← hv]
 unfold zQ at hu ecx
 unfold zR at hv ecy
 rw [hopp.1] at hu
 rw [hopp.2] at hv
 have a := ZN ecx hu
 have b := ZN ecy hv
 omega
theorem rJ {ax ay bx b_y cx cy r v0 v1 v2 v3 v4 v5 v6 v7 v8 v9 : Int} (h : vV ax ay bx b_y cx cy r = ([v0, v1, v2, v3, v4, v5, v6, v7, v8, v9], 0)) :
 yX v0 v1 v2 v3 v4 = true ∧
 ((qI v0 v1 v2 v3 v4 0).2.2.2 = 0 → Ends (qI v0 v1 v2 v3 v4 0).1 (qI v0 v1 v2 v3 v4 0).2.1 v5 v6) ∧
 ((qI v0 v1 v2 v3 v4 (qA v0 v1 v2 v3 v4)).2.2.2 = 0 → Ends (qI v0 v1 v2 v3 v4 (qA v0 v1 v2 v3 v4)).1 (qI v0 v1 v2 v3 v4 (qA v0 v1 v2 v3 v4)).2.1 v7 v8) ∧ v4.natAbs ≤ 54000000 ∧
 ((v5 - (v0 + zQ v2 v3) ≤ 12 ∧ v0 + zQ v2 v3 - v5 ≤ 12) ∧ (v6 - (v1 + zR v2 v3) ≤ 12 ∧ v1 + zR v2 v3 - v6 ≤ 12)) := by
 have h0 : (vV ax ay bx b_y cx cy r).2 = 0 := by rw [h]
 have h := h.symm
 unfold vV at h h0
 by_cases h1 : (!(qf ax ay && qf bx b_y && qf cx cy)) = true
 · rw [if_pos h1] at h0; exact (Ju (by decide) h0).elim
 rw [if_neg h1] at h h0
 by_cases h2 : r < 1 ∨ r > 8000000
 · rw [if_pos h2] at h0; exact (Ju (by decide) h0).elim
 rw [if_neg h2] at h h0
 by_cases h3 : (ax = bx ∧ ay = b_y) ∨ (bx = cx ∧ b_y = cy)
 · rw [if_pos h3] at h0; exact (Ju (by decide) h0).elim
 rw [if_neg h3] at h h0
 obtain ⟨g1, g2, g3, X, Y, sx, sy, ex, ey, g4, q1, q2, q3, q4, q5, q6, q7, q8, q9⟩ := GH h0
 rw [← h] at g4
 simp only [List.cons.injEq, and_true] at g4
 obtain ⟨rfl, rfl, rfl, rfl, rfl, rfl, rfl, rfl, rfl, rfl⟩ := g4
 have hm := kh ax ay bx b_y
 have G := WS (r := v2) (m := qJ ax ay bx b_y) (by omega) (by omega) (by omega) rfl rfl g1 g2 q1 q2 q3 q4 q5 q6 q7 rfl
 exact ⟨G.1, G.2.1, G.2.2, by omega, Ma q5 q6 rfl⟩
theorem rL {px py a b r : Int} (h : norm a = norm b) : zi px py a r = zi px py b r := by
 have e := bW (r := r) h
 unfold zi
 rw [e.1, e.2]
theorem mf {cx cy r f s al f' s' al' : Int} (hB : yX cx cy r f s = true) (hB' : yX cx cy r f' s' = true) (h0 : 0 ≤ al) (h1 : al ≤ qA cx cy r f s) (h0' : 0 ≤ al') (h1' : al' ≤ qA cx cy r f' s')
 (hd : norm (jM f s (qA cx cy r f s) al) = norm (jM f' s' (qA cx cy r f' s') al')) :
 (qI cx cy r f s al).2.2.2 = (qI cx cy r f' s' al').2.2.2 ∧ (qI cx cy r f s al).1 = (qI cx cy r f' s' al').1 ∧ (qI cx cy r f s al).2.1 = (qI cx cy r f' s' al').2.1 := by
 have e := rL (px := cx) (py := cy) (r := r) hd
 unfold qI
 rw [hB, hB']
 simp only [Bool.not_true, Bool.false_eq_true, if_false]
 rw [if_neg (show ¬ (al < 0 ∨ al > qA cx cy r f s) by omega), if_neg (show ¬ (al' < 0 ∨ al' > qA cx cy r f' s') by omega), e]
 split <;> exact ⟨rfl, rfl, rfl⟩
theorem mg (s : Int) : (0 ≤ s ∧ s.tdiv 2 = s / 2) ∨ (s < 0 ∧ s.tdiv 2 = -((-s) / 2)) := by
 by_cases h : s < 0
 · right
   refine ⟨h, ?_⟩
   have : (- -s).tdiv 2 = -((-s).tdiv 2) := Int.neg_tdiv _ _
   rw [Int.neg_neg] at this
   rw [this, Int.tdiv_eq_ediv_of_nonneg (by omega)]
 · exact .inl ⟨by omega, Int.tdiv_eq_ediv_of_nonneg (by omega)⟩
theorem cf {ax ay bx b_y cx cy r v0 v1 v2 v3 v4 v5 v6 v7 v8 v9 : Int} (h : vV ax ay bx b_y cx cy r = ([v0, v1, v2, v3, v4, v5, v6, v7, v8, v9], 0))
 (hm : (qI v0 v1 v2 v3 (v4.tdiv 2) (qA v0 v1 v2 v3 (v4.tdiv 2))).2.2.2 = 0) :
 Nr v0 v1 v2 v3 (v4.tdiv 2) v5 v6 (qI v0 v1 v2 v3 (v4.tdiv 2) (qA v0 v1 v2 v3 (v4.tdiv 2))).1 (qI v0 v1 v2 v3 (v4.tdiv 2) (qA v0 v1 v2 v3 (v4.tdiv 2))).2.1 ∧
 (1 ≤ qA v0 v1 v2 (norm (v3 + v4.tdiv 2)) (v4 - v4.tdiv 2) → Nr v0 v1 v2 (norm (v3 + v4.tdiv 2)) (v4 - v4.tdiv 2) (qI v0 v1 v2 v3 (v4.tdiv 2) (qA v0 v1 v2 v3 (v4.tdiv 2))).1 (qI v0 v1 v2 v3 (v4.tdiv 2) (qA v0 v1 v2 v3 (v4.tdiv 2))).2.1 v7 v8) := by
 obtain ⟨hB, E0, E1, hs, hraw⟩ := rJ h
 clear h
 have hb := (vF _ _ _ _ _).1 hB
 obtain ⟨b1, b2, b3, b4, b5, b6, b7⟩ := hb
 have hh := mg v4
 generalize hs1 : v4.tdiv 2 = s1 at *
 have hB1 : yX v0 v1 v2 v3 s1 = true := (vF _ _ _ _ _).2 ⟨b1, b2, b3, b4, b5, by omega, by omega⟩
 have nb := zM (v3 + s1)
 have hB2 : yX v0 v1 v2 (norm (v3 + s1)) (v4 - s1) = true := (vF _ _ _ _ _).2 ⟨b1, b2, b3, nb.1, nb.2, by omega, by omega⟩
 have l0 := yJ v0 v1 v2 v3 v4
 have l1 := yJ v0 v1 v2 v3 s1
 have l2 := yJ v0 v1 v2 (norm (v3 + s1)) (v4 - s1)
 have q0 := uh hB
 have q1 := uh hB1
 have q2 := uh hB2
 have hmid := kG hB1 l1.1 (Int.le_refl _) hm
 have raw2 : ((qI v0 v1 v2 v3 s1 (qA v0 v1 v2 v3 s1)).1 - (v0 + zQ v2 (norm (v3 + s1))) ≤ 12 ∧ v0 + zQ v2 (norm (v3 + s1)) - (qI v0 v1 v2 v3 s1 (qA v0 v1 v2 v3 s1)).1 ≤ 12) ∧ ((qI v0 v1 v2 v3 s1 (qA v0 v1 v2 v3 s1)).2.1 - (v1 + zR v2 (norm (v3 + s1))) ≤ 12 ∧ v1 + zR v2 (norm (v3 + s1)) - (qI v0 v1 v2 v3 s1 (qA v0 v1 v2 v3 s1)).2.1 ≤ 12) := by
  by_cases hn1 : qA v0 v1 v2 v3 s1 = 0
  · rw [hn1, yx _ _ _ b4 b5] at hmid
    rw [hn1, hmid.1, hmid.2]
    rw [hn1, JK] at q1
    have e := bW (r := v2) (a := norm (v3 + s1)) (b := v3 + s1) (by unfold norm; omega)
    rw [e.1, e.2]
    have hp : 0 ≤ v2 * (s1.natAbs : Int) := Int.mul_nonneg (by omega) (by omega)
    have hp2 : 2 * (v2 * (s1.natAbs : Int)) < 20626481 := by
     clear hmid E0 E1 hraw
     omega
    have hs' : v2 * (84 * (s1.natAbs : Int)) ≤ 866312202 := by
     have : v2 * (84 * (s1.natAbs : Int)) = 84 * (v2 * s1.natAbs) := by grind
     omega
    have fin : ∀ v : Int, -(84 * (s1.natAbs : Int)) ≤ v ∧ v ≤ 84 * s1.natAbs → -866312202 ≤ v2 * v ∧ v2 * v ≤ 866312202 := fun v hv => by
     have a := Int.mul_le_mul_of_nonneg_left hv.1 (show 0 ≤ v2 by omega)
     have b := Int.mul_le_mul_of_nonneg_left hv.2 (show 0 ≤ v2 by omega)
     rw [Int.mul_neg] at a
     omega
    have hl : (-(84 * (s1.natAbs : Int)) ≤ qV (v3 + s1) - qV v3 ∧ qV (v3 + s1) - qV v3 ≤ 84 * s1.natAbs) ∧ (-(84 * (s1.natAbs : Int)) ≤ qX (v3 + s1) - qX v3 ∧ qX (v3 + s1) - qX v3 ≤ 84 * s1.natAbs) := by
     by_cases hneg : s1 < 0
     · have l := GD s1.natAbs (v3 + s1)
       rw [show v3 + s1 + (s1.natAbs : Int) = v3 by omega] at l
       omega
     · have l := GD s1.natAbs v3
       rw [show v3 + (s1.natAbs : Int) = v3 + s1 by omega] at l
       exact l
    have m1 := fin _ hl.1
    have m2 := fin _ hl.2
    rw [Int.mul_sub] at m1 m2
    unfold zQ zR
    have r1 := zO (v2 * qV (v3 + s1))
    have r2 := zO (v2 * qV v3)
    have r3 := zO (v2 * qX (v3 + s1))
    have r4 := zO (v2 * qX v3)
    clear hmid E0 E1 hm hraw e hl fin hp hp2 hs' q0 q1 q2
    generalize jG 2 (v2 * qV (v3 + s1)) 1073741824 = k1 at *
    generalize jG 2 (v2 * qV v3) 1073741824 = k2 at *
    generalize jG 2 (v2 * qX (v3 + s1)) 1073741824 = k3 at *
    generalize jG 2 (v2 * qX v3) 1073741824 = k4 at *
    omega
  · rw [ui _ _ _ (by omega)] at hmid
    have e := bW (r := v2) (a := norm (v3 + s1)) (b := (v3 + s1) % 129600000) (by unfold norm; omega)
    rw [e.1, e.2, hmid.1, hmid.2]
    omega
 refine ⟨⟨bV fun h0 => ?_, bV fun h0 => ?_, hraw⟩, fun hn => ⟨bV fun h0 => ?_, bV fun h0 => ?_, raw2⟩⟩
 · have S := mf hB1 hB (Int.le_refl 0) l1.1 (Int.le_refl 0) l0.1 (by rw [yx _ _ _ b4 b5, yx _ _ _ b4 b5])
   rw [S.1] at h0
   have := E0 h0
   unfold Ends at this
   rw [S.2.1, S.2.2]
   clear S E0 E1 hmid hm h0 hraw raw2
   generalize (qI v0 v1 v2 v3 v4 0).1 = u at *
   generalize (qI v0 v1 v2 v3 v4 0).2.1 = v at *
   omega
 · omega
 · have hat := kG hB2 (Int.le_refl 0) l2.1 h0
   rw [yx _ _ _ nb.1 nb.2] at hat
   rw [hat.1, hat.2]
   omega
 · have hn0 : 1 ≤ qA v0 v1 v2 v3 v4 := by
    rw [q0]
    rw [q2] at hn
    rw [JK] at hn ⊢
    have : v2 * ((v4 - s1).natAbs : Int) ≤ v2 * (v4.natAbs : Int) := Int.mul_le_mul_of_nonneg_left (by omega) (by omega)
    clear hmid E0 E1 hm h0 q0 q1 q2
    omega
   have S := mf hB2 hB l2.1 (Int.le_refl _) l0.1 (Int.le_refl _) (by
    rw [ui _ _ _ (by omega), ui _ _ _ (by omega)]
    unfold norm
    omega)
   rw [S.1] at h0
   have := E1 h0
   unfold Ends at this
   rw [S.2.1, S.2.2]
   clear S E0 E1 hmid hm h0 hraw raw2
   generalize (qI v0 v1 v2 v3 v4 (qA v0 v1 v2 v3 v4)).1 = u at *
   generalize (qI v0 v1 v2 v3 v4 (qA v0 v1 v2 v3 v4)).2.1 = v at *
   omega
theorem lT {rad : Int} {d d' : Dw} {x y : Tk} (h : vU d) (hd : Kw rad d x y = some d') : vU d' := by
 unfold Kw at hd
 split at hd
 · cases hd
 rename_i r _
 split at hd
 · cases hd
 rename_i h1
 obtain ⟨F, e, hF⟩ : ∃ F e, vV x.ax x.ay x.bx x.b_y y.bx y.b_y r = (F, e) := ⟨_, _, rfl⟩
 rw [hF] at hd h1
 have he : e = 0 := Classical.byContradiction fun hn => h1 (.inl hn)
 subst he
 obtain ⟨p, q, u, f, s, sx, sy, ex, ey, k, rfl, v1, v2⟩ := PX hF
 unfold vk at hd
 dsimp only at hd
 split at hd
 · cases hd
 · rename_i h2
   injection hd with hd
   subst hd
   have N := cf hF (Classical.not_not.1 h2)
   have e1 := Zu d sx sy x.n
   refine xF (xF (bg h _ _ _) _ (fun _ => ?_)) _ (fun hn => ?_)
   · rw [e1.1, e1.2]
     exact N.1
   · have e2 := lG (zJ d sx sy x.n) p q u f (s.tdiv 2) (qI p q u f (s.tdiv 2) (qA p q u f (s.tdiv 2))).1 (qI p q u f (s.tdiv 2) (qA p q u f (s.tdiv 2))).2.1 x.n
     rw [e2.1, e2.2]
     exact N.2 hn
theorem lU {rad : Int} {d : Dw} {x y : Tk} {r : Dw × Tk} (h : vU d) (hd : Zp rad d x y = some r) : vU r.1 := by
 unfold Zp at hd
 dsimp only at hd
 split at hd
 · cases hd
 split at hd
 · cases hd
 split at hd
 · cases hd
 split at hd
 · cases hd
 rename_i h4
 split at hd
 · rename_i cx cy r0 f s hA
   injection hd with hd
   subst hd
   refine xF (bg h _ _ _) _ (fun _ => ?_)
   have e1 := Zu d x.bx x.b_y x.n
   rw [e1.1, e1.2]
   exact KO (Prod.ext hA (Classical.not_not.1 h4))
 · cases hd
theorem lV {rad : Int} {d : Dw} {lx ly : En} {x y : Tk} {r : Dw × Tk} (h : vU d) (hd : kU rad d lx ly x y = some r) : vU r.1 := by
 unfold kU at hd
 split at hd
 · cases hd
 split at hd
 · split at hd
   · exact lU h hd
   · cases hd
 split at hd
 · cases hd
 · rw [Option.map_eq_some_iff] at hd
   obtain ⟨d', h1, rfl⟩ := hd
   exact lT h h1
theorem mh {rad : Int} {d : Dw} {lx : En} {x : Tk} (h : vU d) (he : (kY rad d lx x).1 = 0) : vU (kY rad d lx x).2 := by
 unfold kY at he ⊢
 split
 · rename_i h3
   rw [if_pos h3] at he
   exact Vc _ _ _ h (NZ he)
 · rename_i h3
   rw [if_neg h3] at he
   split
   · rename_i h4
     rw [if_pos h4] at he
     exact absurd he h4
   · rename_i h4
     exact Vc _ _ _ h (NW _ (Classical.not_not.1 h4))
def cg (t : Tk) : Prop := t.k = 2 → Nr t.cx t.cy t.r t.f t.s t.ax t.ay t.bx t.b_y
theorem bq {l : List En} {rad : Int} : ∀ (r : List Tk) (first done : Bool) (d : Dw) (x : Tk), vU d → (done = true → x.k ≠ 2) → cg x → (∀ y ∈ r, cg y) → (ze l rad first done d x r).2.2 = 0 → vU (ze l rad first done d x r).1
 | [], first, done, d, x, h, hd, hx, hr, he => by
   have hpen := Gk (l := l) (first := first) (done := done) (x := x) h
   unfold ze at he ⊢
   split
   · rename_i h2
     have hdn : done = false := by
      cases done with
      | false => rfl
      | true => exact absurd h2 (hd rfl)
     subst hdn
     have e1 := tP l first d x
     refine xF hpen _ (fun _ => ?_)
     rw [e1.1, e1.2]
     exact hx h2
   · rename_i h2
     split
     · rename_i h3
       rw [if_neg h2, if_pos h3] at he
       split
       · rename_i h4
         rw [if_pos h4] at he
         exact absurd he h4
       · rename_i h4
         exact mh hpen (Classical.not_not.1 h4)
     · exact bg hpen _ _ _
 | y :: r, first, done, d, x, h, hd, hx, hr, he => by
   have hpen := Gk (l := l) (first := first) (done := done) (x := x) h
   have hry := hr y (.head _)
   have hrr := fun z hz => hr z (.tail _ hz)
   unfold ze at he ⊢
   split
   · rename_i h2
     rw [if_pos h2] at he
     have hdn : done = false := by
      cases done with
      | false => rfl
      | true => exact absurd h2 (hd rfl)
     subst hdn
     have e1 := tP l first d x
     refine bq r _ _ _ _ (xF hpen _ (fun _ => ?_)) (fun h => by cases h) hry hrr he
     rw [e1.1, e1.2]
     exact hx h2
   · rename_i h2
     rw [if_neg h2] at he
     split
     · rename_i h3
       rw [if_pos h3] at he
       split
       · rename_i h4
         rw [if_pos h4] at he
         exact absurd he h4
       · rename_i h4
         rw [if_neg h4] at he
         exact bq r _ _ _ _ (mh hpen (Classical.not_not.1 h4)) (fun h => by cases h) hry hrr he
     · rename_i h3
       rw [if_neg h3] at he
       generalize hq : (if y.g = true then none else kU rad (zW l first done d x) (zI l x) (zI l y) x y) = q at he ⊢
       cases q with
       | none => exact bq r _ _ _ _ (bg hpen _ _ _) (fun h => by cases h) hry hrr he
       | some q =>
         obtain ⟨d', y'⟩ := q
         have hq2 : kU rad (zW l first done d x) (zI l x) (zI l y) x y = some (d', y') := by
          split at hq
          · cases hq
          · exact hq
         have hk := nT hq2
         have v1 := lV hpen hq2
         exact bq r _ _ _ _ v1 (fun _ => by rw [hk]; decide) (fun h => by rw [hk] at h; cases h) hrr he
def mi (p : Tk × Int) : Prop := p.2 = 0 → cg p.1
theorem zt {q : Prop} [Decidable q] {a b : Tk × Int} (ha : mi a) (hb : mi b) : mi (if q then a else b) := by split <;> assumption
theorem rM (ax ay bx b_y c d : Int) : cg (fO 1 ax ay bx b_y c d) := fun h => by cases h
theorem zC (e : Int) : mi (Tk.zero, e) := fun _ h => by cases h
theorem xG (ax ay bx b_y c : Int) : cg (qY ax ay bx b_y c) := by
 unfold qY
 split <;> exact rM _ _ _ _ _ _
theorem Zy (ax ay c l : Int) : mi (kw ax ay c l) := by
 unfold kw
 split
 · exact fun _ => rM _ _ _ _ _ _
 · exact zC _
theorem lW (fx fy c : Int) (x : En) : mi (yS fx fy c x) := by
 unfold yS
 exact zt (zC _) (zt (zC _) (zt (zC _) (zt (fun _ => xG _ _ _ _ _) (zt (zC _) (fun _ => rM _ _ _ _ _ _)))))
theorem lY (fx fy : Int) (x : En) : mi (jP fx fy x) := by
 unfold jP
 by_cases h0 : (jh fx fy x.mx x.my x.ex x.ey (decide (x.tn = 2))).2 ≠ 0
 · rw [if_pos h0]; exact zC _
 rw [if_neg h0]
 split
 · rename_i hA
   exact zt (zC _) (zt (zC _) (zt (zC _) (fun _ _ => KO (Prod.ext hA (Classical.not_not.1 h0)))))
 · exact zC _
theorem KQ (fx fy alt : Int) (x : En) (gr : Int) : mi (yp fx fy alt x gr) := by
 unfold yp
 exact zt (zC _) (Zy _ _ _ _)
theorem rN (a b c : Int) : mi (uV a b c) := by
 unfold uV
 exact zt (fun _ h => by cases h) (Zy _ _ _ _)
theorem Mb (fx fy : Int) (x : En) : mi (jX fx fy x) := by
 unfold jX
 exact zt (zC _) (zt (zC _) (zt (zC _) (zt (Zy _ _ _ _) (zt (zC _) (Zy _ _ _ _)))))
theorem Mc (fx fy : Int) (x : En) : mi (vp fx fy x) := by
 unfold vp
 exact zt (zC _) (zt (zC _) (zt (zC _) (zt (zC _) (fun _ => rM _ _ _ _ _ _))))
theorem Md (fx fy : Int) (x y : En) : mi (yF fx fy x y) := by
 unfold yF
 exact zt (zC _) (zt (zC _) (zt (zC _) (zt (zC _) (zt (zC _) (fun _ => rM _ _ _ _ _ _)))))
theorem lZ (fx fy c alt : Int) (x y : En) (gr : Int) : mi (vR fx fy c alt x y gr) := by
 unfold vR
 exact zt (fun _ => xG _ _ _ _ _) (zt (fun _ => xG _ _ _ _ _) (zt (lW _ _ _ _) (zt (lY _ _ _) (zt (KQ _ _ _ _ _) (zt (KQ _ _ _ _ _) (zt (Zy _ _ _ _) (zt (rN _ _ _) (zt (Mb _ _ _) (zt (Mc _ _ _) (zt (Md _ _ _ _) (fun _ h => by cases h)))))))))))
theorem cj (pv : Option En) (fx fy c alt : Int) (x y : En) (spd bank oalt gr : Int) : mi (qP pv fx fy c alt x y spd bank oalt gr) := by
 unfold qP
 refine zt (fun _ h => by cases h) ?_
 unfold qg
 exact zt (zC _) (zt (zC _) (zt (zC _) (zt (zC _) (zt (zC _) (lZ _ _ _ _ _ _ _)))))
theorem xH {spd bank oalt gr : Int} : ∀ (l : List En) (pv : Option En) (i : Nat) (fx fy c alt : Int) (t : Tk), t ∈ (qU spd bank oalt gr pv i fx fy c alt l).1 → cg t
 | [], pv, i, fx, fy, c, alt, t, h => by cases h
 | x :: r, pv, i, fx, fy, c, alt, t, h => by
   rcases hg : x.gap with _ | _
   · by_cases he : (qP pv fx fy c alt x (zH r) spd bank oalt gr).2 = 0
     · obtain ⟨T, hT⟩ : ∃ T, qP pv fx fy c alt x (zH r) spd bank oalt gr = (T, 0) := ⟨_, Prod.ext rfl he⟩
       rw [jc hg hT] at h
       unfold yf at h
       split at h
       · cases h
       · have hs := cj pv fx fy c alt x (zH r) spd bank oalt gr he
         rw [hT] at hs
         rcases List.mem_append.1 h with h | h
         · rw [List.mem_singleton.1 h]
           exact hs
         · exact xH r _ _ _ _ _ _ t h
     · obtain ⟨T, e, hT⟩ : ∃ T e, qP pv fx fy c alt x (zH r) spd bank oalt gr = (T, e) := ⟨_, _, rfl⟩
       rw [hT] at he
       rw [jz hg hT he] at h
       cases h
   · rw [jw hg] at h
     exact xH r _ _ _ _ _ _ t h
theorem Me {p : Prop} [Decidable p] {a b : Int} (h : (if p then a else b) = 0) (ha : a ≠ 0) : ¬ p ∧ b = 0 := by
 split at h
 · exact absurd h ha
 · rename_i h1; exact ⟨h1, h⟩
theorem FB {e b : Int} (h : (if e ≠ 0 then e else b) = 0) : e = 0 ∧ b = 0 := by
 split at h
 · rename_i h1; exact absurd h h1
 · rename_i h1; exact ⟨Classical.not_not.1 h1, h⟩
theorem Vd {x : En} (h : jn x = 0) : (1 ≤ x.ty ∧ x.ty ≤ 17) ∧ ¬ (if zn x.ty 2 then decide (x.tn = 1) || decide (x.tn = 2) else decide (x.tn = 0)) = false ∧ yg x.crs (zn x.ty 4) 0 129599999 = 0 := by
 unfold jn at h
 obtain ⟨a1, h⟩ := Me h (by decide)
 obtain ⟨_, h⟩ := FB h
 obtain ⟨_, h⟩ := FB h
 obtain ⟨a2, h⟩ := Me h (by decide)
 obtain ⟨_, h⟩ := Me h (by decide)
 obtain ⟨a3, _⟩ := FB h
 exact ⟨by omega, a2, a3⟩
theorem Gl {x : En} (h : jn x = 0) : 0 ≤ x.crs ∧ x.crs < 129600000 := by
 have h2 := di (Vd h).2.2
 rcases hu : zn x.ty 4 with _ | _
 · have := h2.2 hu
   omega
 · have := h2.1 hu
   omega
theorem Wc {x : En} (h : jn x = 0) (ht : zn x.ty 2 = true) : x.tn = 1 ∨ x.tn = 2 := by
 have h1 := (Vd h).2.1
 rw [if_pos ht] at h1
 have : (decide (x.tn = 1) || decide (x.tn = 2)) = true := by
  rcases hq : (decide (x.tn = 1) || decide (x.tn = 2)) with _ | _
  · exact absurd hq h1
  · rfl
 simpa using this
theorem mo {x : En} (h : jn x = 0) : 1 ≤ x.ty ∧ x.ty ≤ 17 := (Vd h).1
theorem Wd {t : Int} (h : 14 ≤ t) (h2 : t ≤ 17) : zn t 2 = true := by
 obtain rfl | rfl | rfl | rfl : t = 14 ∨ t = 15 ∨ t = 16 ∨ t = 17 := by omega
 all_goals decide
theorem cn {x : En} (h : vW x = 0) : jn x = 0 := by
 unfold vW at h
 split at h
 · rename_i h1; exact absurd h h1
 · rename_i h1; exact Classical.not_not.1 h1
def Zq (a : Int) : Prop := 0 ≤ a ∧ a < 129600000
theorem tV : Zq 0 := ⟨by decide, by decide⟩
def Gm (t : Tk) : Prop := Zq t.ci ∧ Zq t.co
def mr (p : Tk × Int) : Prop := p.2 = 0 → Gm p.1
theorem zu {q : Prop} [Decidable q] {a b : Tk × Int} (ha : mr a) (hb : mr b) : mr (if q then a else b) := by split <;> assumption
theorem cq {ax ay bx b_y c d : Int} (h : Zq c) : Gm (fO 1 ax ay bx b_y c d) := ⟨h, h⟩
theorem zD (e : Int) : mr (Tk.zero, e) := fun _ => ⟨tV, tV⟩
theorem Jv (ax ay bx b_y : Int) : Zq (qF ax ay bx b_y).1 := by
 unfold qF
 split
 · exact tV
 split
 · exact tV
 · exact uk _ _
theorem xI {ax ay bx b_y c : Int} (h : Zq c) : Gm (qY ax ay bx b_y c) := by
 unfold qY
 split
 · exact cq h
 · exact cq (Jv _ _ _ _)
theorem Ql {ax ay c l : Int} (h : Zq c) : mr (kw ax ay c l) := by
 unfold kw
 split
 · exact fun _ => cq h
 · exact zD _
theorem We {fx fy c : Int} {x : En} (h : Zq c) (hx : Zq x.crs) : mr (yS fx fy c x) := by
 unfold yS
 exact zu (zD _) (zu (zD _) (zu (zD _) (zu (fun _ => xI h) (zu (zD _) (fun _ => cq hx)))))
theorem rO (cx cy r f s al : Int) : Zq (qI cx cy r f s al).2.2.1 := by
 unfold qI
 split
 · exact tV
 split
 · exact tV
 split
 · exact zM _
 · exact tV
theorem Wf (fx fy : Int) (x : En) : mr (jP fx fy x) := by
 unfold jP
 refine zu (zD _) ?_
 split
 · exact zu (zD _) (zu (zD _) (zu (zD _) (fun _ => ⟨rO _ _ _ _ _ _, rO _ _ _ _ _ _⟩)))
 · exact zD _
theorem KR {fx fy alt gr : Int} {x : En} (hx : Zq x.crs) : mr (yp fx fy alt x gr) := by
 unfold yp
 exact zu (zD _) (Ql hx)
theorem rP {a b c : Int} (h : Zq c) : mr (uV a b c) := by
 unfold uV
 by_cases h0 : (kw a b c 300000).2 = 0
 · rw [if_pos h0]
   have := Ql (ax := a) (ay := b) (l := 300000) h h0
   exact fun _ => this
 · rw [if_neg h0]
   exact Ql h
theorem Mf {fx fy : Int} {x : En} (hx : Zq x.crs) : mr (jX fx fy x) := by
 unfold jX
 exact zu (zD _) (zu (zD _) (zu (zD _) (zu (Ql hx) (zu (zD _) (Ql hx)))))
theorem Mg {fx fy : Int} {x : En} (hx : Zq x.crs) : mr (vp fx fy x) := by
 unfold vp
 exact zu (zD _) (zu (zD _) (zu (zD _) (zu (zD _) (fun _ => cq hx))))
theorem Mh {fx fy : Int} {x y : En} (hx : Zq x.crs) : mr (yF fx fy x y) := by
 unfold yF
 exact zu (zD _) (zu (zD _) (zu (zD _) (zu (zD _) (zu (zD _) (fun _ => cq hx)))))
theorem Wg {c : Int} {x : En} (h : Zq c) (hx : Zq x.crs) : Gm (yO c x) := by
 refine ⟨h, ?_⟩
 show Zq (if x.ty = 17 then norm (x.crs + 64800000) else x.crs)
 split
 · exact zM _
 · exact hx
theorem Wh {fx fy c alt gr : Int} {x y : En} (h : Zq c) (hx : Zq x.crs) : mr (vR fx fy c alt x y gr) := by
 unfold vR
 exact zu (fun _ => xI h) (zu (fun _ => xI h) (zu (We h hx) (zu (Wf _ _ _) (zu (KR hx) (zu (KR hx) (zu (Ql hx) (zu (rP hx) (zu (Mf hx) (zu (Mg hx) (zu (Mh hx) (fun _ => Wg h hx)))))))))))
theorem cr {pv : Option En} {fx fy c alt spd bank oalt gr : Int} {x y : En} (h : Zq c) (hx : Zq x.crs) : mr (qP pv fx fy c alt x y spd bank oalt gr) := by
 unfold qP
 refine zu (fun _ => ?_) ?_
 · have : Zq (if x.ty = 3 then x.crs else c) := by split <;> assumption
   exact ⟨this, this⟩
 · unfold qg
   exact zu (zD _) (zu (zD _) (zu (zD _) (zu (zD _) (zu (zD _) (Wh h hx)))))
theorem xJ {spd bank oalt gr : Int} : ∀ (l : List En) (pv : Option En) (i : Nat) (fx fy c alt : Int), Zq c → (∀ x ∈ l, x.gap = false → Zq x.crs) → ∀ t ∈ (qU spd bank oalt gr pv i fx fy c alt l).1, Gm t
 | [], pv, i, fx, fy, c, alt, hc, hl, t, h => by cases h
 | x :: r, pv, i, fx, fy, c, alt, hc, hl, t, h => by
   have hr : ∀ y ∈ r, y.gap = false → Zq y.crs := fun y hy => hl y (.tail _ hy)
   rcases hg : x.gap with _ | _
   · by_cases he : (qP pv fx fy c alt x (zH r) spd bank oalt gr).2 = 0
     · obtain ⟨T, hT⟩ : ∃ T, qP pv fx fy c alt x (zH r) spd bank oalt gr = (T, 0) := ⟨_, Prod.ext rfl he⟩
       have hs := cr (pv := pv) (fx := fx) (fy := fy) (alt := alt) (y := zH r) (spd := spd) (bank := bank) (oalt := oalt) (gr := gr) hc (hl x (.head _) hg) he
       rw [hT] at hs
       rw [jc hg hT] at h
       unfold yf at h
       split at h
       · cases h
       · rcases List.mem_append.1 h with h | h
         · rw [List.mem_singleton.1 h]
           exact hs
         · exact xJ r _ _ _ _ _ _ hs.2 hr t h
     · obtain ⟨T, e, hT⟩ : ∃ T e, qP pv fx fy c alt x (zH r) spd bank oalt gr = (T, e) := ⟨_, _, rfl⟩
       rw [hT] at he
       rw [jz hg hT he] at h
       cases h
   · rw [jw hg] at h
     exact xJ r _ _ _ _ _ _ hc hr t h
theorem Wi {rad : Int} {d : Dw} {x y : Tk} {r : Dw × Tk} (hy : Gm y) (hd : Zp rad d x y = some r) : Gm r.2 := by
 unfold Zp at hd
 dsimp only at hd
 split at hd
 · cases hd
 split at hd
 · cases hd
 split at hd
 · cases hd
 split at hd
 · cases hd
 split at hd
 · injection hd with hd
   subst hd
   dsimp only
   split
   · exact ⟨hy.1, hy.1⟩
   · exact ⟨Jv _ _ _ _, Jv _ _ _ _⟩
 · cases hd
theorem Wj {rad : Int} {d : Dw} {x y : Tk} {r : Dw × Tk} (hd : Zp rad d x y = some r) : r.2.len ≤ 8000000 := by
 unfold Zp at hd
 dsimp only at hd
 split at hd
 · cases hd
 split at hd
 · cases hd
 split at hd
 · cases hd
 split at hd
 · cases hd
 split at hd
 · injection hd with hd
   subst hd
   dsimp only
   split
   · show (0 : Int) ≤ 8000000
     decide
   · exact Int.le_trans (kh _ _ _ _).2 (by decide)
 · cases hd
structure FC (t : Tk) : Prop where
 crs : Gm t
 len : t.k = 1 → t.len ≤ 8000000
theorem Ce {rad : Int} {d : Dw} {lx ly : En} {x y : Tk} {r : Dw × Tk} (hy : FC y) (hd : kU rad d lx ly x y = some r) : FC r.2 := by
 unfold kU at hd
 split at hd
 · cases hd
 split at hd
 · split at hd
   · exact ⟨Wi hy.crs hd, fun _ => Wj hd⟩
   · cases hd
 split at hd
 · cases hd
 · obtain ⟨d', h1, h2⟩ := Option.map_eq_some_iff.1 hd
   subst h2
   exact hy
def xy (P : Int → Prop) (d : Dw) : Prop := ∀ a ∈ d.els, P a.n
theorem UX {P : Int → Prop} {d : Dw} {x : El} (h : xy P d) (hx : P x.n) : xy P (ur d x) := fun y hy => by
 rcases List.mem_append.1 hy with hy | hy
 · exact h y hy
 · rw [List.mem_singleton.1 hy]
   exact hx
theorem tw {P : Int → Prop} {d : Dw} (h : xy P d) (qx qy : Int) {n : Int} (hn : P n) : xy P (zJ d qx qy n) := by
 unfold zJ
 split
 · exact h
 · exact UX h hn
theorem Zz {P : Int → Prop} {d : Dw} (h : xy P d) (cx cy r f s qx qy : Int) {n : Int} (hn : P n) : xy P (yu d cx cy r f s qx qy n) := by
 unfold yu
 split
 · exact UX h hn
 · exact tw h _ _ hn
theorem UY {P : Int → Prop} {n : Int} (hn : P n) : ∀ (l : List El) (d : Dw), xy P d → xy P (jT n d l)
 | [], d, h => h
 | x :: r, d, h => by
   unfold jT
   refine UY hn r _ ?_
   split
   · exact UX h hn
   · exact h
theorem mA {P : Int → Prop} {l : List En} {first done : Bool} {d : Dw} {x : Tk} (h : xy P d) (hx : P x.n) : xy P (zW l first done d x) := by
 have key : xy P (if x.g = true ∨ (first = true ∧ (zI l x).ty = 1) then { d with px := x.ax, py := x.ay, gp := x.g && !d.els.isEmpty } else d) := by
  split
  · exact h
  · exact h
 unfold zW
 dsimp only
 split
 · exact key
 · exact tw key _ _ hx
theorem rQ {P : Int → Prop} {rad : Int} {d : Dw} {lx ly : En} {x y : Tk} {r : Dw × Tk} (h : xy P d) (hx : P x.n) (hy : P y.n) (hd : kU rad d lx ly x y = some r) : xy P r.1 ∧ r.2.n = y.n := by
 unfold kU at hd
 split at hd
 · cases hd
 split at hd
 · split at hd
   · unfold Zp at hd
     dsimp only at hd
     split at hd
     · cases hd
     split at hd
     · cases hd
     split at hd
     · cases hd
     split at hd
     · cases hd
     split at hd
     · injection hd with hd
       subst hd
       refine ⟨Zz (tw h _ _ hx) _ _ _ _ _ _ _ hy, ?_⟩
       dsimp only
       split <;> rfl
     · cases hd
   · cases hd
 split at hd
 · cases hd
 · obtain ⟨d', h1, h2⟩ := Option.map_eq_some_iff.1 hd
   subst h2
   refine ⟨?_, rfl⟩
   unfold Kw at h1
   split at h1
   · cases h1
   split at h1
   · cases h1
   unfold vk at h1
   split at h1
   · split at h1
     · cases h1
     · injection h1 with h1
       subst h1
       exact Zz (Zz (tw h _ _ hx) _ _ _ _ _ _ _ hx) _ _ _ _ _ _ _ hy
   · cases h1
theorem rR {P : Int → Prop} {rad : Int} {d : Dw} {lx : En} {x : Tk} (h : xy P d) (hx : P x.n) : xy P (kY rad d lx x).2 := by
 unfold kY
 split
 · exact UY hx _ _ h
 · split
   · exact h
   · exact UY hx _ _ h
theorem tz {P : Int → Prop} {l : List En} {rad : Int} : ∀ (r : List Tk) (first done : Bool) (d : Dw) (x : Tk), xy P d → P x.n → (∀ y ∈ r, P y.n) → xy P (ze l rad first done d x r).1
 | [], first, done, d, x, h, hx, hr => by
   have hpen := mA (l := l) (first := first) (done := done) h hx
   unfold ze
   split
   · exact Zz hpen _ _ _ _ _ _ _ hx
   · split
     · split
       · exact h
       · exact rR hpen hx
     · exact tw hpen _ _ hx
 | y :: r, first, done, d, x, h, hx, hr => by
   have hpen := mA (l := l) (first := first) (done := done) h hx
   have hry := hr y (.head _)
   have hrr := fun z hz => hr z (.tail _ hz)
   unfold ze
   split
   · exact tz r _ _ _ _ (Zz hpen _ _ _ _ _ _ _ hx) hry hrr
   · split
     · split
       · exact h
       · exact tz r _ _ _ _ (rR hpen hx) hry hrr
     · generalize hq : (if y.g = true then none else kU rad (zW l first done d x) (zI l x) (zI l y) x y) = q
       cases q with
       | none => exact tz r _ _ _ _ (tw hpen _ _ hx) hry hrr
       | some q =>
         obtain ⟨d', y'⟩ := q
         have hq2 : kU rad (zW l first done d x) (zI l x) (zI l y) x y = some (d', y') := by
          split at hq
          · cases hq
          · exact hq
         obtain ⟨v1, v2⟩ := rQ hpen hx hry hq2
         dsimp only at v1 v2 ⊢
         exact tz r _ _ _ _ v1 (by rw [v2]; exact hry) hrr
theorem Jw {spd bank oalt gr : Int} : ∀ (l : List En) (pv : Option En) (i : Nat) (fx fy c alt : Int) (t : Tk), t ∈ (qU spd bank oalt gr pv i fx fy c alt l).1 → ∃ (j : Nat) (x : En), t.n = ((i + j : Nat) : Int) ∧ l[j]? = some x ∧ x.gap = false
 | [], pv, i, fx, fy, c, alt, t, h => by cases h
 | x :: r, pv, i, fx, fy, c, alt, t, h => by
   have up : (∃ (j : Nat) (z : En), t.n = ((i + 1 + j : Nat) : Int) ∧ r[j]? = some z ∧ z.gap = false) → ∃ (j : Nat) (z : En), t.n = ((i + j : Nat) : Int) ∧ (x :: r)[j]? = some z ∧ z.gap = false := by
    rintro ⟨j, z, h1, h2, h3⟩
    exact ⟨j + 1, z, by rw [h1]; congr 1; omega, by simpa using h2, h3⟩
   rcases hg : x.gap with _ | _
   · by_cases he : (qP pv fx fy c alt x (zH r) spd bank oalt gr).2 = 0
     · obtain ⟨T, hT⟩ : ∃ T, qP pv fx fy c alt x (zH r) spd bank oalt gr = (T, 0) := ⟨_, Prod.ext rfl he⟩
       rw [jc hg hT] at h
       unfold yf at h
       split at h
       · cases h
       · rcases List.mem_append.1 h with h | h
         · rw [List.mem_singleton.1 h]
           exact ⟨0, x, rfl, rfl, hg⟩
         · exact up (Jw r _ _ _ _ _ _ t h)
     · obtain ⟨T, e, hT⟩ : ∃ T e, qP pv fx fy c alt x (zH r) spd bank oalt gr = (T, e) := ⟨_, _, rfl⟩
       rw [hT] at he
       rw [jz hg hT he] at h
       cases h
   · rw [jw hg] at h
     exact up (Jw r _ _ _ _ _ _ t h)
def rS (l : List En) (act n : Int) : Prop := ∃ (j : Nat) (x : En), n = (j : Int) ∧ qN act ≤ j ∧ l[j]? = some x ∧ x.gap = false
structure mC (l : List En) (act : Int) (d : Dw) : Prop where
 inv : uQ d
 val : bT d
 ent : ∃ k, tk d k
 near : vU d
 num : xy (rS l act) d
 len : (d.els.length : Int) ≤ 500
theorem ku {pa pb : ByteArray} {l : List En} {act fx fy c spd bank oalt gr : Int} (h : (qO pa pb l act fx fy c spd bank oalt gr).2.2 = 0) :
 jN pa pb l act = 0 ∧ qf fx fy = true ∧ qO pa pb l act fx fy c spd bank oalt gr = qU spd bank oalt gr none (qN act) fx fy c oalt (l.drop (qN act)) := by
 unfold qO at h ⊢
 by_cases h1 : jN pa pb l act ≠ 0
 · rw [if_pos h1] at h; exact absurd h h1
 rw [if_neg h1] at h ⊢
 by_cases h2 : vA spd bank oalt gr ≠ 0
 · rw [if_pos h2] at h; exact absurd h h2
 rw [if_neg h2] at h ⊢
 by_cases h3 : qf fx fy = false
 · rw [if_pos h3] at h; cases h
 rw [if_neg h3] at h ⊢
 by_cases h4 : c < 0 ∨ c ≥ 129600000
 · rw [if_pos h4] at h; cases h
 rw [if_neg h4]
 exact ⟨Classical.not_not.1 h1, by rcases hv : qf fx fy with _ | _ <;> simp_all, rfl⟩
theorem bY {pa pb : ByteArray} {l : List En} {act : Int} (h : jN pa pb l act = 0) : yN none 0 l = 0 ∧ l.length ≤ 60 := by
 unfold jN at h
 split at h
 · cases h
 split at h
 · cases h
 split at h
 · rename_i h3; exact absurd h h3
 · rename_i h2 h3; exact ⟨Classical.not_not.1 h3, by omega⟩
theorem rT {pa pb : ByteArray} {l : List En} {act : Int} (h : jN pa pb l act = 0) : ∀ x ∈ l, x.gap = false → qf x.ex x.ey = true := fun x hx hg => (lQ (QX l none 0 (bY h).1 x hx hg)).1
theorem xK {pa pb : ByteArray} {l : List En} {act fx fy c spd bank oalt gr : Int} {R : Int × Int} (h : (ji l fx fy R (qO pa pb l act fx fy c spd bank oalt gr)).2.2 = 0) :
 ∃ d, (ji l fx fy R (qO pa pb l act fx fy c spd bank oalt gr)).1 = d.els ∧ mC l act d := by
 have hT : (qO pa pb l act fx fy c spd bank oalt gr).2.2 = 0 := by
  unfold ji at h
  by_cases h1 : (qO pa pb l act fx fy c spd bank oalt gr).2.2 ≠ 0
  · rw [if_pos h1] at h; exact absurd h h1
  · exact Classical.not_not.1 h1
 obtain ⟨hp, hv, hG⟩ := ku hT
 rw [hG] at h hT ⊢
 have hpts := rT hp
 have hlt : ∀ x ∈ l.drop (qN act), x.gap = false → qf x.ex x.ey = true := fun x hx => hpts x (List.mem_of_mem_drop hx)
 have V := Jt (spd := spd) (bank := bank) (oalt := oalt) (gr := gr) (l.drop (qN act)) none (qN act) fx fy c oalt hlt
 have C := xH (spd := spd) (bank := bank) (oalt := oalt) (gr := gr) (l.drop (qN act)) none (qN act) fx fy c oalt
 have N := Jw (spd := spd) (bank := bank) (oalt := oalt) (gr := gr) (l.drop (qN act)) none (qN act) fx fy c oalt
 have U := tS (spd := spd) (bank := bank) (oalt := oalt) (gr := gr) (l.drop (qN act)) none (qN act) fx fy c oalt 0 (by omega)
 have N' : ∀ t ∈ (qU spd bank oalt gr none (qN act) fx fy c oalt (l.drop (qN act))).1, rS l act t.n := fun t ht => by
  obtain ⟨j, x, e1, e2, e3⟩ := N t ht
  exact ⟨qN act + j, x, e1, by omega, by rw [List.getElem?_drop] at e2; exact e2, e3⟩
 clear N
 unfold ji at h ⊢
 rw [if_neg (by rw [hT]; simp)] at h ⊢
 by_cases hR : R.2 ≠ 0
 · rw [if_pos hR] at h; exact absurd h hR
 rw [if_neg hR] at h ⊢
 generalize (qU spd bank oalt gr none (qN act) fx fy c oalt (l.drop (qN act))).1 = T at *
 cases T with
 | nil => exact ⟨⟨[], fx, fy, false⟩, rfl, KI _ _, ⟨hv, fun x hx => by cases hx⟩, ⟨0, fun i a b h => by simp at h, fun a ha => by cases ha⟩, ⟨fun x hx => by cases hx⟩, (fun x hx => by cases hx), by simp⟩
 | cons x r =>
   dsimp only at h ⊢
   by_cases h1 : (ze l R.1 true false ⟨[], fx, fy, false⟩ x r).2.2 ≠ 0
   · rw [if_pos h1] at h; exact absurd h h1
   rw [if_neg h1] at h ⊢
   by_cases h2 : ((ze l R.1 true false ⟨[], fx, fy, false⟩ x r).1.els.length : Int) > 500
   · rw [if_pos h2] at h; cases h
   rw [if_neg h2]
   have he := Classical.not_not.1 h1
   exact ⟨_, rfl, gY r true false _ x (KI _ _) (fun _ => rfl) (fun e => by cases e) (nU l R.1 x) (fun y _ => nU l R.1 y) he,
    tj r true false _ x ⟨hv, fun x hx => by cases hx⟩ (V x (.head _)) (fun y hy => V y (.tail _ hy)) he,
    tv r true false _ x 0 ⟨fun i a b h => by simp at h, fun a ha => by cases ha⟩ U.1 U.2 he,
    bq r true false _ x ⟨fun x hx => by cases hx⟩ (fun e => by cases e) (C x (.head _)) (fun y hy => C y (.tail _ hy)) he,
    tz r true false _ x (fun x hx => by cases hx) (N' x (.head _)) (fun y hy => N' y (.tail _ hy)), by omega⟩
def yU (l : List En) (rad : Int) (first done : Bool) (d : Dw) : List Tk → Dw × Int × Int
 | [] => (d, 0, 0)
 | x :: r => ze l rad first done d x r
theorem ZA {l : List En} {rad : Int} {first done : Bool} {d : Dw} {x : Tk} {r : List Tk} (h : x.k = 2) : yU l rad first done d (x :: r) = yU l rad false false (yu (zW l first done d x) x.cx x.cy x.r x.f x.s x.bx x.b_y x.n) r := by
 cases r with
 | nil => show ze l rad first done d x [] = _; unfold ze; rw [if_pos h]; rfl
 | cons y r => show ze l rad first done d x (y :: r) = _; rw [ze]; rw [if_pos h]; rfl
theorem xN {l : List En} {rad : Int} {first done : Bool} {d : Dw} {x : Tk} {r : List Tk} (h : x.k = 3) (he : (kY rad (zW l first done d x) (zI l x) x).1 ≠ 0) : yU l rad first done d (x :: r) = (d, x.n, (kY rad (zW l first done d x) (zI l x) x).1) := by
 have h2 : x.k ≠ 2 := by omega
 cases r with
 | nil => show ze l rad first done d x [] = _; unfold ze; rw [if_neg h2, if_pos h, if_pos he]
 | cons y r => show ze l rad first done d x (y :: r) = _; rw [ze]; rw [if_neg h2, if_pos h, if_pos he]
theorem xO {l : List En} {rad : Int} {first done : Bool} {d : Dw} {x : Tk} {r : List Tk} (h : x.k = 3) (he : (kY rad (zW l first done d x) (zI l x) x).1 = 0) : yU l rad first done d (x :: r) = yU l rad false false (kY rad (zW l first done d x) (zI l x) x).2 r := by
 have h2 : x.k ≠ 2 := by omega
 cases r with
 | nil => show ze l rad first done d x [] = _; unfold ze; rw [if_neg h2, if_pos h, if_neg (by rw [he]; simp)]; rfl
 | cons y r => show ze l rad first done d x (y :: r) = _; rw [ze]; rw [if_neg h2, if_pos h, if_neg (by rw [he]; simp)]; rfl
theorem Qm {l : List En} {rad : Int} {first done : Bool} {d : Dw} {x : Tk} (h2 : x.k ≠ 2) (h3 : x.k ≠ 3) : yU l rad first done d [x] = yU l rad false false (zJ (zW l first done d x) x.bx x.b_y x.n) [] := by
 show ze l rad first done d x [] = _
 unfold ze
 rw [if_neg h2, if_neg h3]
 rfl
theorem bi {l : List En} {rad : Int} {first done : Bool} {d : Dw} {x y : Tk} {r : List Tk} (h2 : x.k ≠ 2) (h3 : x.k ≠ 3) (hn : y.g = true ∨ kU rad (zW l first done d x) (zI l x) (zI l y) x y = none) : yU l rad first done d (x :: y :: r) = yU l rad false false (zJ (zW l first done d x) x.bx x.b_y x.n) (y :: r) := by
 show ze l rad first done d x (y :: r) = _
 rw [ze]
 rw [if_neg h2, if_neg h3]
 have : (if y.g = true then none else kU rad (zW l first done d x) (zI l x) (zI l y) x y) = none := by
  rcases hn with h | h
  · rw [if_pos h]
  · split
    · rfl
    · exact h
 rw [this]
 rfl
theorem ZB {l : List En} {rad : Int} {first done : Bool} {d d' : Dw} {x y y' : Tk} {r : List Tk} (h2 : x.k ≠ 2) (h3 : x.k ≠ 3) (hg : y.g = false) (hn : kU rad (zW l first done d x) (zI l x) (zI l y) x y = some (d', y')) : yU l rad first done d (x :: y :: r) = yU l rad false true d' (y' :: r) := by
 show ze l rad first done d x (y :: r) = _
 rw [ze]
 rw [if_neg h2, if_neg h3, if_neg (by rw [hg]; simp), hn]
 rfl
def vC (l : List En) (first : Bool) (d : Dw) (x : Tk) : Dw := if x.g = true ∨ (first = true ∧ (zI l x).ty = 1) then { d with px := x.ax, py := x.ay, gp := x.g && !d.els.isEmpty } else d
theorem kD (l : List En) (first done : Bool) (d : Dw) (x : Tk) : zW l first done d x = if done = true then vC l first d x else zJ (vC l first d x) x.ax x.ay x.n := rfl
theorem Wk {v b : Int} (h : (bC v b).2 = 0) : 1 ≤ (bC v b).1 ∧ (bC v b).1 ≤ 8000000 := by
 unfold bC at h ⊢
 split at h
 · rename_i h1
   rw [if_pos h1]
   split at h
   · rename_i h2
     rw [if_pos h2]
     dsimp only
     refine ⟨?_, h2.2⟩
     have hz := h2.1
     generalize hS : qV (b * 3600) = s at *
     have hC := bk (h := b * 3600) (by omega) (by omega)
     have hs0 : 0 ≤ s := by rw [← hS]; exact (Vx (by omega) (by omega)).1
     have hvv : 1 ≤ v * v := Int.mul_le_mul h1.1 h1.1 (by decide) (by omega)
     have hn : 1 ≤ v * v * 87431 * qX (b * 3600) := Int.mul_le_mul (show (1 : Int) ≤ v * v * 87431 by omega) (show (1 : Int) ≤ qX (b * 3600) by omega) (by decide) (by omega)
     unfold qM at hz ⊢
     generalize v * v * 87431 * qX (b * 3600) = N at *
     by_cases hc : 1000000 * s = 0
     · rw [if_pos hc] at hz; cases hz
     · rw [if_neg hc] at hz ⊢
       split at hz
       · rename_i h3
         rw [if_pos h3]
         dsimp only
         have hd : 0 < 1000000 * s := by omega
         have hsp := (JA N (1000000 * s) hd).2
         refine Classical.byContradiction fun hn2 => ?_
         have := Int.mul_le_mul_of_nonneg_right (show jG 1 N (1000000 * s) ≤ 0 by omega) (show 0 ≤ 1000000 * s by omega)
         omega
       · cases hz
   · cases h
 · cases h
def DP (x : En) (p : Tk × Int) : Prop := p.2 = 0 → p.1.k = 3 → 14 ≤ x.ty
theorem yw {x : En} {q : Prop} [Decidable q] {a b : Tk × Int} (ha : DP x a) (hb : ¬ q → DP x b) : DP x (if q then a else b) := by
 split
 · exact ha
 · rename_i h; exact hb h
theorem vD {x : En} {p : Tk × Int} (h : p.2 = 0 → p.1.k ≠ 3) : DP x p := fun h0 h3 => absurd h3 (h h0)
theorem wl (a b d e k : Int) : (qY a b d e k).k = 1 := by unfold qY; split <;> rfl
theorem Gn (a b d e : Int) : (kw a b d e).1.k ≠ 3 := by
 by_cases h : (zi a b d e).2.2 = 0
 · unfold kw; rw [if_pos h]; show (1 : Int) ≠ 3; decide
 · unfold kw; rw [if_neg h]; show (0 : Int) ≠ 3; decide
theorem yV {q : Prop} [Decidable q] {a b : Tk × Int} (ha : a.1.k ≠ 3) (hb : b.1.k ≠ 3) : (if q then a else b).1.k ≠ 3 := by split <;> assumption
theorem jA (e : Int) : ((Tk.zero, e) : Tk × Int).1.k ≠ 3 := by show (0 : Int) ≠ 3; decide
theorem Mi (a b d e k g : Int) : ((qY a b d e k, g) : Tk × Int).1.k ≠ 3 := by show (qY a b d e k).k ≠ 3; rw [wl]; decide
theorem FD (a b d e k g h : Int) : ((fO 1 a b d e k g, h) : Tk × Int).1.k ≠ 3 := by show (1 : Int) ≠ 3; decide
theorem Cf (fx fy c : Int) (x : En) : (yS fx fy c x).1.k ≠ 3 := by
 unfold yS
 exact yV (jA _) (yV (jA _) (yV (jA _) (yV (Mi _ _ _ _ _ _) (yV (jA _) (FD _ _ _ _ _ _ _)))))
theorem Cg (fx fy : Int) (x : En) : (jP fx fy x).1.k ≠ 3 := by
 unfold jP
 refine yV (jA _) ?_
 split
 · exact yV (jA _) (yV (jA _) (yV (jA _) (by show (2 : Int) ≠ 3; decide)))
 · exact jA _
theorem Mj (a b c : Int) : (uV a b c).1.k ≠ 3 := by
 unfold uV
 exact yV (by show (4 : Int) ≠ 3; decide) (Gn _ _ _ _)
theorem FE (fx fy : Int) (x : En) : (jX fx fy x).1.k ≠ 3 := by
 unfold jX
 exact yV (jA _) (yV (jA _) (yV (jA _) (yV (Gn _ _ _ _) (yV (jA _) (Gn _ _ _ _)))))
theorem FF (fx fy : Int) (x : En) : (vp fx fy x).1.k ≠ 3 := by
 unfold vp
 exact yV (jA _) (yV (jA _) (yV (jA _) (yV (jA _) (FD _ _ _ _ _ _ _))))
theorem FG (fx fy : Int) (x y : En) : (yF fx fy x y).1.k ≠ 3 := by
 unfold yF
 exact yV (jA _) (yV (jA _) (yV (jA _) (yV (jA _) (yV (jA _) (FD _ _ _ _ _ _ _)))))
theorem mD (fx fy alt gr : Int) (x : En) : (yp fx fy alt x gr).1.k ≠ 3 := by
 unfold yp
 exact yV (jA _) (Gn _ _ _ _)
theorem Wl {fx fy c alt gr : Int} {x y : En} (ht : 1 ≤ x.ty ∧ x.ty ≤ 17) : DP x (vR fx fy c alt x y gr) := by
 unfold vR
 refine yw (vD fun _ => Mi _ _ _ _ _ 0) fun h1 => yw (vD fun _ => Mi _ _ _ _ _ 0) fun h2 => yw (vD fun _ => Cf _ _ _ _) fun h3 => yw (vD fun _ => Cg _ _ _) fun h4 => yw (vD fun _ => mD _ _ _ _ _) fun h5 => yw (vD fun _ => mD _ _ _ _ _) fun h6 => yw (vD fun _ => Gn _ _ _ _) fun h7 => yw (vD fun _ => Mj _ _ _) fun h8 => yw (vD fun _ => FE _ _ _) fun h9 => yw (vD fun _ => FF _ _ _) fun h10 => yw (vD fun _ => FG _ _ _ _) fun h11 => fun _ _ => by omega
theorem cu {pv : Option En} {fx fy c alt spd bank oalt gr : Int} {x y : En} (ht : jn x = 0) : DP x (qP pv fx fy c alt x y spd bank oalt gr) := by
 unfold qP
 refine yw (vD fun _ => by show (1 : Int) ≠ 3; decide) fun _ => ?_
 unfold qg
 exact yw (vD fun _ => jA _) fun _ => yw (vD fun _ => jA _) fun _ => yw (vD fun _ => jA _) fun _ => yw (vD fun _ => jA _) fun _ => yw (vD fun _ => jA _) fun _ => Wl (mo ht)
theorem tW {spd bank oalt gr : Int} : ∀ (l : List En) (pv : Option En) (i : Nat) (fx fy c alt : Int), (∀ x ∈ l, x.gap = false → jn x = 0) → ∀ (t : Tk), t ∈ (qU spd bank oalt gr pv i fx fy c alt l).1 → ∃ (j : Nat) (x : En), t.n = ((i + j : Nat) : Int) ∧ l[j]? = some x ∧ jn x = 0 ∧ (t.k = 3 → 14 ≤ x.ty)
 | [], pv, i, fx, fy, c, alt, hl, t, h => by cases h
 | x :: r, pv, i, fx, fy, c, alt, hl, t, h => by
   have hr : ∀ y ∈ r, y.gap = false → jn y = 0 := fun y hy => hl y (.tail _ hy)
   have up : (∃ (j : Nat) (z : En), t.n = ((i + 1 + j : Nat) : Int) ∧ r[j]? = some z ∧ jn z = 0 ∧ (t.k = 3 → 14 ≤ z.ty)) → ∃ (j : Nat) (z : En), t.n = ((i + j : Nat) : Int) ∧ (x :: r)[j]? = some z ∧ jn z = 0 ∧ (t.k = 3 → 14 ≤ z.ty) := by
    rintro ⟨j, z, h1, h2, h3⟩
    exact ⟨j + 1, z, by rw [h1]; congr 1; omega, by simpa using h2, h3⟩
   rcases hg : x.gap with _ | _
   · by_cases he : (qP pv fx fy c alt x (zH r) spd bank oalt gr).2 = 0
     · obtain ⟨T, hT⟩ : ∃ T, qP pv fx fy c alt x (zH r) spd bank oalt gr = (T, 0) := ⟨_, Prod.ext rfl he⟩
       have hs := cu (pv := pv) (fx := fx) (fy := fy) (c := c) (alt := alt) (y := zH r) (spd := spd) (bank := bank) (oalt := oalt) (gr := gr) (hl x (.head _) hg) he
       rw [hT] at hs
       rw [jc hg hT] at h
       unfold yf at h
       split at h
       · cases h
       · rcases List.mem_append.1 h with h | h
         · rw [List.mem_singleton.1 h]
           exact ⟨0, x, rfl, rfl, hl x (.head _) hg, hs⟩
         · exact up (tW r _ _ _ _ _ _ hr t h)
     · obtain ⟨T, e, hT⟩ : ∃ T e, qP pv fx fy c alt x (zH r) spd bank oalt gr = (T, e) := ⟨_, _, rfl⟩
       rw [hT] at he
       rw [jz hg hT he] at h
       cases h
   · rw [jw hg] at h
     exact up (tW r _ _ _ _ _ _ hr t h)
structure DQ (l : List En) (t : Tk) : Prop where
 b : FC t
 leg : ∃ (j : Nat) (x : En), t.n = (j : Int) ∧ l[j]? = some x ∧ jn x = 0 ∧ (t.k = 3 → 14 ≤ x.ty)
theorem Ch {e : Int} {a b : List Tk × Int × Int} (h : (if e ≠ 0 then a else b).2.2 = 0) (ha : e ≠ 0 → a.2.2 ≠ 0 := by intro h; exact h) : e = 0 ∧ b.2.2 = 0 := by
 split at h
 · rename_i h1; exact absurd h (ha h1)
 · rename_i h1; exact ⟨Classical.not_not.1 h1, h⟩
theorem UZ {pa pb : ByteArray} {l : List En} {act fx fy c spd bank oalt gr : Int} {T : List Tk × Int × Int} (hT : qO pa pb l act fx fy c spd bank oalt gr = T) (h : T.2.2 = 0) : ∀ t ∈ T.1, DQ l t := by
 subst hT
 obtain ⟨hp, hv, hG⟩ := ku h
 have hc : Zq c := by
  unfold qO at h
  obtain ⟨_, h⟩ := Ch h
  obtain ⟨_, h⟩ := Ch h
  split at h
  · cases h
  split at h
  · cases h
  · rename_i h1; exact ⟨by omega, by omega⟩
 have hleg : ∀ x ∈ l.drop (qN act), x.gap = false → jn x = 0 := fun x hx hg => cn (QX l none 0 (bY hp).1 x (List.mem_of_mem_drop hx) hg)
 intro t ht
 rw [hG] at ht
 obtain ⟨j, x, e1, e2, e3, e4⟩ := tW _ _ _ _ _ _ _ hleg t ht
 refine ⟨⟨xJ _ _ _ _ _ _ _ hc (fun x hx hg => Gl (hleg x hx hg)) t ht, fun hk => (QW _ _ _ _ _ _ _ t ht hk).2.2⟩, qN act + j, x, e1, by rw [List.getElem?_drop] at e2; exact e2, e3, e4⟩
theorem uf {l : List El} {k : Nat} {x : El} (hx : l[k]? = some x) : jH (l.take (k + 1)) = jH (l.take k) + x.L := by
 induction l generalizing k with
 | nil => simp at hx
 | cons y l ih =>
   cases k with
   | zero =>
     simp at hx
     subst hx
     simp [jH]
   | succ k =>
     simp at hx
     rw [List.take_succ_cons, List.take_succ_cons, yq, yq, ih hx]
     omega
theorem cv {ts : List Tk} {r : List Tk × Int × Int} {n : Nat} (h : r.1.length ≤ n) : (yf ts r).1.length ≤ ts.length + n := by
 unfold yf
 split
 · exact Nat.zero_le _
 · rw [List.length_append]
   omega
theorem bZ {spd bank oalt gr : Int} : ∀ (l : List En) (pv : Option En) (i : Nat) (fx fy c alt : Int), (qU spd bank oalt gr pv i fx fy c alt l).1.length ≤ l.length
 | [], pv, i, fx, fy, c, alt => Nat.le_refl _
 | x :: r, pv, i, fx, fy, c, alt => by
   rcases hg : x.gap with _ | _
   · by_cases he : (qP pv fx fy c alt x (zH r) spd bank oalt gr).2 = 0
     · obtain ⟨T, hT⟩ : ∃ T, qP pv fx fy c alt x (zH r) spd bank oalt gr = (T, 0) := ⟨_, Prod.ext rfl he⟩
       rw [jc hg hT]
       have := cv (ts := [{ T with n := (i : Int) }]) (bZ r (some x) (i + 1) T.bx T.b_y T.co (kN x alt) (spd := spd) (bank := bank) (oalt := oalt) (gr := gr))
       rw [List.length_cons]
       simp only [List.length_cons, List.length_nil] at this
       omega
     · obtain ⟨T, e, hT⟩ : ∃ T e, qP pv fx fy c alt x (zH r) spd bank oalt gr = (T, e) := ⟨_, _, rfl⟩
       rw [hT] at he
       rw [jz hg hT he]
       exact Nat.zero_le _
   · rw [jw hg, List.length_cons]
     exact Nat.le_trans (bZ r _ _ _ _ _ _) (by omega)
theorem wm {pa pb : ByteArray} {l : List En} {act fx fy c spd bank oalt gr : Int} {T : List Tk × Int × Int} (hT : qO pa pb l act fx fy c spd bank oalt gr = T) : T.1.length ≤ 60 := by
 subst hT
 by_cases h : (qO pa pb l act fx fy c spd bank oalt gr).2.2 = 0
 · obtain ⟨hp, _, hG⟩ := ku h
   rw [hG]
   have := bZ (spd := spd) (bank := bank) (oalt := oalt) (gr := gr) (l.drop (qN act)) none (qN act) fx fy c oalt
   have := (bY hp).2
   rw [List.length_drop] at *
   omega
 · unfold qO at h ⊢
   split
   · exact Nat.zero_le _
   split
   · exact Nat.zero_le _
   split
   · exact Nat.zero_le _
   split
   · exact Nat.zero_le _
   · rename_i h1 h2 h3 h4
     rw [if_neg h1, if_neg h2, if_neg h3, if_neg h4] at h
     have := bZ (spd := spd) (bank := bank) (oalt := oalt) (gr := gr) (l.drop (qN act)) none (qN act) fx fy c oalt
     have := (bY (Classical.not_not.1 h1)).2
     rw [List.length_drop] at *
     omega
def Gp (d : Dw) : Prop := d.els = [] → d.gp = false
theorem Bb (d : Dw) (x : El) : Gp (ur d x) := fun _ => rfl
theorem br {d : Dw} (h : Gp d) (qx qy n : Int) : Gp (zJ d qx qy n) := by
 unfold zJ
 split
 · exact h
 · exact Bb _ _
theorem Yz {d : Dw} (h : Gp d) (cx cy r f s qx qy n : Int) : Gp (yu d cx cy r f s qx qy n) := by
 unfold yu
 split
 · exact Bb _ _
 · exact br h _ _ _
theorem Bc (n : Int) : ∀ (l : List El) (d : Dw), Gp d → Gp (jT n d l)
 | [], d, h => h
 | x :: r, d, h => by
   unfold jT
   refine Bc n r _ ?_
   split
   · exact Bb _ _
   · exact h
theorem Vf {l : List En} {first : Bool} {d : Dw} {x : Tk} (h : Gp d) : Gp (vC l first d x) := by
 unfold vC
 split
 · intro hn
   show (x.g && !d.els.isEmpty) = false
   rw [show d.els = [] from hn]
   simp
 · exact h
theorem Wm {l : List En} {first done : Bool} {d : Dw} {x : Tk} (h : Gp d) : Gp (zW l first done d x) := by
 rw [kD]
 split
 · exact Vf h
 · exact br (Vf h) _ _ _
theorem Mk {rad : Int} {d : Dw} {lx ly : En} {x y : Tk} {r : Dw × Tk} (h : Gp d) (hd : kU rad d lx ly x y = some r) : Gp r.1 := by
 unfold kU at hd
 split at hd
 · cases hd
 split at hd
 · split at hd
   · unfold Zp at hd
     dsimp only at hd
     split at hd
     · cases hd
     split at hd
     · cases hd
     split at hd
     · cases hd
     split at hd
     · cases hd
     split at hd
     · injection hd with hd
       subst hd
       exact Yz (br h _ _ _) _ _ _ _ _ _ _ _
     · cases hd
   · cases hd
 split at hd
 · cases hd
 · obtain ⟨d', h1, h2⟩ := Option.map_eq_some_iff.1 hd
   subst h2
   unfold Kw at h1
   split at h1
   · cases h1
   split at h1
   · cases h1
   unfold vk at h1
   split at h1
   · split at h1
     · cases h1
     · injection h1 with h1
       subst h1
       exact Yz (Yz (br h _ _ _) _ _ _ _ _ _ _ _) _ _ _ _ _ _ _ _
   · cases h1
theorem Ml {rad : Int} {d : Dw} {lx : En} {x : Tk} (h : Gp d) : Gp (kY rad d lx x).2 := by
 unfold kY
 split
 · exact Bc _ _ _ h
 · split
   · exact h
   · exact Bc _ _ _ h
theorem Wn {l : List En} {first : Bool} {d : Dw} {x : Tk} (h : (x.g || (first && decide ((zI l x).ty = 1))) = false) : vC l first d x = d := by
 unfold vC
 rw [if_neg]
 rintro (h1 | ⟨h1, h2⟩)
 · rw [h1] at h; cases h
 · rw [h1, decide_eq_true h2] at h
   simp at h
theorem rU {l : List En} {first : Bool} {d : Dw} {x : Tk} (h : (x.g || (first && decide ((zI l x).ty = 1))) = true) : vC l first d x = ⟨d.els, x.ax, x.ay, x.g && !d.els.isEmpty⟩ := by
 unfold vC
 rw [if_pos]
 rcases hg : x.g with _ | _
 · rw [hg] at h
   simp at h
   exact .inr h
 · exact .inl rfl
theorem Nb {l : List En} {x : Tk} {j : Nat} {e : En} (hn : x.n = (j : Int)) (he : l[j]? = some e) : zI l x = e := by
 unfold zI
 rw [hn, Int.toNat_natCast, he]
 rfl
theorem Mm {l : List En} {rad : Int} {d : Dw} {lx ly : En} {x y : Tk} {r : Dw × Tk} (hy : DQ l y) (hd : kU rad d lx ly x y = some r) : DQ l r.2 := by
 have hk := nT hd
 have hn : r.2.n = y.n := (rQ (P := fun _ => True) (d := d) (fun _ _ => trivial) trivial trivial hd).2
 obtain ⟨j, e, e1, e2, e3, e4⟩ := hy.leg
 exact ⟨Ce hy.b hd, j, e, by rw [hn]; exact e1, e2, e3, fun h => by rw [hk] at h; cases h⟩
def rf (x : El) : Prop := 0 ≤ x.L ∧ x.L ≤ 60000000
def LW (d : Dw) : Prop := ∀ x ∈ d.els, rf x
theorem wo {d : Dw} {x : El} (h : LW d) (hx : rf x) : LW (ur d x) := fun y hy => by
 rcases List.mem_append.1 hy with hy | hy
 · exact h y hy
 · rw [List.mem_singleton.1 hy]
   exact hx
theorem rV (ax ay bx b_y : Int) : 0 ≤ qJ ax ay bx b_y ∧ qJ ax ay bx b_y ≤ 60000000 := by
 have := kh ax ay bx b_y
 omega
theorem Qn {d : Dw} (h : LW d) (qx qy n : Int) : LW (zJ d qx qy n) := by
 unfold zJ
 split
 · exact h
 · exact wo h (rV _ _ _ _)
theorem Bd {d : Dw} (h : LW d) (cx cy r f s qx qy n : Int) : LW (yu d cx cy r f s qx qy n) := by
 unfold yu
 split
 · exact wo h (yJ _ _ _ _ _)
 · exact Qn h _ _ _
theorem wq (n : Int) : ∀ (l : List El) (d : Dw), LW d → (∀ x ∈ l, rf x) → LW (jT n d l)
 | [], d, h, _ => h
 | x :: r, d, h, hl => by
   unfold jT
   refine wq n r _ ?_ (fun y hy => hl y (.tail _ hy))
   split
   · exact wo h (hl x (.head _))
   · exact h
theorem Mn {l : List En} {first done : Bool} {d : Dw} {x : Tk} (h : LW d) : LW (zW l first done d x) := by
 have key : LW (vC l first d x) := by
  unfold vC
  split <;> exact h
 rw [kD]
 split
 · exact key
 · exact Qn key _ _ _
theorem Kx (ax ay bx b_y : Int) : rf (uU ax ay bx b_y) := rV _ _ _ _
theorem rW (ax ay bx b_y cx cy r f s : Int) : rf (Zo ax ay bx b_y cx cy r f s) := yJ _ _ _ _ _
theorem Ci (fx fy inb tn leg rad : Int) : ∀ x ∈ tN fx fy inb tn leg rad, rf x := by
 intro x hx
 unfold tN at hx
 simp only [List.mem_cons, List.not_mem_nil, or_false] at hx
 rcases hx with rfl | rfl | rfl | rfl
 · exact rW ..
 · exact Kx ..
 · exact rW ..
 · exact Kx ..
theorem Cj (w fx fy inb tn leg rad : Int) : ∀ x ∈ tO w fx fy inb tn leg rad, rf x := by
 intro x hx
 unfold tO at hx
 dsimp only at hx
 split at hx
 · simp only [List.mem_cons, List.not_mem_nil, or_false] at hx
   rcases hx with rfl | rfl | rfl
   · exact Kx ..
   · exact rW ..
   · exact Kx ..
 · split at hx
   · simp only [List.mem_cons, List.not_mem_nil, or_false] at hx
     rcases hx with rfl | rfl | rfl
     · exact Kx ..
     · exact rW ..
     · exact Kx ..
   · cases hx
theorem Ck (fx fy crs tn dst rad : Int) : ∀ x ∈ (vB fx fy crs tn dst rad).2, rf x := by
 intro x hx
 unfold vB at hx
 split at hx
 · cases hx
 split at hx
 · cases hx
 dsimp only at hx
 split at hx
 · simp only [List.mem_cons, List.not_mem_nil, or_false] at hx
   rcases hx with rfl | rfl | rfl | rfl | rfl
   · exact Kx ..
   · exact Kx ..
   · exact rW ..
   · exact Kx ..
   · exact Kx ..
 · cases hx
theorem Cl {rad : Int} {d : Dw} {lx : En} {x : Tk} (h : LW d) : LW (kY rad d lx x).2 := by
 unfold kY
 split
 · exact wq _ _ _ h (Ck _ _ _ _ _ _)
 · split
   · exact h
   · exact wq _ _ _ h (fun y hy => (List.mem_append.1 hy).elim (Cj _ _ _ _ _ _ _ y) (Ci _ _ _ _ _ _ y))
theorem Cm {rad : Int} {d : Dw} {lx ly : En} {x y : Tk} {r : Dw × Tk} (h : LW d) (hd : kU rad d lx ly x y = some r) : LW r.1 := by
 unfold kU at hd
 split at hd
 · cases hd
 split at hd
 · split at hd
   · unfold Zp at hd
     dsimp only at hd
     split at hd
     · cases hd
     split at hd
     · cases hd
     split at hd
     · cases hd
     split at hd
     · cases hd
     split at hd
     · injection hd with hd
       subst hd
       exact Bd (Qn h _ _ _) _ _ _ _ _ _ _ _
     · cases hd
   · cases hd
 split at hd
 · cases hd
 · obtain ⟨d', h1, h2⟩ := Option.map_eq_some_iff.1 hd
   subst h2
   unfold Kw at h1
   split at h1
   · cases h1
   split at h1
   · cases h1
   unfold vk at h1
   split at h1
   · split at h1
     · cases h1
     · injection h1 with h1
       subst h1
       exact Bd (Bd (Qn h _ _ _) _ _ _ _ _ _ _ _) _ _ _ _ _ _ _ _
   · cases h1
theorem ZC {l : List En} {rad : Int} : ∀ (r : List Tk) (first done : Bool) (d : Dw), LW d → LW (yU l rad first done d r).1
 | [], first, done, d, h => h
 | x :: r, first, done, d, h => by
   have hp := Mn (l := l) (first := first) (done := done) (x := x) h
   by_cases h2 : x.k = 2
   · rw [ZA h2]
     exact ZC r _ _ _ (Bd hp _ _ _ _ _ _ _ _)
   by_cases h3 : x.k = 3
   · by_cases hb : (kY rad (zW l first done d x) (zI l x) x).1 = 0
     · rw [xO h3 hb]
       exact ZC r _ _ _ (Cl hp)
     · rw [xN h3 hb]
       exact h
   cases r with
   | nil =>
     rw [Qm h2 h3]
     exact Qn hp _ _ _
   | cons y r =>
     by_cases hn : y.g = true ∨ kU rad (zW l first done d x) (zI l x) (zI l y) x y = none
     · rw [bi h2 h3 hn]
       exact ZC (y :: r) _ _ _ (Qn hp _ _ _)
     · have hg : y.g = false := by
        cases hg : y.g with
        | false => rfl
        | true => exact absurd (.inl hg) hn
       obtain ⟨⟨d', y'⟩, hq⟩ : ∃ q, kU rad (zW l first done d x) (zI l x) (zI l y) x y = some q := Option.ne_none_iff_exists'.1 (fun e => hn (.inr e))
       rw [ZB h2 h3 hg hq]
       exact ZC (y' :: r) _ _ _ (Cm hp hq)
termination_by r => r.length
theorem mE : ∀ {l : List El}, (∀ x ∈ l, rf x) → 0 ≤ jH l ∧ jH l ≤ 60000000 * l.length
 | [], h => by simp [jH]
 | x :: l, h => by
   have a := h x List.mem_cons_self
   have b := mE (l := l) (fun y hy => h y (List.mem_cons_of_mem _ hy))
   unfold rf at a
   rw [yq, List.length_cons]
   omega
end Go.Proofs.YteanfgobpjdmnaaGreatDoor
