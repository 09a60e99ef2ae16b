/-
  The elements that a drawer draws are sound by themselves (points, lengths), given valid points. No program.
-/
import Derived.Test.YtbhpklpkcgcmfaaGreatDoorMBuildP
namespace Go.Proofs.YtbhpklpkcgcmfaaGreatDoor
set_option linter.unusedVariables false
end Go.Proofs.YtbhpklpkcgcmfaaGreatDoor
/-
  The points of a plan's tracks are valid. No program.
-/
namespace Go.Proofs.YtbhpklpkcgcmfaaGreatDoor
set_option linter.unusedVariables false
theorem step_alone {pv : Option En} {x : En} {lo : Bool} {la : Int} (h : (stepE pv x lo la).1 = 0) (hg : x.gap = false) : aloneF x = 0 := by
 unfold stepE at h
 rw [if_neg (by rw [hg]; simp)] at h
 split at h
 · rename_i h1; exact absurd h h1
 · rename_i h1; exact Classical.not_not.1 h1
theorem plan_alone : ∀ (l : List En) (pv : Option En) (la : Int), planG pv la l = 0 → ∀ x ∈ l, x.gap = false → aloneF x = 0
 | [], pv, la, _, x, hx, _ => by cases hx
 | y :: r, pv, la, h, x, hx, hg => by
   unfold planG at h
   split at h
   · rename_i h1; exact absurd h h1
   · rename_i h1
     rcases List.mem_cons.1 hx with rfl | hx
     · exact step_alone (Classical.not_not.1 h1) hg
     · exact plan_alone r _ _ h x hx hg
end Go.Proofs.YtbhpklpkcgcmfaaGreatDoor
/-
  The entries of drawn elements rise. No program.
-/
namespace Go.Proofs.YtbhpklpkcgcmfaaGreatDoor
set_option linter.unusedVariables false
end Go.Proofs.YtbhpklpkcgcmfaaGreatDoor
/-
  The arcs of a path that is built begin and end near the points that their elements name: within 16 units. No program.
-/
namespace Go.Proofs.YtbhpklpkcgcmfaaGreatDoor
set_option linter.unusedVariables false
theorem half_of (s : Int) : (0 ≤ s ∧ s.tdiv 2 = s / 2) ∨ (s < 0 ∧ s.tdiv 2 = -((-s) / 2)) := by
 by_cases h : s < 0
 · right
   refine ⟨h, ?_⟩
   have : (- -s).tdiv 2 = -((-s).tdiv 2) := Int.neg_tdiv _ _
   rw [Int.neg_neg] at this
   rw [this, Int.tdiv_eq_ediv_of_nonneg (by omega)]
 · exact .inl ⟨by omega, Int.tdiv_eq_ediv_of_nonneg (by omega)⟩
end Go.Proofs.YtbhpklpkcgcmfaaGreatDoor
/-
  Courses of the tracks of a plan lie in the circle; legs of patterns have a side. No program.
-/
namespace Go.Proofs.YtbhpklpkcgcmfaaGreatDoor
set_option linter.unusedVariables false
theorem ite0 {p : Prop} [Decidable p] {a b : Int} (h : (if p then a else b) = 0) (ha : a ≠ 0) : ¬ p ∧ b = 0 := by
 split at h
 · exact absurd h ha
 · rename_i h1; exact ⟨h1, h⟩
theorem ne0 {e b : Int} (h : (if e ≠ 0 then e else b) = 0) : e = 0 ∧ b = 0 := by
 split at h
 · rename_i h1; exact absurd h h1
 · rename_i h1; exact ⟨Classical.not_not.1 h1, h⟩
theorem legF_all {x : En} (h : legF x = 0) : (1 ≤ x.ty ∧ x.ty ≤ 17) ∧ ¬ (if useB x.ty 2 then decide (x.tn = 1) || decide (x.tn = 2) else decide (x.tn = 0)) = false ∧ numE x.crs (useB x.ty 4) 0 129599999 = 0 := by
 unfold legF at h
 obtain ⟨a1, h⟩ := ite0 h (by decide)
 obtain ⟨_, h⟩ := ne0 h
 obtain ⟨_, h⟩ := ne0 h
 obtain ⟨a2, h⟩ := ite0 h (by decide)
 obtain ⟨_, h⟩ := ite0 h (by decide)
 obtain ⟨a3, _⟩ := ne0 h
 exact ⟨by omega, a2, a3⟩
theorem legF_crs {x : En} (h : legF x = 0) : 0 ≤ x.crs ∧ x.crs < 129600000 := by
 have h2 := numE_ok (legF_all h).2.2
 rcases hu : useB x.ty 4 with _ | _
 · have := h2.2 hu
   omega
 · have := h2.1 hu
   omega
theorem legF_tn {x : En} (h : legF x = 0) (ht : useB x.ty 2 = true) : x.tn = 1 ∨ x.tn = 2 := by
 have h1 := (legF_all h).2.1
 rw [if_pos ht] at h1
 have : (decide (x.tn = 1) || decide (x.tn = 2)) = true := by
  rcases hq : (decide (x.tn = 1) || decide (x.tn = 2)) with _ | _
  · exact absurd hq h1
  · rfl
 simpa using this
theorem legF_ty {x : En} (h : legF x = 0) : 1 ≤ x.ty ∧ x.ty ≤ 17 := (legF_all h).1
theorem use_pat {t : Int} (h : 14 ≤ t) (h2 : t ≤ 17) : useB t 2 = true := by
 obtain rfl | rfl | rfl | rfl : t = 14 ∨ t = 15 ∨ t = 16 ∨ t = 17 := by omega
 all_goals decide
theorem alone_leg {x : En} (h : aloneF x = 0) : legF x = 0 := by
 unfold aloneF at h
 split at h
 · rename_i h1; exact absurd h h1
 · rename_i h1; exact Classical.not_not.1 h1
def inC (a : Int) : Prop := 0 ≤ a ∧ a < 129600000
theorem in_zero : inC 0 := ⟨by decide, by decide⟩
def crsT (t : Tk) : Prop := inC t.ci ∧ inC t.co
def okR (p : Tk × Int) : Prop := p.2 = 0 → crsT p.1
theorem okR_ite {q : Prop} [Decidable q] {a b : Tk × Int} (ha : okR a) (hb : okR b) : okR (if q then a else b) := by split <;> assumption
theorem cR_s {ax ay bx b_y c d : Int} (h : inC c) : crsT (tkS 1 ax ay bx b_y c d) := ⟨h, h⟩
theorem okR_zero (e : Int) : okR (Tk.zero, e) := fun _ => ⟨in_zero, in_zero⟩
theorem course_in (ax ay bx b_y : Int) : inC (courseF ax ay bx b_y).1 := by
 unfold courseF
 split
 · exact in_zero
 split
 · exact in_zero
 · exact atan2F_bd _ _
theorem cR_straight {ax ay bx b_y c : Int} (h : inC c) : crsT (straightF ax ay bx b_y c) := by
 unfold straightF
 split
 · exact cR_s h
 · exact cR_s (course_in _ _ _ _)
theorem okR_ray {ax ay c l : Int} (h : inC c) : okR (rayT ax ay c l) := by
 unfold rayT
 split
 · exact fun _ => cR_s h
 · exact okR_zero _
theorem okR_fix {fx fy c : Int} {x : En} (h : inC c) (hx : inC x.crs) : okR (toFixT fx fy c x) := by
 unfold toFixT
 exact okR_ite (okR_zero _) (okR_ite (okR_zero _) (okR_ite (okR_zero _) (okR_ite (fun _ => cR_straight h) (okR_ite (okR_zero _) (fun _ => cR_s hx)))))
theorem at_crs (cx cy r f s al : Int) : inC (arcAt cx cy r f s al).2.2.1 := by
 unfold arcAt
 split
 · exact in_zero
 split
 · exact in_zero
 split
 · exact norm_bd _
 · exact in_zero
theorem okR_arc (fx fy : Int) (x : En) : okR (aroundT fx fy x) := by
 unfold aroundT
 refine okR_ite (okR_zero _) ?_
 split
 · exact okR_ite (okR_zero _) (okR_ite (okR_zero _) (okR_ite (okR_zero _) (fun _ => ⟨at_crs _ _ _ _ _ _, at_crs _ _ _ _ _ _⟩)))
 · exact okR_zero _
theorem okR_climb {fx fy alt gr : Int} {x : En} (hx : inC x.crs) : okR (climbT fx fy alt x gr) := by
 unfold climbT
 exact okR_ite (okR_zero _) (okR_ray hx)
theorem okR_open {a b c : Int} (h : inC c) : okR (openT a b c) := by
 unfold openT
 by_cases h0 : (rayT a b c 300000).2 = 0
 · rw [if_pos h0]
   have := okR_ray (ax := a) (ay := b) (l := 300000) h h0
   exact fun _ => this
 · rw [if_neg h0]
   exact okR_ray h
theorem okR_cd {fx fy : Int} {x : En} (hx : inC x.crs) : okR (toDistT fx fy x) := by
 unfold toDistT
 exact okR_ite (okR_zero _) (okR_ite (okR_zero _) (okR_ite (okR_zero _) (okR_ite (okR_ray hx) (okR_ite (okR_zero _) (okR_ray hx)))))
theorem okR_cr {fx fy : Int} {x : En} (hx : inC x.crs) : okR (toRadT fx fy x) := by
 unfold toRadT
 exact okR_ite (okR_zero _) (okR_ite (okR_zero _) (okR_ite (okR_zero _) (okR_ite (okR_zero _) (fun _ => cR_s hx))))
theorem okR_ci {fx fy : Int} {x y : En} (hx : inC x.crs) : okR (interT fx fy x y) := by
 unfold interT
 exact okR_ite (okR_zero _) (okR_ite (okR_zero _) (okR_ite (okR_zero _) (okR_ite (okR_zero _) (okR_ite (okR_zero _) (fun _ => cR_s hx)))))
theorem pat_crs {c : Int} {x : En} (h : inC c) (hx : inC x.crs) : crsT (patternT c x) := by
 refine ⟨h, ?_⟩
 show inC (if x.ty = 17 then norm (x.crs + 64800000) else x.crs)
 split
 · exact norm_bd _
 · exact hx
theorem okR_leg {fx fy c alt gr : Int} {x y : En} (h : inC c) (hx : inC x.crs) : okR (legT fx fy c alt x y gr) := by
 unfold legT
 exact okR_ite (fun _ => cR_straight h) (okR_ite (fun _ => cR_straight h) (okR_ite (okR_fix h hx) (okR_ite (okR_arc _ _ _) (okR_ite (okR_climb hx) (okR_ite (okR_climb hx) (okR_ite (okR_ray hx) (okR_ite (okR_open hx) (okR_ite (okR_cd hx) (okR_ite (okR_cr hx) (okR_ite (okR_ci hx) (fun _ => pat_crs h hx)))))))))))
theorem okR_track {pv : Option En} {fx fy c alt spd bank oalt gr : Int} {x y : En} (h : inC c) (hx : inC x.crs) : okR (trackE pv fx fy c alt x y spd bank oalt gr) := by
 unfold trackE
 refine okR_ite (fun _ => ?_) ?_
 · have : inC (if x.ty = 3 then x.crs else c) := by split <;> assumption
   exact ⟨this, this⟩
 · unfold resolveT
   exact okR_ite (okR_zero _) (okR_ite (okR_zero _) (okR_ite (okR_zero _) (okR_ite (okR_zero _) (okR_ite (okR_zero _) (okR_leg h hx)))))
theorem tracksG_crs {spd bank oalt gr : Int} : ∀ (l : List En) (pv : Option En) (i : Nat) (fx fy c alt : Int), inC c → (∀ x ∈ l, x.gap = false → inC x.crs) → ∀ t ∈ (tracksG spd bank oalt gr pv i fx fy c alt l).1, crsT t
 | [], pv, i, fx, fy, c, alt, hc, hl, t, h => by cases h
 | x :: r, pv, i, fx, fy, c, alt, hc, hl, t, h => by
   have hr : ∀ y ∈ r, y.gap = false → inC y.crs := fun y hy => hl y (.tail _ hy)
   rcases hg : x.gap with _ | _
   · by_cases he : (trackE pv fx fy c alt x (nextE r) spd bank oalt gr).2 = 0
     · obtain ⟨T, hT⟩ : ∃ T, trackE pv fx fy c alt x (nextE r) spd bank oalt gr = (T, 0) := ⟨_, Prod.ext rfl he⟩
       have hs := okR_track (pv := pv) (fx := fx) (fy := fy) (alt := alt) (y := nextE r) (spd := spd) (bank := bank) (oalt := oalt) (gr := gr) hc (hl x (.head _) hg) he
       rw [hT] at hs
       rw [tracksG_leg hg hT] at h
       unfold joinT at h
       split at h
       · cases h
       · rcases List.mem_append.1 h with h | h
         · rw [List.mem_singleton.1 h]
           exact hs
         · exact tracksG_crs r _ _ _ _ _ _ hs.2 hr t h
     · obtain ⟨T, e, hT⟩ : ∃ T e, trackE pv fx fy c alt x (nextE r) spd bank oalt gr = (T, e) := ⟨_, _, rfl⟩
       rw [hT] at he
       rw [tracksG_err hg hT he] at h
       cases h
   · rw [tracksG_gap hg] at h
     exact tracksG_crs r _ _ _ _ _ _ hc hr t h
theorem foT_crs {rad : Int} {d : Dw} {x y : Tk} {r : Dw × Tk} (hy : crsT y) (hd : foT rad d x y = some r) : crsT r.2 := by
 unfold foT at hd
 dsimp only at hd
 split at hd
 · cases hd
 split at hd
 · cases hd
 split at hd
 · cases hd
 split at hd
 · cases hd
 split at hd
 · injection hd with hd
   subst hd
   dsimp only
   split
   · exact ⟨hy.1, hy.1⟩
   · exact ⟨course_in _ _ _ _, course_in _ _ _ _⟩
 · cases hd
theorem foT_len {rad : Int} {d : Dw} {x y : Tk} {r : Dw × Tk} (hd : foT rad d x y = some r) : r.2.len ≤ 8000000 := by
 unfold foT at hd
 dsimp only at hd
 split at hd
 · cases hd
 split at hd
 · cases hd
 split at hd
 · cases hd
 split at hd
 · cases hd
 split at hd
 · injection hd with hd
   subst hd
   dsimp only
   split
   · show (0 : Int) ≤ 8000000
     decide
   · exact Int.le_trans (distF_bd _ _ _ _).2 (by decide)
 · cases hd
structure tkB (t : Tk) : Prop where
 crs : crsT t
 len : t.k = 1 → t.len ≤ 8000000
theorem trT_B {rad : Int} {d : Dw} {lx ly : En} {x y : Tk} {r : Dw × Tk} (hy : tkB y) (hd : trT rad d lx ly x y = some r) : tkB r.2 := by
 unfold trT at hd
 split at hd
 · cases hd
 split at hd
 · split at hd
   · exact ⟨foT_crs hy.crs hd, fun _ => foT_len hd⟩
   · cases hd
 split at hd
 · cases hd
 · obtain ⟨d', h1, h2⟩ := Option.map_eq_some_iff.1 hd
   subst h2
   exact hy
end Go.Proofs.YtbhpklpkcgcmfaaGreatDoor
/-
  A path that is built out of the tracks of a plan has no error. No program.
-/
namespace Go.Proofs.YtbhpklpkcgcmfaaGreatDoor
set_option linter.unusedVariables false
def NumW (P : Int → Prop) (d : Dw) : Prop := ∀ a ∈ d.els, P a.n
theorem num_add {P : Int → Prop} {d : Dw} {x : El} (h : NumW P d) (hx : P x.n) : NumW P (addW d x) := fun y hy => by
 rcases List.mem_append.1 hy with hy | hy
 · exact h y hy
 · rw [List.mem_singleton.1 hy]
   exact hx
theorem num_line {P : Int → Prop} {d : Dw} (h : NumW P d) (qx qy : Int) {n : Int} (hn : P n) : NumW P (lineW d qx qy n) := by
 unfold lineW
 split
 · exact h
 · exact num_add h hn
theorem num_arc {P : Int → Prop} {d : Dw} (h : NumW P d) (cx cy r f s qx qy : Int) {n : Int} (hn : P n) : NumW P (arcD d cx cy r f s qx qy n) := by
 unfold arcD
 split
 · exact num_add h hn
 · exact num_line h _ _ hn
theorem num_tr {P : Int → Prop} {rad : Int} {d : Dw} {lx ly : En} {x y : Tk} {r : Dw × Tk} (h : NumW P d) (hx : P x.n) (hy : P y.n) (hd : trT rad d lx ly x y = some r) : NumW P r.1 ∧ r.2.n = y.n := by
 unfold trT at hd
 split at hd
 · cases hd
 split at hd
 · split at hd
   · unfold foT at hd
     dsimp only at hd
     split at hd
     · cases hd
     split at hd
     · cases hd
     split at hd
     · cases hd
     split at hd
     · cases hd
     split at hd
     · injection hd with hd
       subst hd
       refine ⟨num_arc (num_line h _ _ hx) _ _ _ _ _ _ _ hy, ?_⟩
       dsimp only
       split <;> rfl
     · cases hd
   · cases hd
 split at hd
 · cases hd
 · obtain ⟨d', h1, h2⟩ := Option.map_eq_some_iff.1 hd
   subst h2
   refine ⟨?_, rfl⟩
   unfold fbT at h1
   split at h1
   · cases h1
   split at h1
   · cases h1
   unfold fbDraw at h1
   split at h1
   · split at h1
     · cases h1
     · injection h1 with h1
       subst h1
       exact num_arc (num_arc (num_line h _ _ hx) _ _ _ _ _ _ _ hx) _ _ _ _ _ _ _ hy
   · cases h1
theorem tracksF_ok {pa pb : ByteArray} {l : List En} {act fx fy c spd bank oalt gr : Int} (h : (tracksF pa pb l act fx fy c spd bank oalt gr).2.2 = 0) :
 planF pa pb l act = 0 ∧ vldB fx fy = true ∧ tracksF pa pb l act fx fy c spd bank oalt gr = tracksG spd bank oalt gr none (beginN act) fx fy c oalt (l.drop (beginN act)) := by
 unfold tracksF at h ⊢
 by_cases h1 : planF pa pb l act ≠ 0
 · rw [if_pos h1] at h; exact absurd h h1
 rw [if_neg h1] at h ⊢
 by_cases h2 : optE spd bank oalt gr ≠ 0
 · rw [if_pos h2] at h; exact absurd h h2
 rw [if_neg h2] at h ⊢
 by_cases h3 : vldB fx fy = false
 · rw [if_pos h3] at h; cases h
 rw [if_neg h3] at h ⊢
 by_cases h4 : c < 0 ∨ c ≥ 129600000
 · rw [if_pos h4] at h; cases h
 rw [if_neg h4]
 exact ⟨Classical.not_not.1 h1, by rcases hv : vldB fx fy with _ | _ <;> simp_all, rfl⟩
theorem plan_of {pa pb : ByteArray} {l : List En} {act : Int} (h : planF pa pb l act = 0) : planG none 0 l = 0 ∧ l.length ≤ 60 := by
 unfold planF at h
 split at h
 · cases h
 split at h
 · cases h
 split at h
 · rename_i h3; exact absurd h h3
 · rename_i h2 h3; exact ⟨Classical.not_not.1 h3, by omega⟩
end Go.Proofs.YtbhpklpkcgcmfaaGreatDoor
/-
  Build round by round: what is drawn of the tracks from one on. No program.
-/
namespace Go.Proofs.YtbhpklpkcgcmfaaGreatDoor
set_option linter.unusedVariables false
def contG (l : List En) (rad : Int) (first done : Bool) (d : Dw) : List Tk → Dw × Int × Int
 | [] => (d, 0, 0)
 | x :: r => buildG l rad first done d x r
theorem cont_arc {l : List En} {rad : Int} {first done : Bool} {d : Dw} {x : Tk} {r : List Tk} (h : x.k = 2) : contG l rad first done d (x :: r) = contG l rad false false (arcD (penW l first done d x) x.cx x.cy x.r x.f x.s x.bx x.b_y x.n) r := by
 cases r with
 | nil => show buildG l rad first done d x [] = _; unfold buildG; rw [if_pos h]; rfl
 | cons y r => show buildG l rad first done d x (y :: r) = _; rw [buildG]; rw [if_pos h]; rfl
theorem cont_bad {l : List En} {rad : Int} {first done : Bool} {d : Dw} {x : Tk} {r : List Tk} (h : x.k = 3) (he : (paT rad (penW l first done d x) (lgAt l x) x).1 ≠ 0) : contG l rad first done d (x :: r) = (d, x.n, (paT rad (penW l first done d x) (lgAt l x) x).1) := by
 have h2 : x.k ≠ 2 := by omega
 cases r with
 | nil => show buildG l rad first done d x [] = _; unfold buildG; rw [if_neg h2, if_pos h, if_pos he]
 | cons y r => show buildG l rad first done d x (y :: r) = _; rw [buildG]; rw [if_neg h2, if_pos h, if_pos he]
theorem cont_pat {l : List En} {rad : Int} {first done : Bool} {d : Dw} {x : Tk} {r : List Tk} (h : x.k = 3) (he : (paT rad (penW l first done d x) (lgAt l x) x).1 = 0) : contG l rad first done d (x :: r) = contG l rad false false (paT rad (penW l first done d x) (lgAt l x) x).2 r := by
 have h2 : x.k ≠ 2 := by omega
 cases r with
 | nil => show buildG l rad first done d x [] = _; unfold buildG; rw [if_neg h2, if_pos h, if_neg (by rw [he]; simp)]; rfl
 | cons y r => show buildG l rad first done d x (y :: r) = _; rw [buildG]; rw [if_neg h2, if_pos h, if_neg (by rw [he]; simp)]; rfl
theorem cont_last {l : List En} {rad : Int} {first done : Bool} {d : Dw} {x : Tk} (h2 : x.k ≠ 2) (h3 : x.k ≠ 3) : contG l rad first done d [x] = contG l rad false false (lineW (penW l first done d x) x.bx x.b_y x.n) [] := by
 show buildG l rad first done d x [] = _
 unfold buildG
 rw [if_neg h2, if_neg h3]
 rfl
theorem cont_line {l : List En} {rad : Int} {first done : Bool} {d : Dw} {x y : Tk} {r : List Tk} (h2 : x.k ≠ 2) (h3 : x.k ≠ 3) (hn : y.g = true ∨ trT rad (penW l first done d x) (lgAt l x) (lgAt l y) x y = none) : contG l rad first done d (x :: y :: r) = contG l rad false false (lineW (penW l first done d x) x.bx x.b_y x.n) (y :: r) := by
 show buildG l rad first done d x (y :: r) = _
 rw [buildG]
 rw [if_neg h2, if_neg h3]
 have : (if y.g = true then none else trT rad (penW l first done d x) (lgAt l x) (lgAt l y) x y) = none := by
  rcases hn with h | h
  · rw [if_pos h]
  · split
    · rfl
    · exact h
 rw [this]
 rfl
theorem cont_tr {l : List En} {rad : Int} {first done : Bool} {d d' : Dw} {x y y' : Tk} {r : List Tk} (h2 : x.k ≠ 2) (h3 : x.k ≠ 3) (hg : y.g = false) (hn : trT rad (penW l first done d x) (lgAt l x) (lgAt l y) x y = some (d', y')) : contG l rad first done d (x :: y :: r) = contG l rad false true d' (y' :: r) := by
 show buildG l rad first done d x (y :: r) = _
 rw [buildG]
 rw [if_neg h2, if_neg h3, if_neg (by rw [hg]; simp), hn]
 rfl
def downW (l : List En) (first : Bool) (d : Dw) (x : Tk) : Dw := if x.g = true ∨ (first = true ∧ (lgAt l x).ty = 1) then { d with px := x.ax, py := x.ay, gp := x.g && !d.els.isEmpty } else d
theorem penW_eq (l : List En) (first done : Bool) (d : Dw) (x : Tk) : penW l first done d x = if done = true then downW l first d x else lineW (downW l first d x) x.ax x.ay x.n := rfl
theorem rad_pos {v b : Int} (h : (radF v b).2 = 0) : 1 ≤ (radF v b).1 ∧ (radF v b).1 ≤ 8000000 := by
 unfold radF at h ⊢
 split at h
 · rename_i h1
   rw [if_pos h1]
   split at h
   · rename_i h2
     rw [if_pos h2]
     dsimp only
     refine ⟨?_, h2.2⟩
     have hz := h2.1
     generalize hS : Sin (b * 3600) = s at *
     have hC := Cos_h_pos (h := b * 3600) (by omega) (by omega)
     have hs0 : 0 ≤ s := by rw [← hS]; exact (Sin_h_bd (by omega) (by omega)).1
     have hvv : 1 ≤ v * v := Int.mul_le_mul h1.1 h1.1 (by decide) (by omega)
     have hn : 1 ≤ v * v * 87431 * Cos (b * 3600) := Int.mul_le_mul (show (1 : Int) ≤ v * v * 87431 by omega) (show (1 : Int) ≤ Cos (b * 3600) by omega) (by decide) (by omega)
     unfold muldiv at hz ⊢
     generalize v * v * 87431 * Cos (b * 3600) = N at *
     by_cases hc : 1000000 * s = 0
     · rw [if_pos hc] at hz; cases hz
     · rw [if_neg hc] at hz ⊢
       split at hz
       · rename_i h3
         rw [if_pos h3]
         dsimp only
         have hd : 0 < 1000000 * s := by omega
         have hsp := (rnd1_spec N (1000000 * s) hd).2
         refine Classical.byContradiction fun hn2 => ?_
         have := Int.mul_le_mul_of_nonneg_right (show rnd 1 N (1000000 * s) ≤ 0 by omega) (show 0 ≤ 1000000 * s by omega)
         omega
       · cases hz
   · cases h
 · cases h
def okP (x : En) (p : Tk × Int) : Prop := p.2 = 0 → p.1.k = 3 → 14 ≤ x.ty
theorem okP_ite {x : En} {q : Prop} [Decidable q] {a b : Tk × Int} (ha : okP x a) (hb : ¬ q → okP x b) : okP x (if q then a else b) := by
 split
 · exact ha
 · rename_i h; exact hb h
theorem okP_no {x : En} {p : Tk × Int} (h : p.2 = 0 → p.1.k ≠ 3) : okP x p := fun h0 h3 => absurd h3 (h h0)
theorem k_straight (a b d e k : Int) : (straightF a b d e k).k = 1 := by unfold straightF; split <;> rfl
theorem k_ray (a b d e : Int) : (rayT a b d e).1.k ≠ 3 := by
 by_cases h : (rayF a b d e).2.2 = 0
 · unfold rayT; rw [if_pos h]; show (1 : Int) ≠ 3; decide
 · unfold rayT; rw [if_neg h]; show (0 : Int) ≠ 3; decide
theorem k_ite {q : Prop} [Decidable q] {a b : Tk × Int} (ha : a.1.k ≠ 3) (hb : b.1.k ≠ 3) : (if q then a else b).1.k ≠ 3 := by split <;> assumption
theorem k_zero (e : Int) : ((Tk.zero, e) : Tk × Int).1.k ≠ 3 := by show (0 : Int) ≠ 3; decide
theorem k_st (a b d e k g : Int) : ((straightF a b d e k, g) : Tk × Int).1.k ≠ 3 := by show (straightF a b d e k).k ≠ 3; rw [k_straight]; decide
theorem k_s (a b d e k g h : Int) : ((tkS 1 a b d e k g, h) : Tk × Int).1.k ≠ 3 := by show (1 : Int) ≠ 3; decide
theorem k_fix (fx fy c : Int) (x : En) : (toFixT fx fy c x).1.k ≠ 3 := by
 unfold toFixT
 exact k_ite (k_zero _) (k_ite (k_zero _) (k_ite (k_zero _) (k_ite (k_st _ _ _ _ _ _) (k_ite (k_zero _) (k_s _ _ _ _ _ _ _)))))
theorem k_arc (fx fy : Int) (x : En) : (aroundT fx fy x).1.k ≠ 3 := by
 unfold aroundT
 refine k_ite (k_zero _) ?_
 split
 · exact k_ite (k_zero _) (k_ite (k_zero _) (k_ite (k_zero _) (by show (2 : Int) ≠ 3; decide)))
 · exact k_zero _
theorem k_open (a b c : Int) : (openT a b c).1.k ≠ 3 := by
 unfold openT
 exact k_ite (by show (4 : Int) ≠ 3; decide) (k_ray _ _ _ _)
theorem k_cd (fx fy : Int) (x : En) : (toDistT fx fy x).1.k ≠ 3 := by
 unfold toDistT
 exact k_ite (k_zero _) (k_ite (k_zero _) (k_ite (k_zero _) (k_ite (k_ray _ _ _ _) (k_ite (k_zero _) (k_ray _ _ _ _)))))
theorem k_cr (fx fy : Int) (x : En) : (toRadT fx fy x).1.k ≠ 3 := by
 unfold toRadT
 exact k_ite (k_zero _) (k_ite (k_zero _) (k_ite (k_zero _) (k_ite (k_zero _) (k_s _ _ _ _ _ _ _))))
theorem k_ci (fx fy : Int) (x y : En) : (interT fx fy x y).1.k ≠ 3 := by
 unfold interT
 exact k_ite (k_zero _) (k_ite (k_zero _) (k_ite (k_zero _) (k_ite (k_zero _) (k_ite (k_zero _) (k_s _ _ _ _ _ _ _)))))
theorem k_climb (fx fy alt gr : Int) (x : En) : (climbT fx fy alt x gr).1.k ≠ 3 := by
 unfold climbT
 exact k_ite (k_zero _) (k_ray _ _ _ _)
theorem okP_leg {fx fy c alt gr : Int} {x y : En} (ht : 1 ≤ x.ty ∧ x.ty ≤ 17) : okP x (legT fx fy c alt x y gr) := by
 unfold legT
 refine okP_ite (okP_no fun _ => k_st _ _ _ _ _ 0) fun h1 => okP_ite (okP_no fun _ => k_st _ _ _ _ _ 0) fun h2 => okP_ite (okP_no fun _ => k_fix _ _ _ _) fun h3 => okP_ite (okP_no fun _ => k_arc _ _ _) fun h4 => okP_ite (okP_no fun _ => k_climb _ _ _ _ _) fun h5 => okP_ite (okP_no fun _ => k_climb _ _ _ _ _) fun h6 => okP_ite (okP_no fun _ => k_ray _ _ _ _) fun h7 => okP_ite (okP_no fun _ => k_open _ _ _) fun h8 => okP_ite (okP_no fun _ => k_cd _ _ _) fun h9 => okP_ite (okP_no fun _ => k_cr _ _ _) fun h10 => okP_ite (okP_no fun _ => k_ci _ _ _ _) fun h11 => fun _ _ => by omega
theorem okP_track {pv : Option En} {fx fy c alt spd bank oalt gr : Int} {x y : En} (ht : legF x = 0) : okP x (trackE pv fx fy c alt x y spd bank oalt gr) := by
 unfold trackE
 refine okP_ite (okP_no fun _ => by show (1 : Int) ≠ 3; decide) fun _ => ?_
 unfold resolveT
 exact okP_ite (okP_no fun _ => k_zero _) fun _ => okP_ite (okP_no fun _ => k_zero _) fun _ => okP_ite (okP_no fun _ => k_zero _) fun _ => okP_ite (okP_no fun _ => k_zero _) fun _ => okP_ite (okP_no fun _ => k_zero _) fun _ => okP_leg (legF_ty ht)
theorem tracksG_leg3 {spd bank oalt gr : Int} : ∀ (l : List En) (pv : Option En) (i : Nat) (fx fy c alt : Int), (∀ x ∈ l, x.gap = false → legF x = 0) → ∀ (t : Tk), t ∈ (tracksG spd bank oalt gr pv i fx fy c alt l).1 → ∃ (j : Nat) (x : En), t.n = ((i + j : Nat) : Int) ∧ l[j]? = some x ∧ legF x = 0 ∧ (t.k = 3 → 14 ≤ x.ty)
 | [], pv, i, fx, fy, c, alt, hl, t, h => by cases h
 | x :: r, pv, i, fx, fy, c, alt, hl, t, h => by
   have hr : ∀ y ∈ r, y.gap = false → legF y = 0 := fun y hy => hl y (.tail _ hy)
   have up : (∃ (j : Nat) (z : En), t.n = ((i + 1 + j : Nat) : Int) ∧ r[j]? = some z ∧ legF z = 0 ∧ (t.k = 3 → 14 ≤ z.ty)) → ∃ (j : Nat) (z : En), t.n = ((i + j : Nat) : Int) ∧ (x :: r)[j]? = some z ∧ legF z = 0 ∧ (t.k = 3 → 14 ≤ z.ty) := by
    rintro ⟨j, z, h1, h2, h3⟩
    exact ⟨j + 1, z, by rw [h1]; congr 1; omega, by simpa using h2, h3⟩
   rcases hg : x.gap with _ | _
   · by_cases he : (trackE pv fx fy c alt x (nextE r) spd bank oalt gr).2 = 0
     · obtain ⟨T, hT⟩ : ∃ T, trackE pv fx fy c alt x (nextE r) spd bank oalt gr = (T, 0) := ⟨_, Prod.ext rfl he⟩
       have hs := okP_track (pv := pv) (fx := fx) (fy := fy) (c := c) (alt := alt) (y := nextE r) (spd := spd) (bank := bank) (oalt := oalt) (gr := gr) (hl x (.head _) hg) he
       rw [hT] at hs
       rw [tracksG_leg hg hT] at h
       unfold joinT at h
       split at h
       · cases h
       · rcases List.mem_append.1 h with h | h
         · rw [List.mem_singleton.1 h]
           exact ⟨0, x, rfl, rfl, hl x (.head _) hg, hs⟩
         · exact up (tracksG_leg3 r _ _ _ _ _ _ hr t h)
     · obtain ⟨T, e, hT⟩ : ∃ T e, trackE pv fx fy c alt x (nextE r) spd bank oalt gr = (T, e) := ⟨_, _, rfl⟩
       rw [hT] at he
       rw [tracksG_err hg hT he] at h
       cases h
   · rw [tracksG_gap hg] at h
     exact up (tracksG_leg3 r _ _ _ _ _ _ hr t h)
structure tkL (l : List En) (t : Tk) : Prop where
 b : tkB t
 leg : ∃ (j : Nat) (x : En), t.n = (j : Int) ∧ l[j]? = some x ∧ legF x = 0 ∧ (t.k = 3 → 14 ≤ x.ty)
theorem ne0' {e : Int} {a b : List Tk × Int × Int} (h : (if e ≠ 0 then a else b).2.2 = 0) (ha : e ≠ 0 → a.2.2 ≠ 0 := by intro h; exact h) : e = 0 ∧ b.2.2 = 0 := by
 split at h
 · rename_i h1; exact absurd h (ha h1)
 · rename_i h1; exact ⟨Classical.not_not.1 h1, h⟩
theorem tracks_facts {pa pb : ByteArray} {l : List En} {act fx fy c spd bank oalt gr : Int} {T : List Tk × Int × Int} (hT : tracksF pa pb l act fx fy c spd bank oalt gr = T) (h : T.2.2 = 0) : ∀ t ∈ T.1, tkL l t := by
 subst hT
 obtain ⟨hp, hv, hG⟩ := tracksF_ok h
 have hc : inC c := by
  unfold tracksF at h
  obtain ⟨_, h⟩ := ne0' h
  obtain ⟨_, h⟩ := ne0' h
  split at h
  · cases h
  split at h
  · cases h
  · rename_i h1; exact ⟨by omega, by omega⟩
 have hleg : ∀ x ∈ l.drop (beginN act), x.gap = false → legF x = 0 := fun x hx hg => alone_leg (plan_alone l none 0 (plan_of hp).1 x (List.mem_of_mem_drop hx) hg)
 intro t ht
 rw [hG] at ht
 obtain ⟨j, x, e1, e2, e3, e4⟩ := tracksG_leg3 _ _ _ _ _ _ _ hleg t ht
 refine ⟨⟨tracksG_crs _ _ _ _ _ _ _ hc (fun x hx hg => legF_crs (hleg x hx hg)) t ht, fun hk => (tracksG_sT _ _ _ _ _ _ _ t ht hk).2.2⟩, beginN act + j, x, e1, by rw [List.getElem?_drop] at e2; exact e2, e3, e4⟩
theorem sumL_take {l : List El} {k : Nat} {x : El} (hx : l[k]? = some x) : sumL (l.take (k + 1)) = sumL (l.take k) + x.L := by
 induction l generalizing k with
 | nil => simp at hx
 | cons y l ih =>
   cases k with
   | zero =>
     simp at hx
     subst hx
     simp [sumL]
   | succ k =>
     simp at hx
     rw [List.take_succ_cons, List.take_succ_cons, sumL_cons, sumL_cons, ih hx]
     omega
theorem joinT_len {ts : List Tk} {r : List Tk × Int × Int} {n : Nat} (h : r.1.length ≤ n) : (joinT ts r).1.length ≤ ts.length + n := by
 unfold joinT
 split
 · exact Nat.zero_le _
 · rw [List.length_append]
   omega
theorem tracksG_len {spd bank oalt gr : Int} : ∀ (l : List En) (pv : Option En) (i : Nat) (fx fy c alt : Int), (tracksG spd bank oalt gr pv i fx fy c alt l).1.length ≤ l.length
 | [], pv, i, fx, fy, c, alt => Nat.le_refl _
 | x :: r, pv, i, fx, fy, c, alt => by
   rcases hg : x.gap with _ | _
   · by_cases he : (trackE pv fx fy c alt x (nextE r) spd bank oalt gr).2 = 0
     · obtain ⟨T, hT⟩ : ∃ T, trackE pv fx fy c alt x (nextE r) spd bank oalt gr = (T, 0) := ⟨_, Prod.ext rfl he⟩
       rw [tracksG_leg hg hT]
       have := joinT_len (ts := [{ T with n := (i : Int) }]) (tracksG_len r (some x) (i + 1) T.bx T.b_y T.co (upAlt x alt) (spd := spd) (bank := bank) (oalt := oalt) (gr := gr))
       rw [List.length_cons]
       simp only [List.length_cons, List.length_nil] at this
       omega
     · obtain ⟨T, e, hT⟩ : ∃ T e, trackE pv fx fy c alt x (nextE r) spd bank oalt gr = (T, e) := ⟨_, _, rfl⟩
       rw [hT] at he
       rw [tracksG_err hg hT he]
       exact Nat.zero_le _
   · rw [tracksG_gap hg, List.length_cons]
     exact Nat.le_trans (tracksG_len r _ _ _ _ _ _) (by omega)
theorem tracks_len {pa pb : ByteArray} {l : List En} {act fx fy c spd bank oalt gr : Int} {T : List Tk × Int × Int} (hT : tracksF pa pb l act fx fy c spd bank oalt gr = T) : T.1.length ≤ 60 := by
 subst hT
 by_cases h : (tracksF pa pb l act fx fy c spd bank oalt gr).2.2 = 0
 · obtain ⟨hp, _, hG⟩ := tracksF_ok h
   rw [hG]
   have := tracksG_len (spd := spd) (bank := bank) (oalt := oalt) (gr := gr) (l.drop (beginN act)) none (beginN act) fx fy c oalt
   have := (plan_of hp).2
   rw [List.length_drop] at *
   omega
 · unfold tracksF at h ⊢
   split
   · exact Nat.zero_le _
   split
   · exact Nat.zero_le _
   split
   · exact Nat.zero_le _
   split
   · exact Nat.zero_le _
   · rename_i h1 h2 h3 h4
     rw [if_neg h1, if_neg h2, if_neg h3, if_neg h4] at h
     have := tracksG_len (spd := spd) (bank := bank) (oalt := oalt) (gr := gr) (l.drop (beginN act)) none (beginN act) fx fy c oalt
     have := (plan_of (Classical.not_not.1 h1)).2
     rw [List.length_drop] at *
     omega
end Go.Proofs.YtbhpklpkcgcmfaaGreatDoor
/-
  Build round by round: the mark of a discontinuity never stands where nothing is drawn; setting the pen down. No program.
-/
namespace Go.Proofs.YtbhpklpkcgcmfaaGreatDoor
set_option linter.unusedVariables false
def gpI (d : Dw) : Prop := d.els = [] → d.gp = false
theorem gpi_add (d : Dw) (x : El) : gpI (addW d x) := fun _ => rfl
theorem gpi_line {d : Dw} (h : gpI d) (qx qy n : Int) : gpI (lineW d qx qy n) := by
 unfold lineW
 split
 · exact h
 · exact gpi_add _ _
theorem gpi_arc {d : Dw} (h : gpI d) (cx cy r f s qx qy n : Int) : gpI (arcD d cx cy r f s qx qy n) := by
 unfold arcD
 split
 · exact gpi_add _ _
 · exact gpi_line h _ _ _
theorem gpi_all (n : Int) : ∀ (l : List El) (d : Dw), gpI d → gpI (allW n d l)
 | [], d, h => h
 | x :: r, d, h => by
   unfold allW
   refine gpi_all n r _ ?_
   split
   · exact gpi_add _ _
   · exact h
theorem gpi_down {l : List En} {first : Bool} {d : Dw} {x : Tk} (h : gpI d) : gpI (downW l first d x) := by
 unfold downW
 split
 · intro hn
   show (x.g && !d.els.isEmpty) = false
   rw [show d.els = [] from hn]
   simp
 · exact h
theorem gpi_pen {l : List En} {first done : Bool} {d : Dw} {x : Tk} (h : gpI d) : gpI (penW l first done d x) := by
 rw [penW_eq]
 split
 · exact gpi_down h
 · exact gpi_line (gpi_down h) _ _ _
theorem gpi_tr {rad : Int} {d : Dw} {lx ly : En} {x y : Tk} {r : Dw × Tk} (h : gpI d) (hd : trT rad d lx ly x y = some r) : gpI r.1 := by
 unfold trT at hd
 split at hd
 · cases hd
 split at hd
 · split at hd
   · unfold foT at hd
     dsimp only at hd
     split at hd
     · cases hd
     split at hd
     · cases hd
     split at hd
     · cases hd
     split at hd
     · cases hd
     split at hd
     · injection hd with hd
       subst hd
       exact gpi_arc (gpi_line h _ _ _) _ _ _ _ _ _ _ _
     · cases hd
   · cases hd
 split at hd
 · cases hd
 · obtain ⟨d', h1, h2⟩ := Option.map_eq_some_iff.1 hd
   subst h2
   unfold fbT at h1
   split at h1
   · cases h1
   split at h1
   · cases h1
   unfold fbDraw at h1
   split at h1
   · split at h1
     · cases h1
     · injection h1 with h1
       subst h1
       exact gpi_arc (gpi_arc (gpi_line h _ _ _) _ _ _ _ _ _ _ _) _ _ _ _ _ _ _ _
   · cases h1
theorem gpi_pa {rad : Int} {d : Dw} {lx : En} {x : Tk} (h : gpI d) : gpI (paT rad d lx x).2 := by
 unfold paT
 split
 · exact gpi_all _ _ _ h
 · split
   · exact h
   · exact gpi_all _ _ _ h
theorem down_no {l : List En} {first : Bool} {d : Dw} {x : Tk} (h : (x.g || (first && decide ((lgAt l x).ty = 1))) = false) : downW l first d x = d := by
 unfold downW
 rw [if_neg]
 rintro (h1 | ⟨h1, h2⟩)
 · rw [h1] at h; cases h
 · rw [h1, decide_eq_true h2] at h
   simp at h
theorem down_yes {l : List En} {first : Bool} {d : Dw} {x : Tk} (h : (x.g || (first && decide ((lgAt l x).ty = 1))) = true) : downW l first d x = ⟨d.els, x.ax, x.ay, x.g && !d.els.isEmpty⟩ := by
 unfold downW
 rw [if_pos]
 rcases hg : x.g with _ | _
 · rw [hg] at h
   simp at h
   exact .inr h
 · exact .inl rfl
theorem lg_of {l : List En} {x : Tk} {j : Nat} {e : En} (hn : x.n = (j : Int)) (he : l[j]? = some e) : lgAt l x = e := by
 unfold lgAt
 rw [hn, Int.toNat_natCast, he]
 rfl
theorem tkL_tr {l : List En} {rad : Int} {d : Dw} {lx ly : En} {x y : Tk} {r : Dw × Tk} (hy : tkL l y) (hd : trT rad d lx ly x y = some r) : tkL l r.2 := by
 have hk := trT_k hd
 have hn : r.2.n = y.n := (num_tr (P := fun _ => True) (d := d) (fun _ _ => trivial) trivial trivial hd).2
 obtain ⟨j, e, e1, e2, e3, e4⟩ := hy.leg
 exact ⟨trT_B hy.b hd, j, e, by rw [hn]; exact e1, e2, e3, fun h => by rw [hk] at h; cases h⟩
end Go.Proofs.YtbhpklpkcgcmfaaGreatDoor
/-
  The lengths of the elements of a path that is built are bounded. No program.
-/
namespace Go.Proofs.YtbhpklpkcgcmfaaGreatDoor
set_option linter.unusedVariables false
def elL (x : El) : Prop := 0 ≤ x.L ∧ x.L ≤ 60000000
def LW (d : Dw) : Prop := ∀ x ∈ d.els, elL x
theorem lw_add {d : Dw} {x : El} (h : LW d) (hx : elL x) : LW (addW d x) := fun y hy => by
 rcases List.mem_append.1 hy with hy | hy
 · exact h y hy
 · rw [List.mem_singleton.1 hy]
   exact hx
theorem dist_L (ax ay bx b_y : Int) : 0 ≤ distF ax ay bx b_y ∧ distF ax ay bx b_y ≤ 60000000 := by
 have := distF_bd ax ay bx b_y
 omega
theorem lw_line {d : Dw} (h : LW d) (qx qy n : Int) : LW (lineW d qx qy n) := by
 unfold lineW
 split
 · exact h
 · exact lw_add h (dist_L _ _ _ _)
theorem lw_arc {d : Dw} (h : LW d) (cx cy r f s qx qy n : Int) : LW (arcD d cx cy r f s qx qy n) := by
 unfold arcD
 split
 · exact lw_add h (arcLen_bd _ _ _ _ _)
 · exact lw_line h _ _ _
theorem lw_all (n : Int) : ∀ (l : List El) (d : Dw), LW d → (∀ x ∈ l, elL x) → LW (allW n d l)
 | [], d, h, _ => h
 | x :: r, d, h, hl => by
   unfold allW
   refine lw_all n r _ ?_ (fun y hy => hl y (.tail _ hy))
   split
   · exact lw_add h (hl x (.head _))
   · exact h
theorem lw_pen {l : List En} {first done : Bool} {d : Dw} {x : Tk} (h : LW d) : LW (penW l first done d x) := by
 have key : LW (downW l first d x) := by
  unfold downW
  split <;> exact h
 rw [penW_eq]
 split
 · exact key
 · exact lw_line key _ _ _
theorem ln_L (ax ay bx b_y : Int) : elL (lnE ax ay bx b_y) := dist_L _ _ _ _
theorem ar_L (ax ay bx b_y cx cy r f s : Int) : elL (arE ax ay bx b_y cx cy r f s) := arcLen_bd _ _ _ _ _
theorem pat_L (fx fy inb tn leg rad : Int) : ∀ x ∈ patE fx fy inb tn leg rad, elL x := by
 intro x hx
 unfold patE at hx
 simp only [List.mem_cons, List.not_mem_nil, or_false] at hx
 rcases hx with rfl | rfl | rfl | rfl
 · exact ar_L ..
 · exact ln_L ..
 · exact ar_L ..
 · exact ln_L ..
theorem ent_L (w fx fy inb tn leg rad : Int) : ∀ x ∈ entE w fx fy inb tn leg rad, elL x := by
 intro x hx
 unfold entE at hx
 dsimp only at hx
 split at hx
 · simp only [List.mem_cons, List.not_mem_nil, or_false] at hx
   rcases hx with rfl | rfl | rfl
   · exact ln_L ..
   · exact ar_L ..
   · exact ln_L ..
 · split at hx
   · simp only [List.mem_cons, List.not_mem_nil, or_false] at hx
     rcases hx with rfl | rfl | rfl
     · exact ln_L ..
     · exact ar_L ..
     · exact ln_L ..
   · cases hx
theorem rev_L (fx fy crs tn dst rad : Int) : ∀ x ∈ (revE fx fy crs tn dst rad).2, elL x := by
 intro x hx
 unfold revE at hx
 split at hx
 · cases hx
 split at hx
 · cases hx
 dsimp only at hx
 split at hx
 · simp only [List.mem_cons, List.not_mem_nil, or_false] at hx
   rcases hx with rfl | rfl | rfl | rfl | rfl
   · exact ln_L ..
   · exact ln_L ..
   · exact ar_L ..
   · exact ln_L ..
   · exact ln_L ..
 · cases hx
theorem lw_pa {rad : Int} {d : Dw} {lx : En} {x : Tk} (h : LW d) : LW (paT rad d lx x).2 := by
 unfold paT
 split
 · exact lw_all _ _ _ h (rev_L _ _ _ _ _ _)
 · split
   · exact h
   · exact lw_all _ _ _ h (fun y hy => (List.mem_append.1 hy).elim (ent_L _ _ _ _ _ _ _ y) (pat_L _ _ _ _ _ _ y))
theorem lw_tr {rad : Int} {d : Dw} {lx ly : En} {x y : Tk} {r : Dw × Tk} (h : LW d) (hd : trT rad d lx ly x y = some r) : LW r.1 := by
 unfold trT at hd
 split at hd
 · cases hd
 split at hd
 · split at hd
   · unfold foT at hd
     dsimp only at hd
     split at hd
     · cases hd
     split at hd
     · cases hd
     split at hd
     · cases hd
     split at hd
     · cases hd
     split at hd
     · injection hd with hd
       subst hd
       exact lw_arc (lw_line h _ _ _) _ _ _ _ _ _ _ _
     · cases hd
   · cases hd
 split at hd
 · cases hd
 · obtain ⟨d', h1, h2⟩ := Option.map_eq_some_iff.1 hd
   subst h2
   unfold fbT at h1
   split at h1
   · cases h1
   split at h1
   · cases h1
   unfold fbDraw at h1
   split at h1
   · split at h1
     · cases h1
     · injection h1 with h1
       subst h1
       exact lw_arc (lw_arc (lw_line h _ _ _) _ _ _ _ _ _ _ _) _ _ _ _ _ _ _ _
   · cases h1
theorem lw_cont {l : List En} {rad : Int} : ∀ (r : List Tk) (first done : Bool) (d : Dw), LW d → LW (contG l rad first done d r).1
 | [], first, done, d, h => h
 | x :: r, first, done, d, h => by
   have hp := lw_pen (l := l) (first := first) (done := done) (x := x) h
   by_cases h2 : x.k = 2
   · rw [cont_arc h2]
     exact lw_cont r _ _ _ (lw_arc hp _ _ _ _ _ _ _ _)
   by_cases h3 : x.k = 3
   · by_cases hb : (paT rad (penW l first done d x) (lgAt l x) x).1 = 0
     · rw [cont_pat h3 hb]
       exact lw_cont r _ _ _ (lw_pa hp)
     · rw [cont_bad h3 hb]
       exact h
   cases r with
   | nil =>
     rw [cont_last h2 h3]
     exact lw_line hp _ _ _
   | cons y r =>
     by_cases hn : y.g = true ∨ trT rad (penW l first done d x) (lgAt l x) (lgAt l y) x y = none
     · rw [cont_line h2 h3 hn]
       exact lw_cont (y :: r) _ _ _ (lw_line hp _ _ _)
     · have hg : y.g = false := by
        cases hg : y.g with
        | false => rfl
        | true => exact absurd (.inl hg) hn
       obtain ⟨⟨d', y'⟩, hq⟩ : ∃ q, trT rad (penW l first done d x) (lgAt l x) (lgAt l y) x y = some q := Option.ne_none_iff_exists'.1 (fun e => hn (.inr e))
       rw [cont_tr h2 h3 hg hq]
       exact lw_cont (y' :: r) _ _ _ (lw_tr hp hq)
termination_by r => r.length
theorem sumL_lw : ∀ {l : List El}, (∀ x ∈ l, elL x) → 0 ≤ sumL l ∧ sumL l ≤ 60000000 * l.length
 | [], h => by simp [sumL]
 | x :: l, h => by
   have a := h x List.mem_cons_self
   have b := sumL_lw (l := l) (fun y hy => h y (List.mem_cons_of_mem _ hy))
   unfold elL at a
   rw [sumL_cons, List.length_cons]
   omega
theorem build_500 {l : List En} {fx fy : Int} {R : Int × Int} {T : List Tk × Int × Int} : (buildT l fx fy R T).1.length ≤ 500 := by
 unfold buildT
 split
 · exact Nat.zero_le _
 split
 · exact Nat.zero_le _
 split
 · exact Nat.zero_le _
 split
 · exact Nat.zero_le _
 split
 · exact Nat.zero_le _
 · rename_i h
   dsimp only
   generalize (buildG l R.1 true false ⟨[], fx, fy, false⟩ _ _).1.els.length = n at *
   omega
end Go.Proofs.YtbhpklpkcgcmfaaGreatDoor
/-
  Behind a pattern a path that is built is at its fix again. No program.
-/
namespace Go.Proofs.YtbhpklpkcgcmfaaGreatDoor
set_option linter.unusedVariables false
structure Keep (S : List El → Prop) (P : Int → Prop) : Prop where
 add : ∀ (l : List El) (x : El), S l → P x.n → S (l ++ [x])
section
variable {S : List El → Prop} {P : Int → Prop}
theorem kp_add (K : Keep S P) {d : Dw} {x : El} (h : S d.els) (hx : P x.n) : S (addW d x).els := K.add _ { x with g := d.gp } h hx
theorem kp_line (K : Keep S P) {d : Dw} (h : S d.els) (qx qy : Int) {n : Int} (hn : P n) : S (lineW d qx qy n).els := by
 unfold lineW
 split
 · exact h
 · exact kp_add K h hn
theorem kp_arc (K : Keep S P) {d : Dw} (h : S d.els) (cx cy r f s qx qy : Int) {n : Int} (hn : P n) : S (arcD d cx cy r f s qx qy n).els := by
 unfold arcD
 split
 · exact kp_add K h hn
 · exact kp_line K h _ _ hn
theorem kp_all (K : Keep S P) {n : Int} (hn : P n) : ∀ (l : List El) (d : Dw), S d.els → S (allW n d l).els
 | [], d, h => h
 | x :: r, d, h => by
   unfold allW
   refine kp_all K hn r _ ?_
   split
   · exact kp_add K h hn
   · exact h
theorem kp_down {l : List En} {first : Bool} {d : Dw} {x : Tk} (h : S d.els) : S (downW l first d x).els := by
 unfold downW
 split <;> exact h
theorem kp_pen (K : Keep S P) {l : List En} {first done : Bool} {d : Dw} {x : Tk} (h : S d.els) (hx : P x.n) : S (penW l first done d x).els := by
 rw [penW_eq]
 split
 · exact kp_down h
 · exact kp_line K (kp_down h) _ _ hx
theorem kp_tr (K : Keep S P) {rad : Int} {d : Dw} {lx ly : En} {x y : Tk} {r : Dw × Tk} (h : S d.els) (hx : P x.n) (hy : P y.n) (hd : trT rad d lx ly x y = some r) : S r.1.els ∧ r.2.n = y.n := by
 unfold trT at hd
 split at hd
 · cases hd
 split at hd
 · split at hd
   · unfold foT at hd
     dsimp only at hd
     split at hd
     · cases hd
     split at hd
     · cases hd
     split at hd
     · cases hd
     split at hd
     · cases hd
     split at hd
     · injection hd with hd
       subst hd
       refine ⟨kp_arc K (kp_line K h _ _ hx) _ _ _ _ _ _ _ hy, ?_⟩
       dsimp only
       split <;> rfl
     · cases hd
   · cases hd
 split at hd
 · cases hd
 · obtain ⟨d', h1, h2⟩ := Option.map_eq_some_iff.1 hd
   subst h2
   refine ⟨?_, rfl⟩
   unfold fbT at h1
   split at h1
   · cases h1
   split at h1
   · cases h1
   unfold fbDraw at h1
   split at h1
   · split at h1
     · cases h1
     · injection h1 with h1
       subst h1
       exact kp_arc K (kp_arc K (kp_line K h _ _ hx) _ _ _ _ _ _ _ hx) _ _ _ _ _ _ _ hy
   · cases h1
theorem kp_pa (K : Keep S P) {rad : Int} {d : Dw} {lx : En} {x : Tk} (h : S d.els) (hx : P x.n) : S (paT rad d lx x).2.els := by
 unfold paT
 split
 · exact kp_all K hx _ _ h
 · split
   · exact h
   · exact kp_all K hx _ _ h
theorem kp_cont (K : Keep S P) {l : List En} {rad : Int} : ∀ (r : List Tk) (first done : Bool) (d : Dw) (x : Tk), S d.els → P x.n → (∀ y ∈ r, P y.n) → S (buildG l rad first done d x r).1.els
 | [], first, done, d, x, h, hx, hr => by
   have hpen := kp_pen K (l := l) (first := first) (done := done) h hx
   unfold buildG
   split
   · exact kp_arc K hpen _ _ _ _ _ _ _ hx
   · split
     · split
       · exact h
       · exact kp_pa K hpen hx
     · exact kp_line K hpen _ _ hx
 | y :: r, first, done, d, x, h, hx, hr => by
   have hpen := kp_pen K (l := l) (first := first) (done := done) h hx
   have hry := hr y (.head _)
   have hrr := fun z hz => hr z (.tail _ hz)
   unfold buildG
   split
   · exact kp_cont K r _ _ _ _ (kp_arc K hpen _ _ _ _ _ _ _ hx) hry hrr
   · split
     · split
       · exact h
       · exact kp_cont K r _ _ _ _ (kp_pa K hpen hx) hry hrr
     · generalize hq : (if y.g = true then none else trT rad (penW l first done d x) (lgAt l x) (lgAt l y) x y) = q
       cases q with
       | none => exact kp_cont K r _ _ _ _ (kp_line K hpen _ _ hx) hry hrr
       | some q =>
         obtain ⟨d', y'⟩ := q
         have hq2 : trT rad (penW l first done d x) (lgAt l x) (lgAt l y) x y = some (d', y') := by
          split at hq
          · cases hq
          · exact hq
         obtain ⟨v1, v2⟩ := kp_tr K hpen hx hry hq2
         dsimp only at v1 v2 ⊢
         exact kp_cont K r _ _ _ _ v1 (by rw [v2]; exact hry) hrr
end
def fil (i : Int) (l : List El) : List El := l.filter (fun e => decide (e.n = i))
theorem fil_app (i : Int) (l m : List El) : fil i (l ++ m) = fil i l ++ fil i m := List.filter_append ..
theorem fil_no {i : Int} {l : List El} (h : ∀ e ∈ l, e.n ≠ i) : fil i l = [] := by
 unfold fil
 rw [List.filter_eq_nil_iff]
 intro e he
 simpa using h e he
theorem fil_all {i : Int} {l : List El} (h : ∀ e ∈ l, e.n = i) : fil i l = l := by
 unfold fil
 rw [List.filter_eq_self]
 intro e he
 simpa using h e he
def HoldOK (i ex ey : Int) (l : List El) : Prop := ∃ a b, (fil i l).head? = some a ∧ (fil i l).getLast? = some b ∧ ((a.ax = ex ∧ a.ay = ey) ∨ (a.bx = ex ∧ a.b_y = ey)) ∧ (b.bx = ex ∧ b.b_y = ey)
theorem keep_hold (i ex ey : Int) : Keep (HoldOK i ex ey) (i < ·) := ⟨fun l x h hx => by
 unfold HoldOK at h ⊢
 rw [fil_app, fil_no (l := [x]) (fun e he => by rw [List.mem_singleton.1 he]; omega), List.append_nil]
 exact h⟩
theorem keep_lt (i : Int) : Keep (fun l => ∀ e ∈ l, e.n < i) (· < i) := ⟨fun l x h hx e he => by
 rcases List.mem_append.1 he with he | he
 · exact h e he
 · rw [List.mem_singleton.1 he]
   exact hx⟩
theorem all_out (n : Int) : ∀ (L : List El) (d : Dw), chain d.px d.py L → ∃ E, (allW n d L).els = d.els ++ E ∧ (∀ e ∈ E, e.n = n) ∧ (∀ a, E.head? = some a → a.ax = d.px ∧ a.ay = d.py) ∧ (∀ b, E.getLast? = some b → (allW n d L).px = b.bx ∧ (allW n d L).py = b.b_y) ∧
 (E = [] → (allW n d L).px = d.px ∧ (allW n d L).py = d.py) ∧ ((∃ x ∈ L, 1 ≤ x.L) → E ≠ []) ∧ (∀ x, L.getLast? = some x → (allW n d L).px = x.bx ∧ (allW n d L).py = x.b_y)
 | [], d, _ => ⟨[], by simp [allW], (fun e he => by cases he), (fun a ha => by cases ha), (fun a ha => by cases ha), (fun _ => ⟨rfl, rfl⟩), (fun ⟨x, hx, _⟩ => by cases hx), (fun a ha => by cases ha)⟩
 | x :: r, d, hc => by
   obtain ⟨h1, h2, h3, h4⟩ := hc
   by_cases hl : 1 ≤ x.L
   · have e0 : allW n d (x :: r) = allW n (addW d { x with n := n }) r := by
      show allW n (if 1 ≤ x.L then addW d { x with n := n } else d) r = _
      rw [if_pos hl]
     rw [e0]
     obtain ⟨E, a1, a2, a3, a4, a5, a6, a7⟩ := all_out n r (addW d { x with n := n }) h4
     refine ⟨{ x with n := n, g := d.gp } :: E, ?_, ?_, ?_, ?_, ?_, ?_, ?_⟩
     · rw [a1]
       show (d.els ++ [_]) ++ E = d.els ++ (_ :: E)
       rw [List.append_assoc]
       rfl
     · intro e he
       rcases List.mem_cons.1 he with rfl | he
       · rfl
       · exact a2 e he
     · intro a ha
       injection ha with ha
       subst ha
       exact ⟨h1, h2⟩
     · intro b hb
       cases E with
       | nil =>
         injection hb with hb
         subst hb
         exact a5 rfl
       | cons y E =>
         rw [List.getLast?_cons_cons] at hb
         exact a4 b hb
     · intro e
       cases e
     · intro _ e
       cases e
     · intro z hz
       cases r with
       | nil =>
         injection hz with hz
         subst hz
         exact ⟨rfl, rfl⟩
       | cons y r =>
         rw [List.getLast?_cons_cons] at hz
         exact a7 z hz
   · have e0 : allW n d (x :: r) = allW n d r := by
      show allW n (if 1 ≤ x.L then addW d { x with n := n } else d) r = _
      rw [if_neg hl]
     have h5 := h3 (by omega)
     rw [e0]
     rw [h5.1, h5.2, h1, h2] at h4
     obtain ⟨E, a1, a2, a3, a4, a5, a6, a7⟩ := all_out n r d h4
     refine ⟨E, a1, a2, a3, a4, a5, ?_, ?_⟩
     · rintro ⟨z, hz, hz2⟩
       rcases List.mem_cons.1 hz with rfl | hz
       · exact absurd hz2 hl
       · exact a6 ⟨z, hz, hz2⟩
     · intro z hz
       cases r with
       | nil =>
         obtain rfl : x = z := by simpa using hz
         show d.px = _ ∧ d.py = _
         rw [h5.1, h5.2, h1, h2]
         exact ⟨rfl, rfl⟩
       | cons y r =>
         rw [List.getLast?_cons_cons] at hz
         exact a7 z hz
theorem pa_list {rad : Int} {d : Dw} {lx : En} {x : Tk} (he : (paT rad d lx x).1 = 0) : ∃ L, (paT rad d lx x).2 = allW x.n d L ∧ chain x.ax x.ay L ∧ (∃ y ∈ L, 1 ≤ y.L) ∧ (∃ z, L.getLast? = some z ∧ z.bx = x.ax ∧ z.b_y = x.ay) := by
 unfold paT at he ⊢
 by_cases h1 : lx.ty = 17
 · rw [if_pos h1] at he ⊢
   refine ⟨_, rfl, chain_rev he, ?_, ?_⟩
   · unfold revE at he ⊢
     split at he
     · cases he
     rename_i h1
     rw [if_neg h1]
     split at he
     · cases he
     rename_i h2
     rw [if_neg h2]
     dsimp only at he ⊢
     split at he
     · rename_i h3
       rw [if_pos h3]
       obtain ⟨a1, a2, a3, a4, a5⟩ := h3
       have hq := qtr2 lx.tn
       exact ⟨_, .tail _ (.tail _ (.head _)), half_len (ray_v a3) (by omega) (by omega) (by omega)⟩
     · cases he
   · unfold revE at he ⊢
     split at he
     · cases he
     rename_i h1
     rw [if_neg h1]
     split at he
     · cases he
     rename_i h2
     rw [if_neg h2]
     dsimp only at he ⊢
     split at he
     · rename_i h3
       rw [if_pos h3]
       exact ⟨_, rfl, rfl, rfl⟩
     · cases he
 · rw [if_neg h1] at he ⊢
   by_cases h2 : shpE x.ax x.ay lx.crs lx.tn lx.dst rad = 0
   · rw [if_neg (by rw [h2]; simp)]
     refine ⟨_, rfl, chain_ent _ h2, ?_, ?_⟩
     · obtain ⟨hf, hr, v1, v2, v3, vc, vd⟩ := shp_ok h2
       exact ⟨_, List.mem_append_right _ (.head _), half_len vc hr.1 (by omega) (qtr2 _)⟩
     · have : ∀ (a b c e : El) (l : List El), (l ++ [a, b, c, e]).getLast? = some e := fun a b c e l => by
        rw [show l ++ [a, b, c, e] = (l ++ [a, b, c]) ++ [e] by simp, List.getLast?_concat]
       exact ⟨_, this _ _ _ _ _, rfl, rfl⟩
   · rw [if_pos h2] at he
     exact absurd he h2
theorem pat_out {l : List En} {rad : Int} {first : Bool} {d : Dw} {x : Tk} (hlt : ∀ e ∈ d.els, e.n < x.n) (he : (paT rad (penW l first false d x) (lgAt l x) x).1 = 0) : HoldOK x.n x.ax x.ay (paT rad (penW l first false d x) (lgAt l x) x).2.els := by
 obtain ⟨L, e1, e2, e3, z, e4, e5, e6⟩ := pa_list he
 rw [e1]
 have hp := pen_pen l first d x
 rw [← hp.1, ← hp.2] at e2
 obtain ⟨E, a1, a2, a3, a4, a5, a6, a7⟩ := all_out x.n L (penW l first false d x) e2
 have hE := a6 e3
 obtain ⟨p, E', rfl⟩ : ∃ p E', E = p :: E' := by
  cases E with
  | nil => exact absurd rfl hE
  | cons p E' => exact ⟨p, E', rfl⟩
 obtain ⟨b, hb⟩ : ∃ b, (p :: E').getLast? = some b := ⟨_, List.getLast?_eq_some_getLast (by simp)⟩
 have hb2 := a4 b hb
 have hz := a7 z e4
 have hbe : b.bx = x.ax ∧ b.b_y = x.ay := ⟨by rw [← hb2.1, hz.1, e5], by rw [← hb2.2, hz.2, e6]⟩
 unfold HoldOK
 rw [a1, fil_app, fil_all a2]
 have hd : fil x.n (downW l first d x).els = [] := fil_no (fun e he => by have := kp_down (S := fun l => ∀ e ∈ l, e.n < x.n) (l := l) (first := first) (x := x) hlt e he; omega)
 have hlast : ∀ G : List El, (G ++ p :: E').getLast? = some b := fun G => by
  rw [List.getLast?_append, hb]
  rfl
 rw [penW_eq, if_neg (by simp)] at hp ⊢
 rw [penW_eq, if_neg (by simp)] at a3
 unfold lineW at hp a3 ⊢
 split
 · rename_i hq
   rw [if_pos hq] at a3
   rw [hd, List.nil_append]
   exact ⟨p, b, rfl, hb, .inl (by have := a3 p rfl; rw [hq.1, hq.2] at this; exact this), hbe⟩
 · rename_i hq
   show ∃ a c, (fil x.n ((downW l first d x).els ++ [_]) ++ p :: E').head? = _ ∧ _
   rw [fil_app, hd, List.nil_append]
   rw [fil_all (fun e he => by rw [List.mem_singleton.1 he])]
   exact ⟨_, b, rfl, hlast _, .inr ⟨rfl, rfl⟩, hbe⟩
theorem hold_at {l : List En} {rad : Int} {d1 : Dw} {x : Tk} {r : List Tk} (h : HoldOK x.n x.ax x.ay d1.els) (hr : ∀ y ∈ r, x.n < y.n) : HoldOK x.n x.ax x.ay (contG l rad false false d1 r).1.els := by
 cases r with
 | nil => exact h
 | cons y r => exact kp_cont (keep_hold _ _ _) r _ _ _ _ h (hr y (.head _)) (fun z hz => hr z (.tail _ hz))
def Rises : List Tk → Prop
 | [] => True
 | x :: r => (∀ y ∈ r, x.n < y.n) ∧ Rises r
theorem hold_build {l : List En} {rad i ex ey : Int} : ∀ (r : List Tk) (first done : Bool) (d : Dw), (∀ e ∈ d.els, e.n < i) → (done = true → ∀ x, r.head? = some x → x.k ≠ 3) → Rises r → (∃ t ∈ r, t.n = i) → (∀ t ∈ r, t.n = i → t.k = 3 ∧ t.ax = ex ∧ t.ay = ey) →
 (contG l rad first done d r).2.2 = 0 → HoldOK i ex ey (contG l rad first done d r).1.els
 | [], first, done, d, hlt, hdn, hR, ⟨t, ht, _⟩, hT, he => by cases ht
 | x :: r, first, done, d, hlt, hdn, hR, hex, hT, he => by
   by_cases hi : x.n = i
   · obtain ⟨k3, e1, e2⟩ := hT x (.head _) hi
     have hd0 : done = false := by
      cases done with
      | false => rfl
      | true => exact absurd k3 (hdn rfl x rfl)
     subst hd0 hi e1 e2
     by_cases hb : (paT rad (penW l first false d x) (lgAt l x) x).1 = 0
     · rw [cont_pat k3 hb]
       exact hold_at (pat_out hlt hb) hR.1
     · rw [cont_bad k3 hb] at he
       exact absurd he hb
   · obtain ⟨t, ht, hti⟩ := hex
     have htr : t ∈ r := by
      rcases List.mem_cons.1 ht with rfl | h
      · exact absurd hti hi
      · exact h
     have hxi : x.n < i := by have := hR.1 t htr; omega
     have hpen : ∀ e ∈ (penW l first done d x).els, e.n < i := kp_pen (keep_lt i) hlt hxi
     have hT' := fun t ht => hT t (.tail _ ht)
     by_cases h2 : x.k = 2
     · rw [cont_arc h2] at he ⊢
       exact hold_build r _ _ _ (kp_arc (keep_lt i) hpen _ _ _ _ _ _ _ hxi) (fun e => by cases e) hR.2 ⟨t, htr, hti⟩ hT' he
     by_cases h3 : x.k = 3
     · by_cases hb : (paT rad (penW l first done d x) (lgAt l x) x).1 = 0
       · rw [cont_pat h3 hb] at he ⊢
         exact hold_build r _ _ _ (kp_pa (keep_lt i) hpen hxi) (fun e => by cases e) hR.2 ⟨t, htr, hti⟩ hT' he
       · rw [cont_bad h3 hb] at he
         exact absurd he hb
     cases r with
     | nil => cases htr
     | cons y r =>
       by_cases hn : y.g = true ∨ trT rad (penW l first done d x) (lgAt l x) (lgAt l y) x y = none
       · rw [cont_line h2 h3 hn] at he ⊢
         exact hold_build (y :: r) _ _ _ (kp_line (keep_lt i) hpen _ _ hxi) (fun e => by cases e) hR.2 ⟨t, htr, hti⟩ hT' he
       · have hg : y.g = false := by
          cases hg : y.g with
          | false => rfl
          | true => exact absurd (.inl hg) hn
         obtain ⟨⟨d', y'⟩, hq⟩ : ∃ q, trT rad (penW l first done d x) (lgAt l x) (lgAt l y) x y = some q := Option.ne_none_iff_exists'.1 (fun e => hn (.inr e))
         have hyk : y.k = 1 := by
          unfold trT at hq
          split at hq
          · cases hq
          · omega
         have hyi : y.n ≠ i := fun e => by have := (hT y (.tail _ (.head _)) e).1; omega
         have htr2 : t ∈ r := by
          rcases List.mem_cons.1 htr with rfl | h
          · exact absurd hti hyi
          · exact h
         have hyi2 : y.n < i := by have := hR.2.1 t htr2; omega
         obtain ⟨v1, v2⟩ := kp_tr (keep_lt i) hpen hxi hyi2 hq
         dsimp only at v1 v2
         have hk := trT_k hq
         dsimp only at hk
         rw [cont_tr h2 h3 hg hq] at he ⊢
         refine hold_build (y' :: r) _ _ _ v1 (fun _ z hz => ?_) ⟨fun z hz => by rw [v2]; exact hR.2.1 z hz, hR.2.2⟩ ⟨t, .tail _ htr2, hti⟩ (fun z hz hzi => ?_) he
         · injection hz with hz
           subst hz
           omega
         · rcases List.mem_cons.1 hz with rfl | hz
           · exact absurd hzi (by rw [v2]; exact hyi)
           · exact hT' z (.tail _ hz) hzi
termination_by r => r.length
theorem step_starts {pv : Option En} {x : En} {lo : Bool} {la : Int} (h : (stepE pv x lo la).1 = 0) (hg : x.gap = false) (hq : gapQ pv = true) : x.ty ≤ 4 := by
 unfold stepE at h
 rw [if_neg (by rw [hg]; simp)] at h
 split at h
 · rename_i h1; exact absurd h h1
 · cases pv with
   | none => cases hq
   | some y =>
     dsimp only at h
     rw [if_pos (show y.gap = true from hq)] at h
     split at h
     · cases h
     · rename_i h2
       have h3 : startsB x.ty = true := by cases hb : startsB x.ty with
        | true => rfl
        | false => exact absurd hb h2
       unfold startsB at h3
       have := of_decide_eq_true h3
       omega
def StartsG : Option En → List En → Prop
 | _, [] => True
 | pv, x :: r => (x.gap = false → gapQ pv = true → x.ty ≤ 4) ∧ StartsG (some x) r
theorem plan_starts : ∀ (l : List En) (pv : Option En) (la : Int), planG pv la l = 0 → StartsG pv l
 | [], pv, la, _ => trivial
 | x :: r, pv, la, h => by
   unfold planG at h
   split at h
   · rename_i h1; exact absurd h h1
   · rename_i h1
     exact ⟨step_starts (Classical.not_not.1 h1), plan_starts r _ _ h⟩
theorem starts_drop : ∀ (n : Nat) (l : List En) (pv : Option En), StartsG pv l → (n = 0 → pv = none) → StartsG none (l.drop n)
 | 0, l, pv, h, h0 => by rw [h0 rfl] at h; exact h
 | n + 1, [], pv, h, _ => trivial
 | n + 1, x :: r, pv, h, _ => by
   cases n with
   | zero =>
     show StartsG none r
     have := h.2
     cases r with
     | nil => trivial
     | cons y r => exact ⟨fun _ hq => absurd (show false = true from hq) (by decide), this.2⟩
   | succ n => exact starts_drop (n + 1) r (some x) h.2 (fun e => by cases e)
theorem tracksG_rises {spd bank oalt gr : Int} : ∀ (l : List En) (pv : Option En) (i : Nat) (fx fy c alt : Int), Rises (tracksG spd bank oalt gr pv i fx fy c alt l).1 ∧ ∀ t ∈ (tracksG spd bank oalt gr pv i fx fy c alt l).1, (i : Int) ≤ t.n
 | [], pv, i, fx, fy, c, alt => ⟨trivial, fun t h => by cases h⟩
 | x :: r, pv, i, fx, fy, c, alt => by
   rcases hg : x.gap with _ | _
   · by_cases he : (trackE pv fx fy c alt x (nextE r) spd bank oalt gr).2 = 0
     · obtain ⟨T, hT⟩ : ∃ T, trackE pv fx fy c alt x (nextE r) spd bank oalt gr = (T, 0) := ⟨_, Prod.ext rfl he⟩
       rw [tracksG_leg hg hT]
       unfold joinT
       split
       · exact ⟨trivial, fun t h => by cases h⟩
       · have ih := tracksG_rises (spd := spd) (bank := bank) (oalt := oalt) (gr := gr) r (some x) (i + 1) T.bx T.b_y T.co (upAlt x alt)
         refine ⟨⟨fun y hy => ?_, ih.1⟩, fun t ht => ?_⟩
         · have := ih.2 y hy
           show (i : Int) < y.n
           omega
         · rcases List.mem_cons.1 ht with rfl | ht
           · exact Int.le_refl _
           · have := ih.2 t ht
             omega
     · obtain ⟨T, e, hT⟩ : ∃ T e, trackE pv fx fy c alt x (nextE r) spd bank oalt gr = (T, e) := ⟨_, _, rfl⟩
       rw [hT] at he
       rw [tracksG_err hg hT he]
       exact ⟨trivial, fun t h => by cases h⟩
   · rw [tracksG_gap hg]
     have ih := tracksG_rises (spd := spd) (bank := bank) (oalt := oalt) (gr := gr) r (some x) (i + 1) fx fy c alt
     exact ⟨ih.1, fun t ht => by have := ih.2 t ht; omega⟩
theorem tracksG_pat {spd bank oalt gr : Int} : ∀ (l : List En) (pv : Option En) (i : Nat) (fx fy c alt : Int) (j : Nat) (x : En), StartsG pv l → l[j]? = some x → x.gap = false → 14 ≤ x.ty → (tracksG spd bank oalt gr pv i fx fy c alt l).2.2 = 0 →
 (∃ t ∈ (tracksG spd bank oalt gr pv i fx fy c alt l).1, t.n = ((i + j : Nat) : Int)) ∧ ∀ t ∈ (tracksG spd bank oalt gr pv i fx fy c alt l).1, t.n = ((i + j : Nat) : Int) → t.k = 3 ∧ t.ax = x.ex ∧ t.ay = x.ey
 | [], pv, i, fx, fy, c, alt, j, x, hS, hx, hg, ht, he => by cases hx
 | z :: r, pv, i, fx, fy, c, alt, j, x, hS, hx, hg, ht, he => by
   rcases hz : z.gap with _ | _
   · by_cases hte : (trackE pv fx fy c alt z (nextE r) spd bank oalt gr).2 = 0
     · obtain ⟨T, hT⟩ : ∃ T, trackE pv fx fy c alt z (nextE r) spd bank oalt gr = (T, 0) := ⟨_, Prod.ext rfl hte⟩
       rw [tracksG_leg hz hT] at he ⊢
       have hr0 : (tracksG spd bank oalt gr (some z) (i + 1) T.bx T.b_y T.co (upAlt z alt) r).2.2 = 0 := by
        unfold joinT at he
        split at he
        · exact he
        · rename_i h1; exact Classical.not_not.1 h1
       unfold joinT
       rw [if_neg (by rw [hr0]; simp)]
       have hup := (tracksG_rises (spd := spd) (bank := bank) (oalt := oalt) (gr := gr) r (some z) (i + 1) T.bx T.b_y T.co (upAlt z alt)).2
       cases j with
       | zero =>
         injection hx with hx
         subst hx
         refine ⟨⟨_, .head _, rfl⟩, fun t htm htn => ?_⟩
         rcases List.mem_cons.1 htm with rfl | htm
         · have hq : gapQ pv = false := by
            cases hq : gapQ pv with
            | false => rfl
            | true => have := hS.1 hz hq; omega
           unfold trackE at hT
           rw [if_neg (by rw [hq]; simp)] at hT
           obtain ⟨_, _, _, _, _, hL⟩ := resolve_ok2 hT
           unfold legT at hL
           rw [if_neg (by omega), if_neg (by omega), if_neg (by omega), if_neg (by omega), if_neg (by omega), if_neg (by omega), if_neg (by omega), if_neg (by omega), if_neg (by omega), if_neg (by omega), if_neg (by omega)] at hL
           injection hL with hL _
           subst hL
           exact ⟨rfl, rfl, rfl⟩
         · have := hup t htm
           omega
       | succ j =>
         have ih := tracksG_pat r (some z) (i + 1) T.bx T.b_y T.co (upAlt z alt) j x hS.2 (by simpa using hx) hg ht hr0
         rw [show i + (j + 1) = i + 1 + j by omega]
         obtain ⟨⟨t, h1, h2⟩, h3⟩ := ih
         refine ⟨⟨t, .tail _ h1, h2⟩, fun t htm htn => ?_⟩
         rcases List.mem_cons.1 htm with rfl | htm
         · exfalso
           have : (i : Int) = ((i + 1 + j : Nat) : Int) := htn
           omega
         · exact h3 t htm htn
     · obtain ⟨T, e, hT⟩ : ∃ T e, trackE pv fx fy c alt z (nextE r) spd bank oalt gr = (T, e) := ⟨_, _, rfl⟩
       rw [hT] at hte
       rw [tracksG_err hz hT hte] at he
       exact absurd he hte
   · rw [tracksG_gap hz] at he ⊢
     cases j with
     | zero =>
       injection hx with hx
       subst hx
       rw [hz] at hg
       cases hg
     | succ j =>
       rw [show i + (j + 1) = i + 1 + j by omega]
       exact tracksG_pat r (some z) (i + 1) fx fy c alt j x hS.2 (by simpa using hx) hg ht he
theorem holds_law {pa pb : ByteArray} {l : List En} {act fx fy c spd bank oalt gr : Int} {R : Int × Int} (h : (buildT l fx fy R (tracksF pa pb l act fx fy c spd bank oalt gr)).2.2 = 0) {i : Nat} {x : En} (hx : l[i]? = some x) (hg : x.gap = false) (ht : 14 ≤ x.ty) (hi : act ≤ (i : Int)) :
 HoldOK (i : Int) x.ex x.ey (buildT l fx fy R (tracksF pa pb l act fx fy c spd bank oalt gr)).1 := by
 have hT : (tracksF pa pb l act fx fy c spd bank oalt gr).2.2 = 0 := by
  unfold buildT at h
  by_cases h1 : (tracksF pa pb l act fx fy c spd bank oalt gr).2.2 ≠ 0
  · rw [if_pos h1] at h; exact absurd h h1
  · exact Classical.not_not.1 h1
 obtain ⟨hp, hv, hG⟩ := tracksF_ok hT
 rw [hG] at h hT ⊢
 have hbi : beginN act ≤ i := by unfold beginN; omega
 have hx2 : (l.drop (beginN act))[i - beginN act]? = some x := by rw [List.getElem?_drop, show beginN act + (i - beginN act) = i by omega]; exact hx
 have hS := starts_drop (beginN act) l none (plan_starts l none 0 (plan_of hp).1) (fun _ => rfl)
 have hR := (tracksG_rises (spd := spd) (bank := bank) (oalt := oalt) (gr := gr) (l.drop (beginN act)) none (beginN act) fx fy c oalt).1
 obtain ⟨he, hP⟩ := tracksG_pat (l.drop (beginN act)) none (beginN act) fx fy c oalt (i - beginN act) x hS hx2 hg ht hT
 rw [show beginN act + (i - beginN act) = i by omega] at he hP
 unfold buildT at h ⊢
 rw [if_neg (by rw [hT]; simp)] at h ⊢
 by_cases hR0 : R.2 ≠ 0
 · rw [if_pos hR0] at h; exact absurd h hR0
 rw [if_neg hR0] at h ⊢
 generalize (tracksG spd bank oalt gr none (beginN act) fx fy c oalt (l.drop (beginN act))).1 = T at *
 cases T with
 | nil => obtain ⟨t, h1, _⟩ := he; cases h1
 | cons y r =>
   dsimp only at h ⊢
   by_cases h1 : (buildG l R.1 true false ⟨[], fx, fy, false⟩ y r).2.2 ≠ 0
   · rw [if_pos h1] at h; exact absurd h h1
   rw [if_neg h1] at h ⊢
   by_cases h2 : ((buildG l R.1 true false ⟨[], fx, fy, false⟩ y r).1.els.length : Int) > 500
   · rw [if_pos h2] at h; cases h
   rw [if_neg h2]
   exact hold_build (y :: r) true false ⟨[], fx, fy, false⟩ (fun e he => by cases he) (fun e => by cases e) hR he hP (Classical.not_not.1 h1)
end Go.Proofs.YtbhpklpkcgcmfaaGreatDoor
