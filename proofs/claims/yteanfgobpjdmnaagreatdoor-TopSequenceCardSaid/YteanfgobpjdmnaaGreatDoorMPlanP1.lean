/-
  Chapter 21 as plain functions: places, ways, which legs follow which, the check of a plan. No program.
-/
import Derived.Test.YteanfgobpjdmnaaGreatDoorMStrP
namespace Go.Proofs.YteanfgobpjdmnaaGreatDoor
set_option linter.unusedVariables false
def Jc (l : List UInt8) (b : UInt8) (m : Int) : Bool :=
 match Kb b l with
 | none => yY l m
 | some (x, y) => yY x m && yY y m
def xm (s : ByteArray) : Bool := decide (s.data.toList = []) || Jc s.data.toList 47 6
def ig (s : ByteArray) : Bool := decide (s.data.toList = []) || Jc s.data.toList 46 8
def bd (t : Int) : Bool := decide (t = 1 ∨ t = 3 ∨ t = 4)
def Tc (t : Int) : Bool := decide ((1 ≤ t ∧ t ≤ 6) ∨ (14 ≤ t ∧ t ≤ 17))
def Td (t : Int) : Bool := decide (11 ≤ t ∧ t ≤ 17)
def bN (a b : Int) : Bool :=
 decide ((1 ≤ a ∧ a ≤ 17) ∧ (1 ≤ b ∧ b ≤ 17) ∧ ((a ≤ 6 ∧ b ≠ 1) ∨ (a = 9 ∧ b = 3) ∨ (14 ≤ a ∧ (b = 2 ∨ b = 3 ∨ b = 4 ∨ (7 ≤ b ∧ b ≤ 13))) ∨ ((a = 7 ∨ a = 8 ∨ a = 10 ∨ a = 11 ∨ a = 12) ∧ (b = 3 ∨ b = 4 ∨ (7 ≤ b ∧ b ≤ 10)))))
def VW (y x : En) : Bool := bN y.ty x.ty && (!Td x.ty || decide (y.fx = x.fx))
def tJ (y x : En) : Bool := Tc y.ty && decide (y.fx = x.fx)
def vW (x : En) : Int :=
 if jn x ≠ 0 then jn x else if x.sec < 1 ∨ x.sec > 5 then 17 else if ig x.via = false then 5 else
 if (qf x.ex x.ey && qf x.mx x.my) = false then 2 else
 if (x.fx = ⟨#[]⟩ ∧ ¬ (x.ex = 0 ∧ x.ey = 0)) ∨ (x.ct = ⟨#[]⟩ ∧ ¬ (x.mx = 0 ∧ x.my = 0)) then 1 else 0
def JN : En := ⟨true, 0, ⟨#[]⟩, ⟨#[]⟩, 0, false, 0, 0, 0, 0, 0, 0, 0, 0, 0, 0, 0, 0, 0, ⟨#[]⟩⟩
def zZ (x : En) : Bool :=
 decide (x.ty = 0) && decide (x.fx = ⟨#[]⟩) && decide (x.ct = ⟨#[]⟩) && decide (x.tn = 0) && !x.ov && decide (x.crs = 0 ∧ x.dst = 0 ∧ x.rad = 0 ∧ x.tht = 0 ∧ x.lo = 0 ∧ x.hi = 0 ∧ x.spd = 0 ∧ x.rnp = 0 ∧ x.ex = 0 ∧ x.ey = 0 ∧ x.mx = 0 ∧ x.my = 0 ∧ x.sec = 0) && decide (x.via = ⟨#[]⟩)
def Te : Option En → Bool
 | none => true
 | some y => y.gap
def yG (pv : Option En) (x : En) (lastOne : Bool) (last : Int) : Int × Int :=
 if x.gap = true then (if zZ x = false then (1, last) else if (lastOne || Te pv) = true then (9, last) else (0, last))
 else if vW x ≠ 0 then (vW x, last)
 else match pv with
  | none => if bd x.ty = false then (9, last) else if x.sec < last then (9, last) else (0, x.sec)
  | some y => if y.gap = true then (if bd x.ty = false then (9, last) else if x.sec < last then (9, last) else (0, x.sec))
    else if VW y x = false then (9, last) else if (x.ty = 2 ∨ x.ty = 4) ∧ tJ y x = true then (7, last) else if x.sec < last then (9, last) else (0, x.sec)
def yN : Option En → Int → List En → Int
 | _, _, [] => 0
 | pv, last, x :: r => if (yG pv x r.isEmpty last).1 ≠ 0 then (yG pv x r.isEmpty last).1 else yN (some x) (yG pv x r.isEmpty last).2 r
def Jd (l : List En) (i : Int) : Bool :=
 match l[i.toNat]? with
 | some x => x.gap
 | none => false
def jN (a b : ByteArray) (l : List En) (act : Int) : Int :=
 if (xm a && xm b) = false then 5 else if (l.length : Int) > 60 then 3 else if yN none 0 l ≠ 0 then yN none 0 l else
 if act ≠ -1 ∧ (act < 0 ∨ act ≥ l.length ∨ Jd l act = true) then 2 else 0
theorem ij {s x y : ByteArray} {b : UInt8} (h : QU s b x y false) (m : Int) : Jc s.data.toList b m = yY x.data.toList m := by
 rcases h with ⟨h, _⟩ | ⟨_, h, rfl, _⟩
 · cases h
 · unfold Jc; rw [h]
theorem ik {s x y : ByteArray} {b : UInt8} (h : QU s b x y true) (m : Int) : Jc s.data.toList b m = (yY x.data.toList m && yY y.data.toList m) := by
 rcases h with ⟨_, h, _⟩ | ⟨h, _⟩
 · unfold Jc; rw [h]
 · cases h
def vz (l : List En) (k : Nat) : Option En := if k = 0 then none else l[k - 1]?
theorem Tf {l : List En} {k : Nat} {x : En} (h : l[k]? = some x) (last : Int) :
 yN (vz l k) last (l.drop k) = if (yG (vz l k) x (decide (k + 1 = l.length)) last).1 ≠ 0 then (yG (vz l k) x (decide (k + 1 = l.length)) last).1 else yN (vz l (k + 1)) (yG (vz l k) x (decide (k + 1 = l.length)) last).2 (l.drop (k + 1)) := by
 obtain ⟨hk, rfl⟩ := List.getElem?_eq_some_iff.1 h
 rw [List.drop_eq_getElem_cons hk]
 have e1 : vz l (k + 1) = some l[k] := by
  unfold vz
  rw [if_neg (by omega), Nat.add_sub_cancel]
  exact h
 have e2 : (l.drop (k + 1)).isEmpty = decide (k + 1 = l.length) := by
  rw [Bool.eq_iff_iff]
  simp
  omega
 rw [e1]
 show (if _ then _ else _) = _
 rw [e2]
theorem fE {l : List En} {k : Nat} (h : l.length ≤ k) (last : Int) : yN (vz l k) last (l.drop k) = 0 := by
 rw [List.drop_of_length_le h]
 rfl
def Zk : Option En → Bool
 | none => false
 | some y => y.gap
def Uv (x : En) (c : Int) : Tk := ⟨1, x.ex, x.ey, x.ex, x.ey, 0, 0, 0, 0, 0, if x.ty = 3 then x.crs else c, if x.ty = 3 then x.crs else c, 0, 0, true⟩
def qP (pv : Option En) (fx fy c alt : Int) (x y : En) (spd bank oalt gr : Int) : Tk × Int :=
 if Zk pv = true then (Uv x c, 0) else qg fx fy c alt x y spd bank oalt gr
def kN (x : En) (alt : Int) : Int := if x.ty = 7 ∨ x.ty = 11 ∨ x.ty = 14 then max alt x.lo else alt
def zH (r : List En) : En := r.headD JN
def qU (spd bank oalt gr : Int) : Option En → Nat → Int → Int → Int → Int → List En → List Tk × Int × Int
 | _, _, _, _, _, _, [] => ([], 0, 0)
 | pv, i, fx, fy, c, alt, x :: r =>
   if x.gap = true then qU spd bank oalt gr (some x) (i + 1) fx fy c alt r else
   if (qP pv fx fy c alt x (zH r) spd bank oalt gr).2 ≠ 0 then ([], (i : Int), (qP pv fx fy c alt x (zH r) spd bank oalt gr).2) else
   if (qU spd bank oalt gr (some x) (i + 1) (qP pv fx fy c alt x (zH r) spd bank oalt gr).1.bx (qP pv fx fy c alt x (zH r) spd bank oalt gr).1.b_y (qP pv fx fy c alt x (zH r) spd bank oalt gr).1.co (kN x alt) r).2.2 ≠ 0 then
    ([], (qU spd bank oalt gr (some x) (i + 1) (qP pv fx fy c alt x (zH r) spd bank oalt gr).1.bx (qP pv fx fy c alt x (zH r) spd bank oalt gr).1.b_y (qP pv fx fy c alt x (zH r) spd bank oalt gr).1.co (kN x alt) r).2)
   else ({ (qP pv fx fy c alt x (zH r) spd bank oalt gr).1 with n := (i : Int) } :: (qU spd bank oalt gr (some x) (i + 1) (qP pv fx fy c alt x (zH r) spd bank oalt gr).1.bx (qP pv fx fy c alt x (zH r) spd bank oalt gr).1.b_y (qP pv fx fy c alt x (zH r) spd bank oalt gr).1.co (kN x alt) r).1, 0, 0)
def qN (act : Int) : Nat := (max act 0).toNat
def qO (pa pb : ByteArray) (l : List En) (act fx fy c spd bank oalt gr : Int) : List Tk × Int × Int :=
 if jN pa pb l act ≠ 0 then ([], 0, jN pa pb l act) else if vA spd bank oalt gr ≠ 0 then ([], 0, vA spd bank oalt gr) else
 if qf fx fy = false then ([], 0, 1) else if c < 0 ∨ c ≥ 129600000 then ([], 0, 2) else
 qU spd bank oalt gr none (qN act) fx fy c oalt (l.drop (qN act))
def jY (l : List En) (bn k : Nat) : Option En := if k = bn then none else l[k - 1]?
def yf (ts : List Tk) (r : List Tk × Int × Int) : List Tk × Int × Int := if r.2.2 ≠ 0 then ([], r.2) else (ts ++ r.1, 0, 0)
theorem Yi (ts us : List Tk) (r : List Tk × Int × Int) : yf ts (yf us r) = yf (ts ++ us) r := by
 unfold yf
 by_cases h : r.2.2 ≠ 0
 · rw [if_pos h, if_pos h, if_pos h]
 · rw [if_neg h, if_neg h, if_neg (by simp)]
   simp
theorem Tg {spd bank oalt gr : Int} (pv : Option En) (i : Nat) (fx fy c alt : Int) : qU spd bank oalt gr pv i fx fy c alt [] = ([], 0, 0) := rfl
theorem jw {spd bank oalt gr : Int} {pv : Option En} {i : Nat} {fx fy c alt : Int} {x : En} {r : List En} (h : x.gap = true) : qU spd bank oalt gr pv i fx fy c alt (x :: r) = qU spd bank oalt gr (some x) (i + 1) fx fy c alt r := by
 rw [qU, if_pos h]
theorem jz {spd bank oalt gr : Int} {pv : Option En} {i : Nat} {fx fy c alt e : Int} {x : En} {r : List En} {T : Tk} (h : x.gap = false) (ht : qP pv fx fy c alt x (zH r) spd bank oalt gr = (T, e)) (he : e ≠ 0) : qU spd bank oalt gr pv i fx fy c alt (x :: r) = ([], (i : Int), e) := by
 rw [qU, if_neg (by rw [h]; simp), ht, if_pos he]
theorem jc {spd bank oalt gr : Int} {pv : Option En} {i : Nat} {fx fy c alt : Int} {x : En} {r : List En} {T : Tk} (h : x.gap = false) (ht : qP pv fx fy c alt x (zH r) spd bank oalt gr = (T, 0)) :
 qU spd bank oalt gr pv i fx fy c alt (x :: r) = yf [{ T with n := (i : Int) }] (qU spd bank oalt gr (some x) (i + 1) T.bx T.b_y T.co (kN x alt) r) := by
 rw [qU, if_neg (by rw [h]; simp), ht, if_neg (by simp)]
 rfl
theorem Je {spd bank oalt gr : Int} : ∀ (l : List En) (pv : Option En) (i : Nat) (fx fy c alt : Int), yf [] (qU spd bank oalt gr pv i fx fy c alt l) = qU spd bank oalt gr pv i fx fy c alt l
 | [], pv, i, fx, fy, c, alt => rfl
 | x :: r, pv, i, fx, fy, c, alt => by
   rcases hg : x.gap with _ | _
   · by_cases he : (qP pv fx fy c alt x (zH r) spd bank oalt gr).2 = 0
     · rw [jc (T := (qP pv fx fy c alt x (zH r) spd bank oalt gr).1) hg (Prod.ext rfl he), Yi]
       rfl
     · obtain ⟨T, e, hT⟩ : ∃ T e, qP pv fx fy c alt x (zH r) spd bank oalt gr = (T, e) := ⟨_, _, rfl⟩
       rw [hT] at he
       rw [jz hg hT he]
       exact if_pos he
   · rw [jw hg]
     exact Je r _ _ _ _ _ _
theorem VX (l : List En) (k : Nat) : zH (l.drop k) = (l[k]?).getD JN := by
 unfold zH
 rw [List.headD_eq_head?_getD, List.head?_drop]
theorem Zm {l : List En} {bn k : Nat} {x : En} (hx : l[k]? = some x) (hk : bn ≤ k) : jY l bn (k + 1) = some x := by
 unfold jY
 rw [if_neg (by omega), Nat.add_sub_cancel, hx]
theorem fG {spd bank oalt gr fx fy c alt : Int} {l : List En} {bn k : Nat} {x : En} {ts : List Tk} {R : List Tk × Int × Int} (hx : l[k]? = some x) (hk : bn ≤ k) (hg : x.gap = true) (h : R = yf ts (qU spd bank oalt gr (jY l bn k) k fx fy c alt (l.drop k))) :
 R = yf ts (qU spd bank oalt gr (jY l bn (k + 1)) (k + 1) fx fy c alt (l.drop (k + 1))) := by
 obtain ⟨hlt, he⟩ := List.getElem?_eq_some_iff.1 hx
 rw [h, List.drop_eq_getElem_cons hlt, he, jw hg, Zm hx hk]
theorem fH {spd bank oalt gr fx fy c alt e : Int} {l : List En} {bn k : Nat} {x y : En} {T : Tk} {ts : List Tk} {R : List Tk × Int × Int} (hx : l[k]? = some x) (hy : (l[k + 1]?).getD JN = y) (hg : x.gap = false) (ht : qP (jY l bn k) fx fy c alt x y spd bank oalt gr = (T, e)) (he0 : e ≠ 0)
 (h : R = yf ts (qU spd bank oalt gr (jY l bn k) k fx fy c alt (l.drop k))) : R = ([], (k : Int), e) := by
 obtain ⟨hlt, he⟩ := List.getElem?_eq_some_iff.1 hx
 rw [h, List.drop_eq_getElem_cons hlt, he, jz hg (by rw [VX, hy]; exact ht) he0]
 unfold yf
 rw [if_pos he0]
theorem fI {spd bank oalt gr fx fy c alt : Int} {l : List En} {bn k : Nat} {x y : En} {T : Tk} {ts : List Tk} {R : List Tk × Int × Int} (hx : l[k]? = some x) (hy : (l[k + 1]?).getD JN = y) (hk : bn ≤ k) (hg : x.gap = false) (ht : qP (jY l bn k) fx fy c alt x y spd bank oalt gr = (T, 0))
 (h : R = yf ts (qU spd bank oalt gr (jY l bn k) k fx fy c alt (l.drop k))) : R = yf (ts ++ [{ T with n := (k : Int) }]) (qU spd bank oalt gr (jY l bn (k + 1)) (k + 1) T.bx T.b_y T.co (kN x alt) (l.drop (k + 1))) := by
 obtain ⟨hlt, he⟩ := List.getElem?_eq_some_iff.1 hx
 rw [h, List.drop_eq_getElem_cons hlt, he, jc hg (by rw [VX, hy]; exact ht), Zm hx hk, Yi]
theorem fJ {spd bank oalt gr fx fy c alt : Int} {l : List En} {bn k : Nat} {ts : List Tk} {R : List Tk × Int × Int} (hk : l.length ≤ k) (h : R = yf ts (qU spd bank oalt gr (jY l bn k) k fx fy c alt (l.drop k))) : R = (ts, 0, 0) := by
 rw [h, List.drop_of_length_le hk, Tg]
 unfold yf
 simp
def QL (n : Int) : Prop := -9223372036854775808 ≤ n ∧ n ≤ 9223372036854775807
def TW (p : Tk × Int) : Prop := p.2 = 0 → QL p.1.co
theorem zq {q : Prop} [Decidable q] {a b : Tk × Int} (ha : TW a) (hb : TW b) : TW (if q then a else b) := by
 split <;> assumption
theorem iq {n : Int} (h : 0 ≤ n ∧ n < 129600000) : QL n := by unfold QL; omega
theorem pI (ax ay bx b_y : Int) : QL (qF ax ay bx b_y).1 := by
 unfold qF
 split
 · unfold QL; decide
 · split
   · unfold QL; decide
   · exact iq (uk _ _)
theorem CV : QL 0 := by unfold QL; decide
theorem zE (e : Int) : TW (Tk.zero, e) := fun _ => CV
theorem QF (ax ay : Int) {c : Int} (l : Int) (h : QL c) : TW (kw ax ay c l) := by
 unfold kw
 exact zq (fun _ => h) (zE _)
theorem xo (ax ay bx b_y : Int) {c : Int} (h : QL c) : TW (qY ax ay bx b_y c, 0) := by
 intro _
 unfold qY
 split
 · exact h
 · exact pI _ _ _ _
theorem MW (cx cy r f s d : Int) : QL (qI cx cy r f s d).2.2.1 := by
 unfold qI
 split
 · unfold QL; decide
 split
 · unfold QL; decide
 split
 · exact iq (zM _)
 · unfold QL; decide
theorem Pq (fx fy : Int) (x : En) : TW (jP fx fy x) := by
 unfold jP
 refine zq (zE _) ?_
 split
 · exact zq (zE _) (zq (zE _) (zq (zE _) (fun _ => MW _ _ _ _ _ _)))
 · exact zE _
theorem Pr (fx fy : Int) {c : Int} {x : En} (h : QL c) (hx : QL x.crs) : TW (yS fx fy c x) := by
 unfold yS
 exact zq (zE _) (zq (zE _) (zq (zE _) (zq (xo _ _ _ _ h) (zq (zE _) (fun _ => hx)))))
theorem Ux (fx fy alt : Int) {x : En} (gr : Int) (hx : QL x.crs) : TW (yp fx fy alt x gr) := by
 unfold yp
 exact zq (zE _) (QF _ _ _ hx)
theorem iz (a b : Int) {c : Int} (h : QL c) : TW (uV a b c) := by
 unfold uV
 split
 · rename_i h1
   exact fun _ => QF a b 300000 h h1
 · exact QF _ _ _ h
theorem MZ (fx fy : Int) {x : En} (hx : QL x.crs) : TW (jX fx fy x) := by
 unfold jX
 exact zq (zE _) (zq (zE _) (zq (zE _) (zq (QF _ _ _ hx) (zq (zE _) (QF _ _ _ hx)))))
theorem Da (fx fy : Int) {x : En} (hx : QL x.crs) : TW (vp fx fy x) := by
 unfold vp
 exact zq (zE _) (zq (zE _) (zq (zE _) (zq (zE _) (fun _ => hx))))
theorem Db (fx fy : Int) {x : En} (y : En) (hx : QL x.crs) : TW (yF fx fy x y) := by
 unfold yF
 exact zq (zE _) (zq (zE _) (zq (zE _) (zq (zE _) (zq (zE _) (fun _ => hx)))))
theorem Ps (fx fy alt : Int) {c : Int} {x : En} (y : En) (gr : Int) (h : QL c) (hx : QL x.crs) : TW (vR fx fy c alt x y gr) := by
 unfold vR
 refine zq (xo _ _ _ _ h) (zq (xo _ _ _ _ h) (zq (Pr _ _ h hx) (zq (Pq _ _ _) (zq (Ux _ _ _ _ hx) (zq (Ux _ _ _ _ hx) (zq (QF _ _ _ hx) (zq (iz _ _ hx) (zq (MZ _ _ hx) (zq (Da _ _ hx) (zq (Db _ _ _ hx) (fun _ => ?_)))))))))))
 show QL (if x.ty = 17 then norm (x.crs + 64800000) else x.crs)
 split
 · exact iq (zM _)
 · exact hx
theorem Pt (fx fy alt : Int) {c : Int} {x : En} (y : En) (spd bank oalt gr : Int) (h : QL c) (hx : QL x.crs) : TW (qg fx fy c alt x y spd bank oalt gr) := by
 unfold qg
 exact zq (zE _) (zq (zE _) (zq (zE _) (zq (zE _) (zq (zE _) (Ps _ _ _ _ _ h hx)))))
theorem fK (pv : Option En) (fx fy alt : Int) {c : Int} {x : En} (y : En) (spd bank oalt gr : Int) (h : QL c) (hx : QL x.crs) : TW (qP pv fx fy c alt x y spd bank oalt gr) := by
 unfold qP
 refine zq (fun _ => ?_) (Pt _ _ _ _ _ _ _ _ h hx)
 show QL (if x.ty = 3 then x.crs else c)
 split <;> assumption
theorem Dc {x : En} {alt : Int} (h : QL alt) (hx : QL x.lo) : QL (kN x alt) := by
 unfold kN
 unfold QL at *
 split <;> omega
theorem Th {fx fy c alt : Int} {x y : En} {spd bank oalt gr : Int} {t : Tk} (h : qg fx fy c alt x y spd bank oalt gr = (t, 0)) :
 vA spd bank oalt gr = 0 ∧ x.gap = false ∧ jn x = 0 ∧ (qf fx fy = true ∧ qf x.ex x.ey = true ∧ qf x.mx x.my = true) ∧ (0 ≤ c ∧ c < 129600000 ∧ -200000 ≤ alt ∧ alt ≤ 6000000) ∧ vR fx fy c alt x y gr = (t, 0) := by
 unfold qg at h
 split at h
 · rename_i h0; injection h with _ h2; exact absurd h2 h0
 rename_i h0
 split at h
 · injection h with _ h2; cases h2
 rename_i h1
 split at h
 · rename_i h3; injection h with _ h2; exact absurd h2 h3
 rename_i h3
 split at h
 · injection h with _ h2; cases h2
 rename_i h4
 split at h
 · injection h with _ h2; cases h2
 rename_i h5
 refine ⟨Classical.not_not.1 h0, by simpa using h1, Classical.not_not.1 h3, ?_, by omega, h⟩
 have := Bool.not_eq_false _ ▸ h4
 simp only [Bool.and_eq_true] at this
 exact ⟨this.1.1, this.1.2, this.2⟩
end Go.Proofs.YteanfgobpjdmnaaGreatDoor
