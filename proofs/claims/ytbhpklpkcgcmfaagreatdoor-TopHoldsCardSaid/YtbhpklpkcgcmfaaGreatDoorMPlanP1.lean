/-
  Chapter 21 as plain functions: places, ways, which legs follow which, the check of a plan. No program.
-/
import Derived.Test.YtbhpklpkcgcmfaaGreatDoorMStrP
namespace Go.Proofs.YtbhpklpkcgcmfaaGreatDoor
set_option linter.unusedVariables false
def pairL (l : List UInt8) (b : UInt8) (m : Int) : Bool :=
 match cutL b l with
 | none => nameL l m
 | some (x, y) => nameL x m && nameL y m
def placeB (s : ByteArray) : Bool := decide (s.data.toList = []) || pairL s.data.toList 47 6
def wayB (s : ByteArray) : Bool := decide (s.data.toList = []) || pairL s.data.toList 46 8
def startsB (t : Int) : Bool := decide (t = 1 ∨ t = 3 ∨ t = 4)
def endsB (t : Int) : Bool := decide ((1 ≤ t ∧ t ≤ 6) ∨ (14 ≤ t ∧ t ≤ 17))
def fromB (t : Int) : Bool := decide (11 ≤ t ∧ t ≤ 17)
def followsB (a b : Int) : Bool :=
 decide ((1 ≤ a ∧ a ≤ 17) ∧ (1 ≤ b ∧ b ≤ 17) ∧ ((a ≤ 6 ∧ b ≠ 1) ∨ (a = 9 ∧ b = 3) ∨ (14 ≤ a ∧ (b = 2 ∨ b = 3 ∨ b = 4 ∨ (7 ≤ b ∧ b ≤ 13))) ∨ ((a = 7 ∨ a = 8 ∨ a = 10 ∨ a = 11 ∨ a = 12) ∧ (b = 3 ∨ b = 4 ∨ (7 ≤ b ∧ b ≤ 10)))))
def joinsB (y x : En) : Bool := followsB y.ty x.ty && (!fromB x.ty || decide (y.fx = x.fx))
def arrivedB (y x : En) : Bool := endsB y.ty && decide (y.fx = x.fx)
def aloneF (x : En) : Int :=
 if legF x ≠ 0 then legF x else if x.sec < 1 ∨ x.sec > 5 then 17 else if wayB x.via = false then 5 else
 if (vldB x.ex x.ey && vldB x.mx x.my) = false then 2 else
 if (x.fx = ⟨#[]⟩ ∧ ¬ (x.ex = 0 ∧ x.ey = 0)) ∨ (x.ct = ⟨#[]⟩ ∧ ¬ (x.mx = 0 ∧ x.my = 0)) then 1 else 0
def gapE : En := ⟨true, 0, ⟨#[]⟩, ⟨#[]⟩, 0, false, 0, 0, 0, 0, 0, 0, 0, 0, 0, 0, 0, 0, 0, ⟨#[]⟩⟩
def pureB (x : En) : Bool :=
 decide (x.ty = 0) && decide (x.fx = ⟨#[]⟩) && decide (x.ct = ⟨#[]⟩) && decide (x.tn = 0) && !x.ov && decide (x.crs = 0 ∧ x.dst = 0 ∧ x.rad = 0 ∧ x.tht = 0 ∧ x.lo = 0 ∧ x.hi = 0 ∧ x.spd = 0 ∧ x.rnp = 0 ∧ x.ex = 0 ∧ x.ey = 0 ∧ x.mx = 0 ∧ x.my = 0 ∧ x.sec = 0) && decide (x.via = ⟨#[]⟩)
def gapO : Option En → Bool
 | none => true
 | some y => y.gap
def stepE (pv : Option En) (x : En) (lastOne : Bool) (last : Int) : Int × Int :=
 if x.gap = true then (if pureB x = false then (1, last) else if (lastOne || gapO pv) = true then (9, last) else (0, last))
 else if aloneF x ≠ 0 then (aloneF x, last)
 else match pv with
  | none => if startsB x.ty = false then (9, last) else if x.sec < last then (9, last) else (0, x.sec)
  | some y => if y.gap = true then (if startsB x.ty = false then (9, last) else if x.sec < last then (9, last) else (0, x.sec))
    else if joinsB y x = false then (9, last) else if (x.ty = 2 ∨ x.ty = 4) ∧ arrivedB y x = true then (7, last) else if x.sec < last then (9, last) else (0, x.sec)
def planG : Option En → Int → List En → Int
 | _, _, [] => 0
 | pv, last, x :: r => if (stepE pv x r.isEmpty last).1 ≠ 0 then (stepE pv x r.isEmpty last).1 else planG (some x) (stepE pv x r.isEmpty last).2 r
def gapAt (l : List En) (i : Int) : Bool :=
 match l[i.toNat]? with
 | some x => x.gap
 | none => false
def planF (a b : ByteArray) (l : List En) (act : Int) : Int :=
 if (placeB a && placeB b) = false then 5 else if (l.length : Int) > 60 then 3 else if planG none 0 l ≠ 0 then planG none 0 l else
 if act ≠ -1 ∧ (act < 0 ∨ act ≥ l.length ∨ gapAt l act = true) then 2 else 0
theorem pair_one {s x y : ByteArray} {b : UInt8} (h : CutIs s b x y false) (m : Int) : pairL s.data.toList b m = nameL x.data.toList m := by
 rcases h with ⟨h, _⟩ | ⟨_, h, rfl, _⟩
 · cases h
 · unfold pairL; rw [h]
theorem pair_two {s x y : ByteArray} {b : UInt8} (h : CutIs s b x y true) (m : Int) : pairL s.data.toList b m = (nameL x.data.toList m && nameL y.data.toList m) := by
 rcases h with ⟨_, h, _⟩ | ⟨h, _⟩
 · unfold pairL; rw [h]
 · cases h
def prevO (l : List En) (k : Nat) : Option En := if k = 0 then none else l[k - 1]?
theorem planG_at {l : List En} {k : Nat} {x : En} (h : l[k]? = some x) (last : Int) :
 planG (prevO l k) last (l.drop k) = if (stepE (prevO l k) x (decide (k + 1 = l.length)) last).1 ≠ 0 then (stepE (prevO l k) x (decide (k + 1 = l.length)) last).1 else planG (prevO l (k + 1)) (stepE (prevO l k) x (decide (k + 1 = l.length)) last).2 (l.drop (k + 1)) := by
 obtain ⟨hk, rfl⟩ := List.getElem?_eq_some_iff.1 h
 rw [List.drop_eq_getElem_cons hk]
 have e1 : prevO l (k + 1) = some l[k] := by
  unfold prevO
  rw [if_neg (by omega), Nat.add_sub_cancel]
  exact h
 have e2 : (l.drop (k + 1)).isEmpty = decide (k + 1 = l.length) := by
  rw [Bool.eq_iff_iff]
  simp
  omega
 rw [e1]
 show (if _ then _ else _) = _
 rw [e2]
theorem planG_end {l : List En} {k : Nat} (h : l.length ≤ k) (last : Int) : planG (prevO l k) last (l.drop k) = 0 := by
 rw [List.drop_of_length_le h]
 rfl
end Go.Proofs.YtbhpklpkcgcmfaaGreatDoor
/-
  The tracks of a plan as a plain function: rounds, order, where tracks begin, what the laws ask. No program.
-/
namespace Go.Proofs.YtbhpklpkcgcmfaaGreatDoor
set_option linter.unusedVariables false
def gapQ : Option En → Bool
 | none => false
 | some y => y.gap
def gapTk (x : En) (c : Int) : Tk := ⟨1, x.ex, x.ey, x.ex, x.ey, 0, 0, 0, 0, 0, if x.ty = 3 then x.crs else c, if x.ty = 3 then x.crs else c, 0, 0, true⟩
def trackE (pv : Option En) (fx fy c alt : Int) (x y : En) (spd bank oalt gr : Int) : Tk × Int :=
 if gapQ pv = true then (gapTk x c, 0) else resolveT fx fy c alt x y spd bank oalt gr
def upAlt (x : En) (alt : Int) : Int := if x.ty = 7 ∨ x.ty = 11 ∨ x.ty = 14 then max alt x.lo else alt
def nextE (r : List En) : En := r.headD gapE
def tracksG (spd bank oalt gr : Int) : Option En → Nat → Int → Int → Int → Int → List En → List Tk × Int × Int
 | _, _, _, _, _, _, [] => ([], 0, 0)
 | pv, i, fx, fy, c, alt, x :: r =>
   if x.gap = true then tracksG spd bank oalt gr (some x) (i + 1) fx fy c alt r else
   if (trackE pv fx fy c alt x (nextE r) spd bank oalt gr).2 ≠ 0 then ([], (i : Int), (trackE pv fx fy c alt x (nextE r) spd bank oalt gr).2) else
   if (tracksG spd bank oalt gr (some x) (i + 1) (trackE pv fx fy c alt x (nextE r) spd bank oalt gr).1.bx (trackE pv fx fy c alt x (nextE r) spd bank oalt gr).1.b_y (trackE pv fx fy c alt x (nextE r) spd bank oalt gr).1.co (upAlt x alt) r).2.2 ≠ 0 then
    ([], (tracksG spd bank oalt gr (some x) (i + 1) (trackE pv fx fy c alt x (nextE r) spd bank oalt gr).1.bx (trackE pv fx fy c alt x (nextE r) spd bank oalt gr).1.b_y (trackE pv fx fy c alt x (nextE r) spd bank oalt gr).1.co (upAlt x alt) r).2)
   else ({ (trackE pv fx fy c alt x (nextE r) spd bank oalt gr).1 with n := (i : Int) } :: (tracksG spd bank oalt gr (some x) (i + 1) (trackE pv fx fy c alt x (nextE r) spd bank oalt gr).1.bx (trackE pv fx fy c alt x (nextE r) spd bank oalt gr).1.b_y (trackE pv fx fy c alt x (nextE r) spd bank oalt gr).1.co (upAlt x alt) r).1, 0, 0)
def beginN (act : Int) : Nat := (max act 0).toNat
def tracksF (pa pb : ByteArray) (l : List En) (act fx fy c spd bank oalt gr : Int) : List Tk × Int × Int :=
 if planF pa pb l act ≠ 0 then ([], 0, planF pa pb l act) else if optE spd bank oalt gr ≠ 0 then ([], 0, optE spd bank oalt gr) else
 if vldB fx fy = false then ([], 0, 1) else if c < 0 ∨ c ≥ 129600000 then ([], 0, 2) else
 tracksG spd bank oalt gr none (beginN act) fx fy c oalt (l.drop (beginN act))
def prevB (l : List En) (bn k : Nat) : Option En := if k = bn then none else l[k - 1]?
def joinT (ts : List Tk) (r : List Tk × Int × Int) : List Tk × Int × Int := if r.2.2 ≠ 0 then ([], r.2) else (ts ++ r.1, 0, 0)
theorem joinT_joinT (ts us : List Tk) (r : List Tk × Int × Int) : joinT ts (joinT us r) = joinT (ts ++ us) r := by
 unfold joinT
 by_cases h : r.2.2 ≠ 0
 · rw [if_pos h, if_pos h, if_pos h]
 · rw [if_neg h, if_neg h, if_neg (by simp)]
   simp
theorem tracksG_nil {spd bank oalt gr : Int} (pv : Option En) (i : Nat) (fx fy c alt : Int) : tracksG spd bank oalt gr pv i fx fy c alt [] = ([], 0, 0) := rfl
theorem tracksG_gap {spd bank oalt gr : Int} {pv : Option En} {i : Nat} {fx fy c alt : Int} {x : En} {r : List En} (h : x.gap = true) : tracksG spd bank oalt gr pv i fx fy c alt (x :: r) = tracksG spd bank oalt gr (some x) (i + 1) fx fy c alt r := by
 rw [tracksG, if_pos h]
theorem tracksG_err {spd bank oalt gr : Int} {pv : Option En} {i : Nat} {fx fy c alt e : Int} {x : En} {r : List En} {T : Tk} (h : x.gap = false) (ht : trackE pv fx fy c alt x (nextE r) spd bank oalt gr = (T, e)) (he : e ≠ 0) : tracksG spd bank oalt gr pv i fx fy c alt (x :: r) = ([], (i : Int), e) := by
 rw [tracksG, if_neg (by rw [h]; simp), ht, if_pos he]
theorem tracksG_leg {spd bank oalt gr : Int} {pv : Option En} {i : Nat} {fx fy c alt : Int} {x : En} {r : List En} {T : Tk} (h : x.gap = false) (ht : trackE pv fx fy c alt x (nextE r) spd bank oalt gr = (T, 0)) :
 tracksG spd bank oalt gr pv i fx fy c alt (x :: r) = joinT [{ T with n := (i : Int) }] (tracksG spd bank oalt gr (some x) (i + 1) T.bx T.b_y T.co (upAlt x alt) r) := by
 rw [tracksG, if_neg (by rw [h]; simp), ht, if_neg (by simp)]
 rfl
theorem tracksG_join {spd bank oalt gr : Int} : ∀ (l : List En) (pv : Option En) (i : Nat) (fx fy c alt : Int), joinT [] (tracksG spd bank oalt gr pv i fx fy c alt l) = tracksG spd bank oalt gr pv i fx fy c alt l
 | [], pv, i, fx, fy, c, alt => rfl
 | x :: r, pv, i, fx, fy, c, alt => by
   rcases hg : x.gap with _ | _
   · by_cases he : (trackE pv fx fy c alt x (nextE r) spd bank oalt gr).2 = 0
     · rw [tracksG_leg (T := (trackE pv fx fy c alt x (nextE r) spd bank oalt gr).1) hg (Prod.ext rfl he), joinT_joinT]
       rfl
     · obtain ⟨T, e, hT⟩ : ∃ T e, trackE pv fx fy c alt x (nextE r) spd bank oalt gr = (T, e) := ⟨_, _, rfl⟩
       rw [hT] at he
       rw [tracksG_err hg hT he]
       exact if_pos he
   · rw [tracksG_gap hg]
     exact tracksG_join r _ _ _ _ _ _
theorem nextE_drop (l : List En) (k : Nat) : nextE (l.drop k) = (l[k]?).getD gapE := by
 unfold nextE
 rw [List.headD_eq_head?_getD, List.head?_drop]
theorem prevB_next {l : List En} {bn k : Nat} {x : En} (hx : l[k]? = some x) (hk : bn ≤ k) : prevB l bn (k + 1) = some x := by
 unfold prevB
 rw [if_neg (by omega), Nat.add_sub_cancel, hx]
theorem round_gap {spd bank oalt gr fx fy c alt : Int} {l : List En} {bn k : Nat} {x : En} {ts : List Tk} {R : List Tk × Int × Int} (hx : l[k]? = some x) (hk : bn ≤ k) (hg : x.gap = true) (h : R = joinT ts (tracksG spd bank oalt gr (prevB l bn k) k fx fy c alt (l.drop k))) :
 R = joinT ts (tracksG spd bank oalt gr (prevB l bn (k + 1)) (k + 1) fx fy c alt (l.drop (k + 1))) := by
 obtain ⟨hlt, he⟩ := List.getElem?_eq_some_iff.1 hx
 rw [h, List.drop_eq_getElem_cons hlt, he, tracksG_gap hg, prevB_next hx hk]
theorem round_err {spd bank oalt gr fx fy c alt e : Int} {l : List En} {bn k : Nat} {x y : En} {T : Tk} {ts : List Tk} {R : List Tk × Int × Int} (hx : l[k]? = some x) (hy : (l[k + 1]?).getD gapE = y) (hg : x.gap = false) (ht : trackE (prevB l bn k) fx fy c alt x y spd bank oalt gr = (T, e)) (he0 : e ≠ 0)
 (h : R = joinT ts (tracksG spd bank oalt gr (prevB l bn k) k fx fy c alt (l.drop k))) : R = ([], (k : Int), e) := by
 obtain ⟨hlt, he⟩ := List.getElem?_eq_some_iff.1 hx
 rw [h, List.drop_eq_getElem_cons hlt, he, tracksG_err hg (by rw [nextE_drop, hy]; exact ht) he0]
 unfold joinT
 rw [if_pos he0]
theorem round_leg {spd bank oalt gr fx fy c alt : Int} {l : List En} {bn k : Nat} {x y : En} {T : Tk} {ts : List Tk} {R : List Tk × Int × Int} (hx : l[k]? = some x) (hy : (l[k + 1]?).getD gapE = y) (hk : bn ≤ k) (hg : x.gap = false) (ht : trackE (prevB l bn k) fx fy c alt x y spd bank oalt gr = (T, 0))
 (h : R = joinT ts (tracksG spd bank oalt gr (prevB l bn k) k fx fy c alt (l.drop k))) : R = joinT (ts ++ [{ T with n := (k : Int) }]) (tracksG spd bank oalt gr (prevB l bn (k + 1)) (k + 1) T.bx T.b_y T.co (upAlt x alt) (l.drop (k + 1))) := by
 obtain ⟨hlt, he⟩ := List.getElem?_eq_some_iff.1 hx
 rw [h, List.drop_eq_getElem_cons hlt, he, tracksG_leg hg (by rw [nextE_drop, hy]; exact ht), prevB_next hx hk, joinT_joinT]
theorem round_end {spd bank oalt gr fx fy c alt : Int} {l : List En} {bn k : Nat} {ts : List Tk} {R : List Tk × Int × Int} (hk : l.length ≤ k) (h : R = joinT ts (tracksG spd bank oalt gr (prevB l bn k) k fx fy c alt (l.drop k))) : R = (ts, 0, 0) := by
 rw [h, List.drop_of_length_le hk, tracksG_nil]
 unfold joinT
 simp
def c64 (n : Int) : Prop := -9223372036854775808 ≤ n ∧ n ≤ 9223372036854775807
def okC (p : Tk × Int) : Prop := p.2 = 0 → c64 p.1.co
theorem okC_ite {q : Prop} [Decidable q] {a b : Tk × Int} (ha : okC a) (hb : okC b) : okC (if q then a else b) := by
 split <;> assumption
theorem c64_c {n : Int} (h : 0 ≤ n ∧ n < 129600000) : c64 n := by unfold c64; omega
theorem c64_course (ax ay bx b_y : Int) : c64 (courseF ax ay bx b_y).1 := by
 unfold courseF
 split
 · unfold c64; decide
 · split
   · unfold c64; decide
   · exact c64_c (atan2F_bd _ _)
theorem c64_z : c64 0 := by unfold c64; decide
theorem okC_zero (e : Int) : okC (Tk.zero, e) := fun _ => c64_z
theorem okC_ray (ax ay : Int) {c : Int} (l : Int) (h : c64 c) : okC (rayT ax ay c l) := by
 unfold rayT
 exact okC_ite (fun _ => h) (okC_zero _)
theorem okC_straight (ax ay bx b_y : Int) {c : Int} (h : c64 c) : okC (straightF ax ay bx b_y c, 0) := by
 intro _
 unfold straightF
 split
 · exact h
 · exact c64_course _ _ _ _
theorem c64_at (cx cy r f s d : Int) : c64 (arcAt cx cy r f s d).2.2.1 := by
 unfold arcAt
 split
 · unfold c64; decide
 split
 · unfold c64; decide
 split
 · exact c64_c (norm_bd _)
 · unfold c64; decide
theorem okC_arc (fx fy : Int) (x : En) : okC (aroundT fx fy x) := by
 unfold aroundT
 refine okC_ite (okC_zero _) ?_
 split
 · exact okC_ite (okC_zero _) (okC_ite (okC_zero _) (okC_ite (okC_zero _) (fun _ => c64_at _ _ _ _ _ _)))
 · exact okC_zero _
theorem okC_fix (fx fy : Int) {c : Int} {x : En} (h : c64 c) (hx : c64 x.crs) : okC (toFixT fx fy c x) := by
 unfold toFixT
 exact okC_ite (okC_zero _) (okC_ite (okC_zero _) (okC_ite (okC_zero _) (okC_ite (okC_straight _ _ _ _ h) (okC_ite (okC_zero _) (fun _ => hx)))))
theorem okC_climb (fx fy alt : Int) {x : En} (gr : Int) (hx : c64 x.crs) : okC (climbT fx fy alt x gr) := by
 unfold climbT
 exact okC_ite (okC_zero _) (okC_ray _ _ _ hx)
theorem okC_open (a b : Int) {c : Int} (h : c64 c) : okC (openT a b c) := by
 unfold openT
 split
 · rename_i h1
   exact fun _ => okC_ray a b 300000 h h1
 · exact okC_ray _ _ _ h
theorem okC_cd (fx fy : Int) {x : En} (hx : c64 x.crs) : okC (toDistT fx fy x) := by
 unfold toDistT
 exact okC_ite (okC_zero _) (okC_ite (okC_zero _) (okC_ite (okC_zero _) (okC_ite (okC_ray _ _ _ hx) (okC_ite (okC_zero _) (okC_ray _ _ _ hx)))))
theorem okC_cr (fx fy : Int) {x : En} (hx : c64 x.crs) : okC (toRadT fx fy x) := by
 unfold toRadT
 exact okC_ite (okC_zero _) (okC_ite (okC_zero _) (okC_ite (okC_zero _) (okC_ite (okC_zero _) (fun _ => hx))))
theorem okC_ci (fx fy : Int) {x : En} (y : En) (hx : c64 x.crs) : okC (interT fx fy x y) := by
 unfold interT
 exact okC_ite (okC_zero _) (okC_ite (okC_zero _) (okC_ite (okC_zero _) (okC_ite (okC_zero _) (okC_ite (okC_zero _) (fun _ => hx)))))
theorem okC_leg (fx fy alt : Int) {c : Int} {x : En} (y : En) (gr : Int) (h : c64 c) (hx : c64 x.crs) : okC (legT fx fy c alt x y gr) := by
 unfold legT
 refine okC_ite (okC_straight _ _ _ _ h) (okC_ite (okC_straight _ _ _ _ h) (okC_ite (okC_fix _ _ h hx) (okC_ite (okC_arc _ _ _) (okC_ite (okC_climb _ _ _ _ hx) (okC_ite (okC_climb _ _ _ _ hx) (okC_ite (okC_ray _ _ _ hx) (okC_ite (okC_open _ _ hx) (okC_ite (okC_cd _ _ hx) (okC_ite (okC_cr _ _ hx) (okC_ite (okC_ci _ _ _ hx) (fun _ => ?_)))))))))))
 show c64 (if x.ty = 17 then norm (x.crs + 64800000) else x.crs)
 split
 · exact c64_c (norm_bd _)
 · exact hx
theorem okC_res (fx fy alt : Int) {c : Int} {x : En} (y : En) (spd bank oalt gr : Int) (h : c64 c) (hx : c64 x.crs) : okC (resolveT fx fy c alt x y spd bank oalt gr) := by
 unfold resolveT
 exact okC_ite (okC_zero _) (okC_ite (okC_zero _) (okC_ite (okC_zero _) (okC_ite (okC_zero _) (okC_ite (okC_zero _) (okC_leg _ _ _ _ _ h hx)))))
theorem okC_track (pv : Option En) (fx fy alt : Int) {c : Int} {x : En} (y : En) (spd bank oalt gr : Int) (h : c64 c) (hx : c64 x.crs) : okC (trackE pv fx fy c alt x y spd bank oalt gr) := by
 unfold trackE
 refine okC_ite (fun _ => ?_) (okC_res _ _ _ _ _ _ _ _ h hx)
 show c64 (if x.ty = 3 then x.crs else c)
 split <;> assumption
theorem c64_up {x : En} {alt : Int} (h : c64 alt) (hx : c64 x.lo) : c64 (upAlt x alt) := by
 unfold upAlt
 unfold c64 at *
 split <;> omega
theorem resolve_ok2 {fx fy c alt : Int} {x y : En} {spd bank oalt gr : Int} {t : Tk} (h : resolveT fx fy c alt x y spd bank oalt gr = (t, 0)) :
 optE spd bank oalt gr = 0 ∧ x.gap = false ∧ legF x = 0 ∧ (vldB fx fy = true ∧ vldB x.ex x.ey = true ∧ vldB x.mx x.my = true) ∧ (0 ≤ c ∧ c < 129600000 ∧ -200000 ≤ alt ∧ alt ≤ 6000000) ∧ legT fx fy c alt x y gr = (t, 0) := by
 unfold resolveT at h
 split at h
 · rename_i h0; injection h with _ h2; exact absurd h2 h0
 rename_i h0
 split at h
 · injection h with _ h2; cases h2
 rename_i h1
 split at h
 · rename_i h3; injection h with _ h2; exact absurd h2 h3
 rename_i h3
 split at h
 · injection h with _ h2; cases h2
 rename_i h4
 split at h
 · injection h with _ h2; cases h2
 rename_i h5
 refine ⟨Classical.not_not.1 h0, by simpa using h1, Classical.not_not.1 h3, ?_, by omega, h⟩
 have := Bool.not_eq_false _ ▸ h4
 simp only [Bool.and_eq_true] at this
 exact ⟨this.1.1, this.1.2, this.2⟩
end Go.Proofs.YtbhpklpkcgcmfaaGreatDoor
