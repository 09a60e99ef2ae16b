/-
  Chapter 21 as plain functions: places, ways, which legs follow which, the check of a plan. No program.
-/
import Derived.Test.YtjjdojokkmfbmaaGreatDoorMResP2
import Derived.Test.YtjjdojokkmfbmaaGreatDoorMStrP
namespace Go.Proofs.YtjjdojokkmfbmaaGreatDoor
set_option linter.unusedVariables false
def pairL (l : List UInt8) (b : UInt8) (m : Int) : Bool :=
  match cutL b l with
  | none => nameL l m
  | some (x, y) => nameL x m && nameL y m
def placeB (s : ByteArray) : Bool := decide (s.data.toList = []) || pairL s.data.toList 47 6
def wayB (s : ByteArray) : Bool := decide (s.data.toList = []) || pairL s.data.toList 46 8
def startsB (t : Int) : Bool := decide (t = 1 ∨ t = 3 ∨ t = 4)
def endsB (t : Int) : Bool := decide ((1 ≤ t ∧ t ≤ 6) ∨ (14 ≤ t ∧ t ≤ 17))
def fromB (t : Int) : Bool := decide (11 ≤ t ∧ t ≤ 17)
def followsB (a b : Int) : Bool :=
  decide ((1 ≤ a ∧ a ≤ 17) ∧ (1 ≤ b ∧ b ≤ 17) ∧ ((a ≤ 6 ∧ b ≠ 1) ∨ (a = 9 ∧ b = 3) ∨ (14 ≤ a ∧ (b = 2 ∨ b = 3 ∨ b = 4 ∨ (7 ≤ b ∧ b ≤ 13))) ∨ ((a = 7 ∨ a = 8 ∨ a = 10 ∨ a = 11 ∨ a = 12) ∧ (b = 3 ∨ b = 4 ∨ (7 ≤ b ∧ b ≤ 10)))))
def joinsB (y x : En) : Bool := followsB y.ty x.ty && (!fromB x.ty || decide (y.fx = x.fx))
def arrivedB (y x : En) : Bool := endsB y.ty && decide (y.fx = x.fx)
def aloneF (x : En) : Int :=
  if legF x ≠ 0 then legF x else if x.sec < 1 ∨ x.sec > 5 then 17 else if wayB x.via = false then 5 else
  if (vldB x.ex x.ey && vldB x.mx x.my) = false then 2 else
  if (x.fx = ⟨#[]⟩ ∧ ¬ (x.ex = 0 ∧ x.ey = 0)) ∨ (x.ct = ⟨#[]⟩ ∧ ¬ (x.mx = 0 ∧ x.my = 0)) then 1 else 0
def gapE : En := ⟨true, 0, ⟨#[]⟩, ⟨#[]⟩, 0, false, 0, 0, 0, 0, 0, 0, 0, 0, 0, 0, 0, 0, 0, ⟨#[]⟩⟩
/-- is a discontinuity one without anything else? -/
def pureB (x : En) : Bool :=
  decide (x.ty = 0) && decide (x.fx = ⟨#[]⟩) && decide (x.ct = ⟨#[]⟩) && decide (x.tn = 0) && !x.ov && decide (x.crs = 0 ∧ x.dst = 0 ∧ x.rad = 0 ∧ x.tht = 0 ∧ x.lo = 0 ∧ x.hi = 0 ∧ x.spd = 0 ∧ x.rnp = 0 ∧ x.ex = 0 ∧ x.ey = 0 ∧ x.mx = 0 ∧ x.my = 0 ∧ x.sec = 0) && decide (x.via = ⟨#[]⟩)
def gapO : Option En → Bool
  | none => true
  | some y => y.gap
/-- what an entry gives behind another one: an error, and the section -/
def stepE (pv : Option En) (x : En) (lastOne : Bool) (last : Int) : Int × Int :=
  if x.gap = true then (if pureB x = false then (1, last) else if (lastOne || gapO pv) = true then (9, last) else (0, last))
  else if aloneF x ≠ 0 then (aloneF x, last)
  else match pv with
    | none => if startsB x.ty = false then (9, last) else if x.sec < last then (9, last) else (0, x.sec)
    | some y => if y.gap = true then (if startsB x.ty = false then (9, last) else if x.sec < last then (9, last) else (0, x.sec))
      else if joinsB y x = false then (9, last) else if (x.ty = 2 ∨ x.ty = 4) ∧ arrivedB y x = true then (7, last) else if x.sec < last then (9, last) else (0, x.sec)
def planG : Option En → Int → List En → Int
  | _, _, [] => 0
  | pv, last, x :: r => if (stepE pv x r.isEmpty last).1 ≠ 0 then (stepE pv x r.isEmpty last).1 else planG (some x) (stepE pv x r.isEmpty last).2 r
def gapAt (l : List En) (i : Int) : Bool :=
  match l[i.toNat]? with
  | some x => x.gap
  | none => false
def planF (a b : ByteArray) (l : List En) (act : Int) : Int :=
  if (placeB a && placeB b) = false then 5 else if (l.length : Int) > 60 then 3 else if planG none 0 l ≠ 0 then planG none 0 l else
  if act ≠ -1 ∧ (act < 0 ∨ act ≥ l.length ∨ gapAt l act = true) then 2 else 0
theorem pair_one {s x y : ByteArray} {b : UInt8} (h : CutIs s b x y false) (m : Int) : pairL s.data.toList b m = nameL x.data.toList m := by
  rcases h with ⟨h, _⟩ | ⟨_, h, rfl, _⟩
  · cases h
  · unfold pairL; rw [h]
theorem pair_two {s x y : ByteArray} {b : UInt8} (h : CutIs s b x y true) (m : Int) : pairL s.data.toList b m = (nameL x.data.toList m && nameL y.data.toList m) := by
  rcases h with ⟨_, h, _⟩ | ⟨h, _⟩
  · unfold pairL; rw [h]
  · cases h
/-- the entry ahead -/
def prevO (l : List En) (k : Nat) : Option En := if k = 0 then none else l[k - 1]?
theorem planG_at {l : List En} {k : Nat} {x : En} (h : l[k]? = some x) (last : Int) :
    planG (prevO l k) last (l.drop k) = if (stepE (prevO l k) x (decide (k + 1 = l.length)) last).1 ≠ 0 then (stepE (prevO l k) x (decide (k + 1 = l.length)) last).1 else planG (prevO l (k + 1)) (stepE (prevO l k) x (decide (k + 1 = l.length)) last).2 (l.drop (k + 1)) := by
  obtain ⟨hk, rfl⟩ := List.getElem?_eq_some_iff.1 h
  rw [List.drop_eq_getElem_cons hk]
  have e1 : prevO l (k + 1) = some l[k] := by
    unfold prevO
    rw [if_neg (by omega), Nat.add_sub_cancel]
    exact h
  have e2 : (l.drop (k + 1)).isEmpty = decide (k + 1 = l.length) := by
    rw [Bool.eq_iff_iff]
    simp
    omega
  rw [e1]
  show (if _ then _ else _) = _
  rw [e2]
theorem planG_end {l : List En} {k : Nat} (h : l.length ≤ k) (last : Int) : planG (prevO l k) last (l.drop k) = 0 := by
  rw [List.drop_of_length_le h]
  rfl
end Go.Proofs.YtjjdojokkmfbmaaGreatDoor
