/-
  A track inside a row of tracks whose other cells are not written out: the row is pre, the track's cells, post.
-/
import Derived.Test.YtbhpklpkcgcmfaaGreatDoorMMemD
namespace Go.Proofs.YtbhpklpkcgcmfaaGreatDoor
open Go.RowKit
set_option linter.unusedVariables false
def mid (yc post : List Value) : List Value := yc ++ post
theorem row1 {pre yc post : List Value} {o i : Nat} {v : Value} (hp : pre.length = o) (hv : yc[i]? = some v) : (pre ++ mid yc post)[o + i]? = some v := by
 subst hp
 unfold mid
 rw [List.getElem?_append_right (by omega), show pre.length + i - pre.length = i by omega, List.getElem?_append_left (List.getElem?_eq_some_iff.1 hv).1]
 exact hv
theorem row0 {pre yc post : List Value} {o : Nat} {v : Value} (hp : pre.length = o) (hv : yc[0]? = some v) : (pre ++ mid yc post)[o]? = some v := row1 (i := 0) hp hv
theorem part_app {yc C post : List Value} {i n : Nat} (h : Part yc i n C) : Part (yc ++ post) i n C := by
 induction h with
 | nil => exact .nil
 | take _ ih => exact .take ih
 | drop _ ih => exact .drop ih
theorem part_row {yc C post : List Value} {i n : Nat} : ∀ {pre : List Value} {o : Nat}, pre.length = o → Part yc i n C → Part (pre ++ mid yc post) (o + i) n C
 | [], o, hp, h => by
   subst hp
   rw [show ([] : List Value).length + i = i by simp]
   exact (part_app (post := post) h : Part (yc ++ post) i n C)
 | c :: pre, o, hp, h => by
   subst hp
   rw [show (c :: pre).length + i = (pre.length + i) + 1 by simp; omega]
   exact .drop (part_row rfl h)
theorem part_row0 {yc C post pre : List Value} {n o : Nat} (hp : pre.length = o) (h : Part yc 0 n C) : Part (pre ++ mid yc post) o n C := part_row (i := 0) hp h
theorem spl_app {yc yc' new post : List Value} {i : Nat} (h : Spl yc i new yc') : Spl (yc ++ post) i new (yc' ++ post) := by
 induction h with
 | done => exact .done
 | put _ ih => exact .put ih
 | skip _ ih => exact .skip ih
theorem spl_row {yc yc' new post : List Value} {i : Nat} : ∀ {pre : List Value} {o : Nat}, pre.length = o → Spl yc i new yc' → Spl (pre ++ mid yc post) (o + i) new (pre ++ mid yc' post)
 | [], o, hp, h => by
   subst hp
   rw [show ([] : List Value).length + i = i by simp]
   exact (spl_app (post := post) h : Spl (yc ++ post) i new (yc' ++ post))
 | c :: pre, o, hp, h => by
   subst hp
   rw [show (c :: pre).length + i = (pre.length + i) + 1 by simp; omega]
   exact .skip (spl_row rfl h)
end Go.Proofs.YtbhpklpkcgcmfaaGreatDoor
/-
  A store into an element of a slice of structs whose row is a box: the row's cells, element by element.
-/
namespace Go.Proofs.YtbhpklpkcgcmfaaGreatDoor
open Go.RowKit
set_option linter.unusedVariables false
theorem splice_get {cs new : List Value} {off : Nat} (h : off + new.length ≤ cs.length) (i : Nat) : (splice cs off new)[i]? = if i < off then cs[i]? else if i < off + new.length then new[i - off]? else cs[i]? := by
 unfold splice
 have h1 : (cs.take off).length = off := by rw [List.length_take]; omega
 by_cases a : i < off
 · rw [if_pos a, List.getElem?_append_left (by omega), List.getElem?_take, if_pos a]
 · rw [if_neg a, List.getElem?_append_right (by omega), h1]
   by_cases b : i < off + new.length
   · rw [if_pos b, List.getElem?_append_left (by omega)]
   · rw [if_neg b, List.getElem?_append_right (by omega), List.getElem?_drop]
     congr 1
     omega
theorem splice_len {cs new : List Value} {off : Nat} (h : off + new.length ≤ cs.length) : (splice cs off new).length = cs.length := by
 unfold splice
 simp
 omega
theorem tk_len (t : Tk) : t.cells.length = 15 := rfl
theorem flat_len (ts : List Tk) : (ts.flatMap Tk.cells).length = ts.length * 15 := by
 induction ts with
 | nil => rfl
 | cons t ts ih => rw [List.flatMap_cons, List.length_append, ih, tk_len, List.length_cons]; omega
theorem flat_at (ts : List Tk) (k i : Nat) (hi : i < 15) : (ts.flatMap Tk.cells)[k * 15 + i]? = (ts[k]?).bind (fun t => t.cells[i]?) := by
 induction ts generalizing k with
 | nil => simp
 | cons t ts ih =>
   rw [List.flatMap_cons]
   cases k with
   | zero =>
     rw [Nat.zero_mul, Nat.zero_add, List.getElem?_append_left (by rw [tk_len]; omega)]
     rfl
   | succ k =>
     rw [List.getElem?_append_right (by rw [tk_len]; omega), tk_len, show (k + 1) * 15 + i - 15 = k * 15 + i by omega, ih k]
     rfl
theorem row_set {ts : List Tk} {cur new : List Value} {k off : Nat} {t t' : Tk} (hcur : cur.take (ts.length * 15) = ts.flatMap Tk.cells) (hk : ts[k]? = some t) (ho : off + new.length ≤ 15) (hs : splice t.cells off new = t'.cells) :
 (splice cur (k * 15 + off) new).take ((ts.set k t').length * 15) = (ts.set k t').flatMap Tk.cells ∧ (splice cur (k * 15 + off) new).length = cur.length := by
 have hkl := (List.getElem?_eq_some_iff.1 hk).1
 have hlen : ts.length * 15 ≤ cur.length := by
  have := congrArg List.length hcur
  rw [List.length_take, flat_len] at this
  omega
 have hb : k * 15 + off + new.length ≤ cur.length := by omega
 refine ⟨?_, splice_len hb⟩
 rw [List.length_set]
 apply List.ext_getElem?
 intro i
 rw [List.getElem?_take]
 by_cases hi : i < ts.length * 15
 · rw [if_pos hi]
   obtain ⟨q, r, rfl, hr⟩ : ∃ q r, i = q * 15 + r ∧ r < 15 := ⟨i / 15, i % 15, by omega, by omega⟩
   rw [flat_at _ _ _ hr, splice_get hb]
   have hold : cur[q * 15 + r]? = (ts[q]?).bind (fun t => t.cells[r]?) := by
    rw [← flat_at _ _ _ hr, ← hcur, List.getElem?_take, if_pos hi]
   have hq : q < ts.length := by omega
   by_cases hqk : q = k
   · subst hqk
     rw [List.getElem?_set_self hq, hold, hk]
     show _ = t'.cells[r]?
     rw [← hs, splice_get (by rw [tk_len]; omega)]
     show (if _ then t.cells[r]? else if _ then _ else t.cells[r]?) = _
     by_cases c1 : r < off
     · rw [if_pos (by omega), if_pos c1]
     · rw [if_neg (by omega), if_neg c1]
       by_cases c2 : r < off + new.length
       · rw [if_pos (by omega), if_pos c2]
         congr 1
         omega
       · rw [if_neg (by omega), if_neg c2]
   · rw [List.getElem?_set_ne (Ne.symm hqk), hold]
     by_cases c1 : q * 15 + r < k * 15 + off
     · rw [if_pos c1]
     · rw [if_neg c1]
       rw [if_neg (by omega)]
 · rw [if_neg hi, List.getElem?_eq_none (by rw [flat_len, List.length_set]; omega)]
section
variable {P : Program} {w W : World} {L L' : List Box} {ops : Array Oper} {rest : List Oper} {o : Oper} {a : Act} {Q : Exit → Act → World → Prop}
end
end Go.Proofs.YtbhpklpkcgcmfaaGreatDoor
/-
  The row of a slice of tracks, split at one of them.
-/
namespace Go.Proofs.YtbhpklpkcgcmfaaGreatDoor
open Go.RowKit
set_option linter.unusedVariables false
theorem row_split {ts : List Tk} {cur : List Value} {k : Nat} {y : Tk} (hcur : cur.take (ts.length * 15) = ts.flatMap Tk.cells) (hk : ts[k]? = some y) :
 ∃ pre post, cur = pre ++ mid y.cells post ∧ pre.length = k * 15 ∧ ∀ y' : Tk, (pre ++ mid y'.cells post).take ((ts.set k y').length * 15) = (ts.set k y').flatMap Tk.cells := by
 have hkl := (List.getElem?_eq_some_iff.1 hk).1
 have hlen : ts.length * 15 ≤ cur.length := by
  have := congrArg List.length hcur
  rw [List.length_take, flat_len] at this
  omega
 have hs : ∀ y' : Tk, splice cur (k * 15) y'.cells = cur.take (k * 15) ++ mid y'.cells (cur.drop (k * 15 + 15)) := fun y' => rfl
 have key : ∀ y' : Tk, (splice cur (k * 15) y'.cells).take ((ts.set k y').length * 15) = (ts.set k y').flatMap Tk.cells := fun y' => (row_set (off := 0) hcur hk (by rw [tk_len]; omega) (by
  unfold splice
  rw [List.take_zero, List.nil_append, tk_len, List.drop_eq_nil_of_le (by rw [tk_len]; omega), List.append_nil])).1
 refine ⟨cur.take (k * 15), cur.drop (k * 15 + 15), ?_, by rw [List.length_take]; omega, fun y' => by rw [← hs]; exact key y'⟩
 have h1 : (cur.drop (k * 15)).take 15 = y.cells := by
  apply List.ext_getElem?
  intro i
  rw [List.getElem?_take]
  by_cases hi : i < 15
  · rw [if_pos hi, List.getElem?_drop]
    have h2 := flat_at ts k i hi
    rw [← hcur, List.getElem?_take, if_pos (by omega), hk] at h2
    exact h2
  · rw [if_neg hi, List.getElem?_eq_none (by rw [tk_len]; omega)]
 have h2 : cur.drop (k * 15) = y.cells ++ cur.drop (k * 15 + 15) := by
  rw [← h1, ← List.drop_drop, List.take_append_drop]
 unfold mid
 rw [← h2, List.take_append_drop]
end Go.Proofs.YtbhpklpkcgcmfaaGreatDoor
