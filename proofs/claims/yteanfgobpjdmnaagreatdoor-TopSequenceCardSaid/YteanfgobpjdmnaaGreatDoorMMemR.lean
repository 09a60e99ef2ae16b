/-
  A track inside a row of tracks whose other cells are not written out: the row is pre, the track's cells, post.
-/
import Derived.Test.YteanfgobpjdmnaaGreatDoorMPlan3
namespace Go.Proofs.YteanfgobpjdmnaaGreatDoor
open Go.RowKit
set_option linter.unusedVariables false
def mid (yc post : List Value) : List Value := yc ++ post
theorem QK {pre yc post : List Value} {o i : Nat} {v : Value} (hp : pre.length = o) (hv : yc[i]? = some v) : (pre ++ mid yc post)[o + i]? = some v := by
 subst hp
 unfold mid
 rw [List.getElem?_append_right (by omega), show pre.length + i - pre.length = i by omega, List.getElem?_append_left (List.getElem?_eq_some_iff.1 hv).1]
 exact hv
theorem MK {pre yc post : List Value} {o : Nat} {v : Value} (hp : pre.length = o) (hv : yc[0]? = some v) : (pre ++ mid yc post)[o]? = some v := QK (i := 0) hp hv
theorem aJ {yc C post : List Value} {i n : Nat} (h : Part yc i n C) : Part (yc ++ post) i n C := by
 induction h with
 | nil => exact .nil
 | take _ ih => exact .take ih
 | drop _ ih => exact .drop ih
theorem vG {yc C post : List Value} {i n : Nat} : ∀ {pre : List Value} {o : Nat}, pre.length = o → Part yc i n C → Part (pre ++ mid yc post) (o + i) n C
 | [], o, hp, h => by
   subst hp
   rw [show ([] : List Value).length + i = i by simp]
   exact (aJ (post := post) h : Part (yc ++ post) i n C)
 | c :: pre, o, hp, h => by
   subst hp
   rw [show (c :: pre).length + i = (pre.length + i) + 1 by simp; omega]
   exact .drop (vG rfl h)
theorem tI {yc C post pre : List Value} {n o : Nat} (hp : pre.length = o) (h : Part yc 0 n C) : Part (pre ++ mid yc post) o n C := vG (i := 0) hp h
theorem Pc {yc yc' new post : List Value} {i : Nat} (h : Bw yc i new yc') : Bw (yc ++ post) i new (yc' ++ post) := by
 induction h with
 | done => exact .done
 | put _ ih => exact .put ih
 | skip _ ih => exact .skip ih
theorem kI {yc yc' new post : List Value} {i : Nat} : ∀ {pre : List Value} {o : Nat}, pre.length = o → Bw yc i new yc' → Bw (pre ++ mid yc post) (o + i) new (pre ++ mid yc' post)
 | [], o, hp, h => by
   subst hp
   rw [show ([] : List Value).length + i = i by simp]
   exact (Pc (post := post) h : Bw (yc ++ post) i new (yc' ++ post))
 | c :: pre, o, hp, h => by
   subst hp
   rw [show (c :: pre).length + i = (pre.length + i) + 1 by simp; omega]
   exact .skip (kI rfl h)
section
variable {l : List Oper} {Q : Exit → Act → World → Prop} {a : Act} {w W : World} {L K : List zz} {o : Oper} {fuel : Nat} {listed : Array Bool}
theorem eP {P : Program} (i : Nat) {v : Value} (hM : qQ w W L) (h : wpAnyH P .any l.toArray Q (Held w K) fuel (listed.setIfInBounds i true) (a.put o.dst v) W) (hk : Ks K L := by ((repeat constructor) <;> fail)) (hn : gV l i o := by exact jL rfl)
 (hs : Region.noSelect l.toArray = true := by kernel_rfl) (hf : Region.free .any l.toArray listed i = true := by kernel_rfl) (hr : (Region.ready .any l.toArray listed).contains i = true := by kernel_rfl)
 (hw : Region.wanted o (yielded l.toArray a.tmps) = true := by rfl) (hv : ∀ W, (execOp a.eval o).run P W = .ok (.value v) W := by (intro W0; go_simp <;> with_reducible rfl)) (hQ : ∀ c a w v, Q (.panic c) (a.put o.dst v) w → Q (.panic c) a w := by exact fun _ _ _ _ h => h) : wpAnyH P .any l.toArray Q (Held w K) (fuel + 1) listed a W :=
  Pa hM hk.mem hn hs hf hr hw hv hQ h
theorem eL (i : Nat) {v : Value} {cs : List Value} {t : TypeId} (hM : qQ w W L) (h : wpAnyH Tryz.prog .any l.toArray Q (Held w K) fuel (listed.setIfInBounds i true) (a.put o.dst v) W) (hk : Ks K L := by ((repeat constructor) <;> fail)) (hn : gV l i o := by exact jL rfl)
 (hs : Region.noSelect l.toArray = true := by kernel_rfl) (hf : Region.free .any l.toArray listed i = true := by kernel_rfl) (hr : (Region.ready .any l.toArray listed).contains i = true := by kernel_rfl) (hw : Region.wanted o (yielded l.toArray a.tmps) = true := by rfl) {ty : TypeId} {x : Operand} (ho : o.op = .load ty x := by rfl) {g off : Nat} (hx : a.eval x = .pointer (some ⟨g, off, none⟩) := by rfl)
 (hl : Lk K g cs t := by ((repeat constructor) <;> fail)) (hg : JF.contains ty = true := by rfl) (hv : cs[off]? = some v := by rfl) (hQ : ∀ c a w v, Q (.panic c) (a.put o.dst v) w → Q (.panic c) a w := by exact fun _ _ _ _ h => h) : wpAnyH Tryz.prog .any l.toArray Q (Held w K) (fuel + 1) listed a W :=
  aH hM hk.mem hn hs hf hr hw ho hx hl (mT hg) hv hQ h
theorem eM (i : Nat) {cs : List Value} {t : TypeId} {n : Nat} {C : List Value} (hM : qQ w W L) (h : wpAnyH Tryz.prog .any l.toArray Q (Held w K) fuel (listed.setIfInBounds i true) (a.put o.dst (.agg C.toArray)) W) (hk : Ks K L := by ((repeat constructor) <;> fail)) (hn : gV l i o := by exact jL rfl)
 (hs : Region.noSelect l.toArray = true := by kernel_rfl) (hf : Region.free .any l.toArray listed i = true := by kernel_rfl) (hr : (Region.ready .any l.toArray listed).contains i = true := by kernel_rfl) (hw : Region.wanted o (yielded l.toArray a.tmps) = true := by rfl) {ty : TypeId} {x : Operand} (ho : o.op = .load ty x := by rfl) {g off : Nat} (hx : a.eval x = .pointer (some ⟨g, off, none⟩) := by rfl)
 (hl : Lk K g cs t := by ((repeat constructor) <;> fail)) (hg : Qa.contains ty = true := by rfl) (hz : List.lookup ty (JG ++ fa) = some n := by rfl) (hC : Part cs off n C := by ((repeat constructor) <;> fail)) (hQ : ∀ c a w v, Q (.panic c) (a.put o.dst v) w → Q (.panic c) a w := by exact fun _ _ _ _ h => h) : wpAnyH Tryz.prog .any l.toArray Q (Held w K) (fuel + 1) listed a W :=
  WZ hM hk.mem hn hs hf hr hw ho hx hl (BC hg) (Qu hz) hC hQ h
theorem eS {P : Program} (i : Nat) (hM : qQ w W L) (h : wpAnyH P .any l.toArray Q (Held w K) fuel (listed.setIfInBounds i true) (a.put o.dst undef) W) (hk : Ks K L := by ((repeat constructor) <;> fail)) (hn : gV l i o := by exact jL rfl)
 (hs : Region.noSelect l.toArray = true := by kernel_rfl) (hf : Region.free .any l.toArray listed i = true := by kernel_rfl) (hr : (Region.ready .any l.toArray listed).contains i = true := by kernel_rfl)
 (hw : Region.wanted o (yielded l.toArray a.tmps) = false := by rfl) (hQ : ∀ c a w v, Q (.panic c) (a.put o.dst v) w → Q (.panic c) a w := by exact fun _ _ _ _ h => h) : wpAnyH P .any l.toArray Q (Held w K) (fuel + 1) listed a W :=
  Pb hM hk.mem hn hs hf hr hw hQ h
theorem xP {P : Program} (i : Nat) {v : Value} (hM : qQ w W L) (hk : Ks K L := by ((repeat constructor) <;> fail)) (hn : gV l i o := by exact jL rfl)
 (hs : Region.noSelect l.toArray = true := by kernel_rfl) (hf : Region.free .any l.toArray listed i = true := by kernel_rfl) (hr : (Region.ready .any l.toArray listed).contains i = true := by kernel_rfl)
 (hw : Region.wanted o (yielded l.toArray a.tmps) = true := by rfl) (hv : ∀ W, (execOp a.eval o).run P W = .ok (.value v) W := by (intro W0; go_simp <;> with_reducible rfl)) (hQ : ∀ c a w v, Q (.panic c) (a.put o.dst v) w → Q (.panic c) a w := by exact fun _ _ _ _ h => h) : BD i (wpAnyH P .any l.toArray Q (Held w K) fuel (listed.setIfInBounds i true) (a.put o.dst v) W) (wpAnyH P .any l.toArray Q (Held w K) (fuel + 1) listed a W) := fun h => eP i hM h hk hn hs hf hr hw hv hQ
theorem xL (i : Nat) {v : Value} {cs : List Value} {t : TypeId} (hM : qQ w W L) (hk : Ks K L := by ((repeat constructor) <;> fail)) (hn : gV l i o := by exact jL rfl) {ty : TypeId} {x : Operand} (ho : o.op = .load ty x := by rfl)
 (hg : JF.contains ty = true := by rfl) (hs : Region.noSelect l.toArray = true := by kernel_rfl) (hf : Region.free .any l.toArray listed i = true := by kernel_rfl) (hr : (Region.ready .any l.toArray listed).contains i = true := by kernel_rfl) (hw : Region.wanted o (yielded l.toArray a.tmps) = true := by rfl)
 {g off : Nat} (hx : a.eval x = .pointer (some ⟨g, off, none⟩) := by rfl) (hl : Lk K g cs t := by ((repeat constructor) <;> fail)) (hv : cs[off]? = some v := by rfl) (hQ : ∀ c a w v, Q (.panic c) (a.put o.dst v) w → Q (.panic c) a w := by exact fun _ _ _ _ h => h) : BD i (wpAnyH Tryz.prog .any l.toArray Q (Held w K) fuel (listed.setIfInBounds i true) (a.put o.dst v) W) (wpAnyH Tryz.prog .any l.toArray Q (Held w K) (fuel + 1) listed a W) := fun h => eL i hM h hk hn hs hf hr hw ho hx hl hg hv hQ
theorem xM (i : Nat) {cs : List Value} {t : TypeId} {n : Nat} {C : List Value} (hM : qQ w W L) (hk : Ks K L := by ((repeat constructor) <;> fail)) (hn : gV l i o := by exact jL rfl) {ty : TypeId} {x : Operand} (ho : o.op = .load ty x := by rfl)
 (hg : Qa.contains ty = true := by rfl) (hs : Region.noSelect l.toArray = true := by kernel_rfl) (hf : Region.free .any l.toArray listed i = true := by kernel_rfl) (hr : (Region.ready .any l.toArray listed).contains i = true := by kernel_rfl) (hw : Region.wanted o (yielded l.toArray a.tmps) = true := by rfl)
 {g off : Nat} (hx : a.eval x = .pointer (some ⟨g, off, none⟩) := by rfl) (hl : Lk K g cs t := by ((repeat constructor) <;> fail)) (hz : List.lookup ty (JG ++ fa) = some n := by rfl) (hC : Part cs off n C := by ((repeat constructor) <;> fail)) (hQ : ∀ c a w v, Q (.panic c) (a.put o.dst v) w → Q (.panic c) a w := by exact fun _ _ _ _ h => h) : BD i (wpAnyH Tryz.prog .any l.toArray Q (Held w K) fuel (listed.setIfInBounds i true) (a.put o.dst (.agg C.toArray)) W) (wpAnyH Tryz.prog .any l.toArray Q (Held w K) (fuel + 1) listed a W) := fun h => eM i hM h hk hn hs hf hr hw ho hx hl hg hz hC hQ
theorem xS {P : Program} (i : Nat) (hM : qQ w W L) (hk : Ks K L := by ((repeat constructor) <;> fail)) (hn : gV l i o := by exact jL rfl)
 (hs : Region.noSelect l.toArray = true := by kernel_rfl) (hf : Region.free .any l.toArray listed i = true := by kernel_rfl) (hr : (Region.ready .any l.toArray listed).contains i = true := by kernel_rfl)
 (hw : Region.wanted o (yielded l.toArray a.tmps) = false := by rfl) (hQ : ∀ c a w v, Q (.panic c) (a.put o.dst v) w → Q (.panic c) a w := by exact fun _ _ _ _ h => h) : BD i (wpAnyH P .any l.toArray Q (Held w K) fuel (listed.setIfInBounds i true) (a.put o.dst undef) W) (wpAnyH P .any l.toArray Q (Held w K) (fuel + 1) listed a W) := fun h => eS i hM h hk hn hs hf hr hw hQ
theorem rE (i : Nat) {G' G H : Prop} (k : H) (s : BD i G' G := by first | exact xS _ hM | exact xL _ hM | exact xM _ hM | exact xP _ hM | fail) (n : G' = H := by conv => lhs; try simp only [pS, pN, sA, sB, sC]) : G := s (n.mpr k)
theorem eC {P : Program} (i : Nat) (h : ∀ K' : Act → World → Prop, Shut (∀ a w1, Held w K w1 → wpAnyH P .any l.toArray Q (Held w K) fuel (listed.setIfInBounds i true) a w1 → K' a w1) → Oper.wp P o a W K' Q)
 (hn : gV l i o := by exact jL rfl) (hr : Region.ready .any l.toArray listed = [i] := by kernel_rfl) (hw : Region.wanted o (yielded l.toArray a.tmps) = true := by rfl) : wpAnyH P .any l.toArray Q (Held w K) (fuel + 1) listed a W := mU hn hr hw h
theorem Rw {P : Program} (i : Nat) (hM : qQ w W L) (h : wpAnyH P .any l.toArray Q (Held w K) fuel (listed.setIfInBounds i true) (a.put o.dst undef) W) (hk : Ks K L := by ((repeat constructor) <;> fail)) (hn : gV l i o := by exact jL rfl) (hr : Region.ready .any l.toArray listed = [i] := by kernel_rfl)
 (hw : Region.wanted o (yielded l.toArray a.tmps) = false := by rfl) : wpAnyH P .any l.toArray Q (Held w K) (fuel + 1) listed a W := aI hM hk.mem hn hr hw h
end
section
variable {Q : Exit → Act → World → Prop} {a : Act} {w W : World} {L : List zz} {o : Oper} {X : Act → World → Prop}
theorem oO {v : Value} {ty : TypeId} {x : Operand} {g off : Nat} (hM : qQ w W L) (hc : w.cell? ⟨g, off, none⟩ = some v) (h : X (a.put o.dst v) W) (ho : o.op = .load ty x := by rfl) (hx : a.eval x = .pointer (some ⟨g, off, none⟩) := by rfl) (hg : JF.contains ty = true := by rfl) : o.wp Tryz.prog a W X Q := by
 have hs := mT hg
 unfold Oper.wp execOp
 simp only [ho, hx, Instr.loadAt, Instr.sureAddr, Sem.run_bind, Sem.run_pure, Result.andThen_ok, loadVar, hs]
 have hl : (load ⟨g, off, none⟩).run Tryz.prog W = .ok v W := by simp [hM.old hc]
 simp [hl]
 exact h
end
theorem aK {w : World} {b off : Nat} {x : En} (h : uy w b off x) : w.cell? ⟨b, off + 1, none⟩ = some (.int .u8 x.ty) := h 1 _ rfl
theorem VJ {cs new : List Value} {off : Nat} (h : off + new.length ≤ cs.length) (i : Nat) : (jW cs off new)[i]? = if i < off then cs[i]? else if i < off + new.length then new[i - off]? else cs[i]? := by
 unfold jW
 have h1 : (cs.take off).length = off := by rw [List.length_take]; omega
 by_cases a : i < off
 · rw [if_pos a, List.getElem?_append_left (by omega), List.getElem?_take, if_pos a]
 · rw [if_neg a, List.getElem?_append_right (by omega), h1]
   by_cases b : i < off + new.length
   · rw [if_pos b, List.getElem?_append_left (by omega)]
   · rw [if_neg b, List.getElem?_append_right (by omega), List.getElem?_drop]
     congr 1
     omega
theorem wZ {cs new : List Value} {off : Nat} (h : off + new.length ≤ cs.length) : (jW cs off new).length = cs.length := by
 unfold jW
 simp
 omega
theorem bH (t : Tk) : t.cells.length = 15 := rfl
theorem ZT (ts : List Tk) : (ts.flatMap Tk.cells).length = ts.length * 15 := by
 induction ts with
 | nil => rfl
 | cons t ts ih => rw [List.flatMap_cons, List.length_append, ih, bH, List.length_cons]; omega
theorem BF (ts : List Tk) (k i : Nat) (hi : i < 15) : (ts.flatMap Tk.cells)[k * 15 + i]? = (ts[k]?).bind (fun t => t.cells[i]?) := by
 induction ts generalizing k with
 | nil => simp
 | cons t ts ih =>
   rw [List.flatMap_cons]
   cases k with
   | zero =>
     rw [Nat.zero_mul, Nat.zero_add, List.getElem?_append_left (by rw [bH]; omega)]
     rfl
   | succ k =>
     rw [List.getElem?_append_right (by rw [bH]; omega), bH, show (k + 1) * 15 + i - 15 = k * 15 + i by omega, ih k]
     rfl
theorem Pd {ts : List Tk} {cur new : List Value} {k off : Nat} {t t' : Tk} (hcur : cur.take (ts.length * 15) = ts.flatMap Tk.cells) (hk : ts[k]? = some t) (ho : off + new.length ≤ 15) (hs : jW t.cells off new = t'.cells) :
 (jW cur (k * 15 + off) new).take ((ts.set k t').length * 15) = (ts.set k t').flatMap Tk.cells ∧ (jW cur (k * 15 + off) new).length = cur.length := by
 have hkl := (List.getElem?_eq_some_iff.1 hk).1
 have hlen : ts.length * 15 ≤ cur.length := by
  have := congrArg List.length hcur
  rw [List.length_take, ZT] at this
  omega
 have hb : k * 15 + off + new.length ≤ cur.length := by omega
 refine ⟨?_, wZ hb⟩
 rw [List.length_set]
 apply List.ext_getElem?
 intro i
 rw [List.getElem?_take]
 by_cases hi : i < ts.length * 15
 · rw [if_pos hi]
   obtain ⟨q, r, rfl, hr⟩ : ∃ q r, i = q * 15 + r ∧ r < 15 := ⟨i / 15, i % 15, by omega, by omega⟩
   rw [BF _ _ _ hr, VJ hb]
   have hold : cur[q * 15 + r]? = (ts[q]?).bind (fun t => t.cells[r]?) := by
    rw [← BF _ _ _ hr, ← hcur, List.getElem?_take, if_pos hi]
   have hq : q < ts.length := by omega
   by_cases hqk : q = k
   · subst hqk
     rw [List.getElem?_set_self hq, hold, hk]
     show _ = t'.cells[r]?
     rw [← hs, VJ (by rw [bH]; omega)]
     show (if _ then t.cells[r]? else if _ then _ else t.cells[r]?) = _
     by_cases c1 : r < off
     · rw [if_pos (by omega), if_pos c1]
     · rw [if_neg (by omega), if_neg c1]
       by_cases c2 : r < off + new.length
       · rw [if_pos (by omega), if_pos c2]
         congr 1
         omega
       · rw [if_neg (by omega), if_neg c2]
   · rw [List.getElem?_set_ne (Ne.symm hqk), hold]
     by_cases c1 : q * 15 + r < k * 15 + off
     · rw [if_pos c1]
     · rw [if_neg c1]
       rw [if_neg (by omega)]
 · rw [if_neg hi, List.getElem?_eq_none (by rw [ZT, List.length_set]; omega)]
section
variable {P : Program} {w W : World} {L L' : List zz} {ops : Array Oper} {rest : List Oper} {o : Oper} {a : Act} {Q : Exit → Act → World → Prop}
end
theorem Ul {ts : List Tk} {cur : List Value} {k : Nat} {y : Tk} (hcur : cur.take (ts.length * 15) = ts.flatMap Tk.cells) (hk : ts[k]? = some y) :
 ∃ pre post, cur = pre ++ mid y.cells post ∧ pre.length = k * 15 ∧ ∀ y' : Tk, (pre ++ mid y'.cells post).take ((ts.set k y').length * 15) = (ts.set k y').flatMap Tk.cells := by
 have hkl := (List.getElem?_eq_some_iff.1 hk).1
 have hlen : ts.length * 15 ≤ cur.length := by
  have := congrArg List.length hcur
  rw [List.length_take, ZT] at this
  omega
 have hs : ∀ y' : Tk, jW cur (k * 15) y'.cells = cur.take (k * 15) ++ mid y'.cells (cur.drop (k * 15 + 15)) := fun y' => rfl
 have key : ∀ y' : Tk, (jW cur (k * 15) y'.cells).take ((ts.set k y').length * 15) = (ts.set k y').flatMap Tk.cells := fun y' => (Pd (off := 0) hcur hk (by rw [bH]; omega) (by
  unfold jW
  rw [List.take_zero, List.nil_append, bH, List.drop_eq_nil_of_le (by rw [bH]; omega), List.append_nil])).1
 refine ⟨cur.take (k * 15), cur.drop (k * 15 + 15), ?_, by rw [List.length_take]; omega, fun y' => by rw [← hs]; exact key y'⟩
 have h1 : (cur.drop (k * 15)).take 15 = y.cells := by
  apply List.ext_getElem?
  intro i
  rw [List.getElem?_take]
  by_cases hi : i < 15
  · rw [if_pos hi, List.getElem?_drop]
    have h2 := BF ts k i hi
    rw [← hcur, List.getElem?_take, if_pos (by omega), hk] at h2
    exact h2
  · rw [if_neg hi, List.getElem?_eq_none (by rw [bH]; omega)]
 have h2 : cur.drop (k * 15) = y.cells ++ cur.drop (k * 15 + 15) := by
  rw [← h1, ← List.drop_drop, List.take_append_drop]
 unfold mid
 rw [← h2, List.take_append_drop]
end Go.Proofs.YteanfgobpjdmnaaGreatDoor
