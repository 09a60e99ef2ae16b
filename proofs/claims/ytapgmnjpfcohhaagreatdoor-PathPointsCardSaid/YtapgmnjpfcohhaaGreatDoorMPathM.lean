/-
  Cells of the call that are not frozen, with their values.
-/
import Derived.Test.YtapgmnjpfcohhaaGreatDoorMGeo
import Derived.Test.YtapgmnjpfcohhaaGreatDoorMSeqP
import Derived.WalkKit
import Derived.Below
import Derived.Deep.RegionHeld3
import Derived.Test.YtapgmnjpfcohhaaGreatDoorProg
import Derived.WalkSpells
import Derived.WalkLawsBesides
import Derived.Deep.QuietTactic
import Derived.BigQuiet
import Derived.Lib.ItoaNum
import Derived.Shelf.Small.Bits
import Derived.Shelf.Strconv.Itoa0
import Derived.Shelf.Bits.Mul64
import Derived.Shelf.Spec.BitsCarry
import Derived.ProofKit
import Derived.OpenShut
import Derived.ChangeSame
import Derived.Test.YtapgmnjpfcohhaaGreatDoorRows
namespace Go.Proofs.YtapgmnjpfcohhaaGreatDoor
open Go.RowKit
set_option linter.unusedVariables false
theorem own_below {W w1 : World} (hb : Below W.heap.size W w1) {a : Addr} {v : Value} (h : W.cell? a = some v ∧ W.frozen? a = false) : w1.cell? a = some v ∧ w1.frozen? a = false :=
  have hl := World.block_lt_of_cell? W a h.1
  ⟨(hb.cell hl).trans h.1, (hb.frozen hl).trans h.2⟩
theorem own_new {w : World} {c : Array Value} {t : TypeId} {n i : Nat} {v : Value} (hn : n = w.heap.size) (h : c[i]? = some v) : (w.alloc (.cells c t)).cell? ⟨n, i, none⟩ = some v ∧ (w.alloc (.cells c t)).frozen? ⟨n, i, none⟩ = false :=
  ⟨cell_new hn h, by subst hn; simp⟩
theorem own_alloc {w : World} {a : Addr} {v : Value} (h : w.cell? a = some v ∧ w.frozen? a = false) (o : Obj) : (w.alloc o).cell? a = some v ∧ (w.alloc o).frozen? a = false :=
  own_below ((Below.refl _ w).alloc (Nat.le_refl _) o) h
theorem own_same {w : World} {a : Addr} {v : Value} (h : w.cell? a = some v ∧ w.frozen? a = false) (u : Value) : (w.setCell a u).cell? a = some u ∧ (w.setCell a u).frozen? a = false :=
  ⟨World.cell?_setCell_same w a u h.1, by rw [← h.2]; simp⟩
theorem own_set {w : World} {a p : Addr} {v : Value} (hp : p ≠ a) (h : w.cell? a = some v ∧ w.frozen? a = false) (u : Value) : (w.setCell p u).cell? a = some v ∧ (w.setCell p u).frozen? a = false :=
  ⟨(World.cell?_setCell_other w p a u hp).trans h.1, by rw [← h.2]; simp⟩
theorem fly_eq {v0 v1 v2 v3 v4 v5 v6 v7 v8 v9 e0 u0 u1 u2 u3 u4 u5 u6 u7 u8 u9 e : Int} (h : ([u0, u1, u2, u3, u4, u5, u6, u7, u8, u9], e) = ([v0, v1, v2, v3, v4, v5, v6, v7, v8, v9], e0)) :
    (u0 = v0 ∧ u1 = v1 ∧ u2 = v2 ∧ u3 = v3 ∧ u4 = v4) ∧ (u5 = v5 ∧ u6 = v6 ∧ u7 = v7 ∧ u8 = v8 ∧ u9 = v9) ∧ e = e0 := by
  simpa [and_assoc] using h
theorem mine_own {w : World} {a : Addr} {v : Value} (h : w.cell? a = some v ∧ w.frozen? a = false) : w.cell? a = some (cellV w a) ∧ w.frozen? a = false := mine_of h.1 h.2
theorem own_drew {w : World} {a : Addr} {v : Value} (h : w.cell? a = some v ∧ w.frozen? a = false) : w.drew.cell? a = some v ∧ w.drew.frozen? a = false := h
theorem own_drewN {w : World} {a : Addr} {v : Value} (h : w.cell? a = some v ∧ w.frozen? a = false) (n : Nat) : (w.drewN n).cell? a = some v ∧ (w.drewN n).frozen? a = false := h
end Go.Proofs.YtapgmnjpfcohhaaGreatDoor

/-
  Lists of integers in memory; the walk of same over equal lists.
-/
namespace Go.Proofs.YtapgmnjpfcohhaaGreatDoor
open Go.RowKit
set_option linter.unusedVariables false
set_option linter.unusedSimpArgs false
end Go.Proofs.YtapgmnjpfcohhaaGreatDoor
/-
  A path in memory: its elements, one behind the other.
-/
namespace Go.Proofs.YtapgmnjpfcohhaaGreatDoor
open Go.RowKit
set_option linter.unusedVariables false
set_option linter.unusedSimpArgs false
/-- the 13 cells of an element -/
def elAt (w : World) (b o : Nat) (x : El) : Prop :=
  w.cell? ⟨b, o, none⟩ = some (.bool x.c) ∧ w.cell? ⟨b, o + 1, none⟩ = some (.int .i64 x.ax) ∧ w.cell? ⟨b, o + 2, none⟩ = some (.int .i64 x.ay) ∧ w.cell? ⟨b, o + 3, none⟩ = some (.int .i64 x.bx) ∧ w.cell? ⟨b, o + 4, none⟩ = some (.int .i64 x.b_y) ∧ w.cell? ⟨b, o + 5, none⟩ = some (.int .i64 x.cx) ∧ w.cell? ⟨b, o + 6, none⟩ = some (.int .i64 x.cy) ∧ w.cell? ⟨b, o + 7, none⟩ = some (.int .i64 x.r) ∧ w.cell? ⟨b, o + 8, none⟩ = some (.int .i64 x.f) ∧ w.cell? ⟨b, o + 9, none⟩ = some (.int .i64 x.s) ∧ w.cell? ⟨b, o + 10, none⟩ = some (.int .i64 x.L) ∧ w.cell? ⟨b, o + 11, none⟩ = some (.int .i64 x.n) ∧ w.cell? ⟨b, o + 12, none⟩ = some (.bool x.g)
/-- the elements of a slice -/
def pathAt (w : World) (S : Option Addr) (l : List El) : Prop := ∀ (k : Nat) (x : El), l[k]? = some x → ∃ b o, S = some ⟨b, o, none⟩ ∧ elAt w b (o + k * 13) x
theorem elAt_below {W w1 : World} (hb : Below W.heap.size W w1) {b o : Nat} {x : El} (h : elAt W b o x) : elAt w1 b o x := by
  unfold elAt at *
  obtain ⟨h0, h1, h2, h3, h4, h5, h6, h7, h8, h9, h10, h11, h12⟩ := h
  exact ⟨cell_below hb h0, cell_below hb h1, cell_below hb h2, cell_below hb h3, cell_below hb h4, cell_below hb h5, cell_below hb h6, cell_below hb h7, cell_below hb h8, cell_below hb h9, cell_below hb h10, cell_below hb h11, cell_below hb h12⟩
theorem pathAt_below {W w1 : World} (hb : Below W.heap.size W w1) {S : Option Addr} {l : List El} (h : pathAt W S l) : pathAt w1 S l := by
  intro k x hk
  obtain ⟨b, o, e, h⟩ := h k x hk
  exact ⟨b, o, e, elAt_below hb h⟩
theorem pathAt_get {W : World} {b o k : Nat} {l : List El} {x : El} (h : pathAt W (some ⟨b, o, none⟩) l) (hk : l[k]? = some x) : elAt W b (o + k * 13) x := by
  obtain ⟨b', o', e, h⟩ := h k x hk
  injection e with e
  injection e with e1 e2
  subst e1; subst e2
  exact h
theorem pathAt_some {W : World} {S : Option Addr} {l : List El} (h : pathAt W S l) (h0 : 0 < l.length) : ∃ b o, S = some ⟨b, o, none⟩ := by
  obtain ⟨b, o, e, _⟩ := h 0 l[0] (List.getElem?_eq_getElem h0)
  exact ⟨b, o, e⟩
end Go.Proofs.YtapgmnjpfcohhaaGreatDoor
