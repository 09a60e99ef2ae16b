/-
  The drawer of a path: its memory; the walk of add.
-/
import Derived.Test.YtapgmnjpfcohhaaGreatDoorMFixed
import Derived.Test.YtapgmnjpfcohhaaGreatDoorMGeo
import Derived.Test.YtapgmnjpfcohhaaGreatDoorMPathM
import Derived.Test.YtapgmnjpfcohhaaGreatDoorMSeqP
import Derived.Deep.AppendLies
import Derived.Deep.RegionLaw
import Derived.BigRegion
import Derived.WalkKit
import Derived.Below
import Derived.Deep.RegionHeld3
import Derived.Test.YtapgmnjpfcohhaaGreatDoorProg
import Derived.WalkSpells
import Derived.WalkLawsBesides
import Derived.Deep.QuietTactic
import Derived.BigQuiet
import Derived.Lib.ItoaNum
import Derived.Shelf.Small.Bits
import Derived.Shelf.Strconv.Itoa0
import Derived.Shelf.Bits.Mul64
import Derived.Shelf.Spec.BitsCarry
import Derived.ProofKit
import Derived.OpenShut
import Derived.ChangeSame
import Derived.Test.YtapgmnjpfcohhaaGreatDoorRows
import Derived.Deep.RegionWith
namespace Go.Proofs.YtapgmnjpfcohhaaGreatDoor
open Go.RowKit
set_option linter.unusedVariables false
set_option linter.unusedSimpArgs false
/-- block D and the row of v may differ; all else that was there is as it was -/
structure Drawn (w w' : World) (D : Nat) (row : Option Nat) : Prop where
  os : w'.os = w.os
  tape : w'.tape = w.tape
  output : w'.output = w.output
  size : w.heap.size ≤ w'.heap.size
  block : ∀ k, k < w.heap.size → k ≠ D → some k ≠ row → w'.heap[k]? = w.heap[k]?
theorem Drawn.refl (w : World) (D : Nat) (row : Option Nat) : Drawn w w D row := ⟨rfl, rfl, rfl, Nat.le_refl _, fun _ _ _ _ => rfl⟩
/-- two steps: the second one's row is the first one's, or was made on the way -/
theorem Drawn.trans {a b c : World} {D : Nat} {row row2 : Option Nat} (h : Drawn a b D row) (k : Drawn b c D row2) (hr : row2 = row ∨ ∀ j, row2 = some j → a.heap.size ≤ j) : Drawn a c D row :=
  ⟨k.os.trans h.os, k.tape.trans h.tape, k.output.trans h.output, Nat.le_trans h.size k.size, fun i hi hD hne => by
    rw [k.block i (Nat.lt_of_lt_of_le hi h.size) hD ?_, h.block i hi hD hne]
    rcases hr with hr | hr
    · rw [hr]; exact hne
    · intro e
      have := hr i e.symm
      omega⟩
theorem Drawn.of_below {w w' : World} (h : Below w.heap.size w w') (D : Nat) (row : Option Nat) : Drawn w w' D row := ⟨h.os, h.tape, h.output, h.size, fun k hk _ _ => h.block k hk⟩
theorem Drawn.of_grown {w w' : World} {row : Option Nat} (h : w.grownBy w' row) (D : Nat) : Drawn w w' D row := ⟨h.os, h.tape, h.output, h.size, fun k hk _ hr => h.block k hk hr⟩
theorem Drawn.setCell (w : World) (D o : Nat) (u : Value) (row : Option Nat) : Drawn w (w.setCell ⟨D, o, none⟩ u) D row :=
  ⟨rfl, rfl, rfl, by simp [World.setCell], fun k hk hD _ => Below.heap_setCell _ _ _ _ hD⟩
/-- what lies below a drawer and its row is as it was -/
theorem Drawn.below {W w w' : World} {D : Nat} {row : Option Nat} (hb : Below W.heap.size W w) (h : Drawn w w' D row) (hD : W.heap.size ≤ D) (hr : ∀ j, row = some j → W.heap.size ≤ j) : Below W.heap.size W w' :=
  ⟨h.os.trans hb.os, h.tape.trans hb.tape, h.output.trans hb.output, Nat.le_trans hb.size h.size, fun k hk => (h.block k (Nat.lt_of_lt_of_le hk hb.size) (by omega) (fun e => by have := hr k e.symm; omega)).trans (hb.block k hk)⟩
theorem Drawn.cell {w w' : World} {D : Nat} {row : Option Nat} (h : Drawn w w' D row) {b o : Nat} {v : Value} (hc : w.cell? ⟨b, o, none⟩ = some v) (hD : b ≠ D) (hr : some b ≠ row) : w'.cell? ⟨b, o, none⟩ = some v :=
  (World.cell?_of_block (w := w) (h.block b (World.block_lt_of_cell? _ _ hc) hD hr)).trans hc
theorem Drawn.own {w w' : World} {D : Nat} {row : Option Nat} (h : Drawn w w' D row) {b o : Nat} {v : Value} (hc : w.cell? ⟨b, o, none⟩ = some v ∧ w.frozen? ⟨b, o, none⟩ = false) (hD : b ≠ D) (hr : some b ≠ row) : w'.cell? ⟨b, o, none⟩ = some v ∧ w'.frozen? ⟨b, o, none⟩ = false :=
  ⟨h.cell hc.1 hD hr, (World.frozen?_of_block (w := w) (h.block b (World.block_lt_of_cell? _ _ hc.1) hD hr)).trans hc.2⟩
theorem owns_drew {w : World} {base : Nat} {e : TypeId} {size : Nat} {v : Value} {n : Nat} {xs : List Value} (h : w.ownsRow base e size v n xs) : w.drew.ownsRow base e size v n xs := h
theorem own_grown {w w1 : World} {row : Option Nat} (hg : w.grownBy w1 row) {a : Addr} {v : Value} (h : w.cell? a = some v ∧ w.frozen? a = false) (hne : some a.block ≠ row) : w1.cell? a = some v ∧ w1.frozen? a = false :=
  ⟨hg.cell h.1 hne, (World.frozen?_of_block (w := w) (hg.block a.block (World.block_lt_of_cell? _ _ h.1) hne)).trans h.2⟩
theorem drawn_set {a w : World} {D : Nat} {row : Option Nat} (h : Drawn a w D row) (o : Nat) (u : Value) : Drawn a (w.setCell ⟨D, o, none⟩ u) D row := h.trans (Drawn.setCell _ _ _ _ _) (.inl rfl)
theorem drawn_alloc {a w : World} {D : Nat} {row : Option Nat} (h : Drawn a w D row) (o : Obj) : Drawn a (w.alloc o) D row := h.trans (Drawn.of_below ((Below.refl _ w).alloc (Nat.le_refl _) o) _ _) (.inl rfl)
theorem drawn_drew {a w : World} {D : Nat} {row : Option Nat} (h : Drawn a w D row) : Drawn a w.drew D row := h.trans (Drawn.of_below (Below.refl _ w).drew _ _) (.inl rfl)
theorem drawn_grown {a w w1 : World} {D : Nat} {row : Option Nat} (h : Drawn a w D row) (hg : w.grownBy w1 row) : Drawn a w1 D row := h.trans (Drawn.of_grown hg _) (.inl rfl)
theorem hat_of {v : Value} {g H n : Nat} (h : v.ownBlock = some g ∨ g = H) (hH : n ≤ H) : v.ownBlock = some g ∨ n ≤ g := by
  rcases h with h | h
  · exact .inl h
  · exact .inr (by omega)
/-- the cells of an element -/
def elVals (x : El) : List Value := [.bool x.c, .int .i64 x.ax, .int .i64 x.ay, .int .i64 x.bx, .int .i64 x.b_y, .int .i64 x.cx, .int .i64 x.cy, .int .i64 x.r, .int .i64 x.f, .int .i64 x.s, .int .i64 x.L, .int .i64 x.n, .bool x.g]
/-- a drawer in memory: block D; its row from block base on; v: the slice -/
def drawAt (w : World) (base D : Nat) (els : List El) (px py : Int) (gp : Bool) (rad : Int) (v : Value) : Prop :=
  (w.cell? ⟨D, 0, none⟩ = some v ∧ w.frozen? ⟨D, 0, none⟩ = false) ∧ (w.cell? ⟨D, 1, none⟩ = some (.int .i64 px) ∧ w.frozen? ⟨D, 1, none⟩ = false) ∧ (w.cell? ⟨D, 2, none⟩ = some (.int .i64 py) ∧ w.frozen? ⟨D, 2, none⟩ = false) ∧ (w.cell? ⟨D, 3, none⟩ = some (.bool gp) ∧ w.frozen? ⟨D, 3, none⟩ = false) ∧ (w.cell? ⟨D, 4, none⟩ = some (.int .i64 rad) ∧ w.frozen? ⟨D, 4, none⟩ = false) ∧
  w.ownsRow base 40 13 v els.length (els.flatMap elVals) ∧ D < base ∧ base ≤ w.heap.size
theorem info_el : (Tryz.prog.info? 40).map (fun i => (i.zero.map Value.cells, i.size, i.bytes)) = some (some #[.bool false, .int .i64 0, .int .i64 0, .int .i64 0, .int .i64 0, .int .i64 0, .int .i64 0, .int .i64 0, .int .i64 0, .int .i64 0, .int .i64 0, .int .i64 0, .bool false], 13, 104) := by kernel_rfl
set_option maxRecDepth 100000 in
set_option maxHeartbeats 8000000 in
theorem dadd_any (base D : Nat) (els : List El) (px py : Int) (gp : Bool) (rad : Int) (v : Value) (x : El) (w : World) (hn : els.length ≤ 100000) (hd : drawAt w base D els px py gp rad v) :
    Calls Tryz.prog 82 #[.pointer (some ⟨D, 0, none⟩), .agg #[.bool x.c, .int .i64 x.ax, .int .i64 x.ay, .int .i64 x.bx, .int .i64 x.b_y, .int .i64 x.cx, .int .i64 x.cy, .int .i64 x.r, .int .i64 x.f, .int .i64 x.s, .int .i64 x.L, .int .i64 x.n, .bool x.g]] w fun e w' => ∃ g cap, e = .returned (.tuple #[]) ∧ (v.ownBlock = some g ∨ w.heap.size ≤ g) ∧ drawAt w' base D (els ++ [{ x with g := gp }]) x.bx x.b_y false rad (.slice (some ⟨g, 0, none⟩) (els.length + 1) cap) ∧ Drawn w w' D v.ownBlock := by
  obtain ⟨⟨d0a, d0b⟩, ⟨d1a, d1b⟩, ⟨d2a, d2b⟩, ⟨d3a, d3b⟩, ⟨d4a, d4b⟩, ho, hDb, hbw⟩ := hd
  have HO := hide ho
  clear ho
  have zD : D < w.heap.size := World.block_lt_of_cell? _ _ d0a
  have neD : w.heap.size ≠ D := by omega
  have neD2 : D ≠ w.heap.size := by omega
  obtain ⟨i0, hi, hz⟩ := Option.map_eq_some_iff.1 info_el
  simp only [Prod.mk.injEq] at hz
  obtain ⟨hz0, hz1, hz2⟩ := hz
  obtain ⟨z0, hz3, hz4⟩ := Option.map_eq_some_iff.1 hz0
  have hz5 : z0.cells.size = 13 := by rw [hz4]; rfl
  have neV : some D ≠ v.ownBlock := fun e => by have := (HO.out.lt D e.symm).1; omega
  have neB : some w.heap.size ≠ v.ownBlock := fun e => by have := (HO.out.lt _ e.symm).2; omega
  have od0 := hide (And.intro d0a d0b)
  have od1 := hide (And.intro d1a d1b)
  have od2 := hide (And.intro d2a d2b)
  have od4 := hide (And.intro d4a d4b)
  have od3 := hide (And.intro d3a d3b)
  clear hz0 hz4
  go_enter Tryz.func82, Tryz.ntmps82
  go_wp2_with fail
  go_region_law ((
    refine step_append_lies _ rfl (.tmp 16) (.tmp 18) 22 rfl base 40 i0 z0 13 104 Tryz.underlying22 hi hz3 hz1 hz2 hz5 (by decide) v els.length (els.flatMap elVals) (by simp [Act.eval, Act.put]) (by repeat (first | exact HO.out | (refine World.ownsRow.alloc ?_ _) | (refine owns_drew ?_) | (refine ownsRow_setCell_below ?_ (by first | assumption | omega | (simp; omega)) _))) ⟨_, 0, none⟩ 1 1 [.bool x.c, .int .i64 x.ax, .int .i64 x.ay, .int .i64 x.bx, .int .i64 x.b_y, .int .i64 x.cx, .int .i64 x.cy, .int .i64 x.r, .int .i64 x.f, .int .i64 x.s, .int .i64 x.L, .int .i64 x.n, .bool gp] (by simp [Act.eval, Act.put]; rfl) rfl (by
      intro j u hj
      match j, hj with
      | 0, hj => simp at hj; subst hj; first | (simp [Addr.add]; done) | (simp [go_sem, Addr.add]; done) | exact cell_new (by simp) rfl
      | 1, hj => simp at hj; subst hj; first | (simp [Addr.add]; done) | (simp [go_sem, Addr.add]; done) | exact cell_new (by simp) rfl
      | 2, hj => simp at hj; subst hj; first | (simp [Addr.add]; done) | (simp [go_sem, Addr.add]; done) | exact cell_new (by simp) rfl
      | 3, hj => simp at hj; subst hj; first | (simp [Addr.add]; done) | (simp [go_sem, Addr.add]; done) | exact cell_new (by simp) rfl
      | 4, hj => simp at hj; subst hj; first | (simp [Addr.add]; done) | (simp [go_sem, Addr.add]; done) | exact cell_new (by simp) rfl
      | 5, hj => simp at hj; subst hj; first | (simp [Addr.add]; done) | (simp [go_sem, Addr.add]; done) | exact cell_new (by simp) rfl
      | 6, hj => simp at hj; subst hj; first | (simp [Addr.add]; done) | (simp [go_sem, Addr.add]; done) | exact cell_new (by simp) rfl
      | 7, hj => simp at hj; subst hj; first | (simp [Addr.add]; done) | (simp [go_sem, Addr.add]; done) | exact cell_new (by simp) rfl
      | 8, hj => simp at hj; subst hj; first | (simp [Addr.add]; done) | (simp [go_sem, Addr.add]; done) | exact cell_new (by simp) rfl
      | 9, hj => simp at hj; subst hj; first | (simp [Addr.add]; done) | (simp [go_sem, Addr.add]; done) | exact cell_new (by simp) rfl
      | 10, hj => simp at hj; subst hj; first | (simp [Addr.add]; done) | (simp [go_sem, Addr.add]; done) | exact cell_new (by simp) rfl
      | 11, hj => simp at hj; subst hj; first | (simp [Addr.add]; done) | (simp [go_sem, Addr.add]; done) | exact cell_new (by simp) rfl
      | 12, hj => simp at hj; subst hj; first | (simp [Addr.add]; done) | (simp [go_sem, Addr.add]; done) | exact cell_new (by simp) rfl
      | j + 13, hj => simp at hj) (by simp [Value.oneCell']) (by decide) (by unfold maxLen; omega) (by omega) (by simp; omega) _ rfl (fun g cap w1 hown hgrow hat hlt => ?_);
    have e0 := own_grown hgrow (a := ⟨D, 0, none⟩) (v := v) (by repeat (first | exact od0.out | exact od1.out | exact od2.out | exact od3.out | exact od4.out | (with_reducible apply own_same) | ((with_reducible refine own_set ?_ ?_ _); (· first | (simp; done) | (simp; omega))) | ((with_reducible refine own_new ?_ ?_); (· (simp; done)); (· rfl)) | (with_reducible refine own_alloc ?_ _) | (with_reducible refine own_drew ?_))) neV;
    have e1 := own_grown hgrow (a := ⟨D, 1, none⟩) (v := .int .i64 px) (by repeat (first | exact od0.out | exact od1.out | exact od2.out | exact od3.out | exact od4.out | (with_reducible apply own_same) | ((with_reducible refine own_set ?_ ?_ _); (· first | (simp; done) | (simp; omega))) | ((with_reducible refine own_new ?_ ?_); (· (simp; done)); (· rfl)) | (with_reducible refine own_alloc ?_ _) | (with_reducible refine own_drew ?_))) neV;
    have e2 := own_grown hgrow (a := ⟨D, 2, none⟩) (v := .int .i64 py) (by repeat (first | exact od0.out | exact od1.out | exact od2.out | exact od3.out | exact od4.out | (with_reducible apply own_same) | ((with_reducible refine own_set ?_ ?_ _); (· first | (simp; done) | (simp; omega))) | ((with_reducible refine own_new ?_ ?_); (· (simp; done)); (· rfl)) | (with_reducible refine own_alloc ?_ _) | (with_reducible refine own_drew ?_))) neV;
    have e3 := own_grown hgrow (a := ⟨D, 3, none⟩) (v := .bool false) (by repeat (first | exact od0.out | exact od1.out | exact od2.out | exact od3.out | exact od4.out | (with_reducible apply own_same) | ((with_reducible refine own_set ?_ ?_ _); (· first | (simp; done) | (simp; omega))) | ((with_reducible refine own_new ?_ ?_); (· (simp; done)); (· rfl)) | (with_reducible refine own_alloc ?_ _) | (with_reducible refine own_drew ?_))) neV;
    have e4 := own_grown hgrow (a := ⟨D, 4, none⟩) (v := .int .i64 rad) (by repeat (first | exact od0.out | exact od1.out | exact od2.out | exact od3.out | exact od4.out | (with_reducible apply own_same) | ((with_reducible refine own_set ?_ ?_ _); (· first | (simp; done) | (simp; omega))) | ((with_reducible refine own_new ?_ ?_); (· (simp; done)); (· rfl)) | (with_reducible refine own_alloc ?_ _) | (with_reducible refine own_drew ?_))) neV;
    have b3 := own_grown hgrow (a := ⟨w.heap.size, 3, none⟩) (v := .int .i64 x.bx) (by repeat (first | exact od0.out | exact od1.out | exact od2.out | exact od3.out | exact od4.out | (with_reducible apply own_same) | ((with_reducible refine own_set ?_ ?_ _); (· first | (simp; done) | (simp; omega))) | ((with_reducible refine own_new ?_ ?_); (· (simp; done)); (· rfl)) | (with_reducible refine own_alloc ?_ _) | (with_reducible refine own_drew ?_))) neB;
    have b4 := own_grown hgrow (a := ⟨w.heap.size, 4, none⟩) (v := .int .i64 x.b_y) (by repeat (first | exact od0.out | exact od1.out | exact od2.out | exact od3.out | exact od4.out | (with_reducible apply own_same) | ((with_reducible refine own_set ?_ ?_ _); (· first | (simp; done) | (simp; omega))) | ((with_reducible refine own_new ?_ ?_); (· (simp; done)); (· rfl)) | (with_reducible refine own_alloc ?_ _) | (with_reducible refine own_drew ?_))) neB;
    have oe0 := hide e0; have oe1 := hide e1; have oe2 := hide e2; have oe3 := hide e3; have oe4 := hide e4;
    obtain ⟨e0a, e0b⟩ := e0; obtain ⟨e1a, e1b⟩ := e1; obtain ⟨e2a, e2b⟩ := e2; obtain ⟨b3a, b3b⟩ := b3; obtain ⟨b4a, b4b⟩ := b4;
    have hat2 : v.ownBlock = some g ∨ w.heap.size ≤ g := hat_of hat (by simp; try omega);
    have hsz1 := hgrow.size;
    have HW := hide hown;
    have HG := hide (drawn_grown (a := w) (D := D) (by repeat (first | exact Drawn.refl _ _ _ | (with_reducible refine drawn_set ?_ _ _) | (with_reducible refine drawn_alloc ?_ _) | (with_reducible refine drawn_drew ?_))) hgrow); clear hown hgrow hat))
  all_goals
    go_wp2_with fail
    have hbs := Nat.le_trans hbw HG.out.size
    refine bodyPost_end (v := .tuple #[]) (by simp [results, Tryz.results82, go_sem]) rfl ?_
    exact ⟨g, cap, rfl, hat2, ⟨(own_set (by simp) (own_set (by simp) (own_same oe0.out _) _) _), (own_set (by simp) (own_same (own_set (by simp) oe1.out _) _) _), (own_same (own_set (by simp) (own_set (by simp) oe2.out _) _) _), (own_set (by simp) (own_set (by simp) (own_set (by simp) oe3.out _) _) _), (own_set (by simp) (own_set (by simp) (own_set (by simp) oe4.out _) _) _), by
      have h := ownsRow_setCell_below (ownsRow_setCell_below (ownsRow_setCell_below HW.out (a := ⟨D, 0, none⟩) hDb (.slice (some ⟨g, 0, none⟩) (els.length + 1) cap)) (a := ⟨D, 1, none⟩) hDb (.int .i64 x.bx)) (a := ⟨D, 2, none⟩) hDb (.int .i64 x.b_y)
      simpa [List.flatMap_append, elVals] using h, hDb, by simpa using hbs⟩, drawn_set (drawn_set (drawn_set HG.out 0 _) 1 _) 2 _⟩
end Go.Proofs.YtapgmnjpfcohhaaGreatDoor
/-
  The drawer's line.
-/
namespace Go.Proofs.YtapgmnjpfcohhaaGreatDoor
open Go.RowKit
set_option linter.unusedVariables false
set_option linter.unusedSimpArgs false
theorem owns_belowD {wr w1 : World} {base : Nat} {e : TypeId} {size : Nat} {v : Value} {n : Nat} {xs : List Value} (hb : Below wr.heap.size wr w1) (h : wr.ownsRow base e size v n xs) : w1.ownsRow base e size v n xs := by
  obtain ⟨h1, h2⟩ := h
  refine ⟨h1, ?_⟩
  rcases h2 with h2 | ⟨g, cap, cur, hv, hg, hh, r⟩
  · exact .inl h2
  · refine .inr ⟨g, cap, cur, hv, hg, ?_, r⟩
    have hl : g < wr.heap.size := by
      rcases Nat.lt_or_ge g wr.heap.size with hlt | hge
      · exact hlt
      · rw [Array.getElem?_eq_none hge] at hh; cases hh
    rw [hb.block g hl]; exact hh
theorem drawAt_below {w w1 : World} {base D : Nat} {els : List El} {px py : Int} {gp : Bool} {rad : Int} {v : Value} (hb : Below w.heap.size w w1) (h : drawAt w base D els px py gp rad v) : drawAt w1 base D els px py gp rad v := by
  obtain ⟨h0, h1, h2, h3, h4, h5, h6, h7⟩ := h
  exact ⟨own_below hb h0, own_below hb h1, own_below hb h2, own_below hb h3, own_below hb h4, owns_belowD hb h5, h6, Nat.le_trans h7 hb.size⟩
/-- a call behind steps that touch nothing old: the same of the whole -/
theorem draw_behind {w w1 w2 : World} {D g : Nat} {v : Value} (hb : Below w.heap.size w w1) (hg : v.ownBlock = some g ∨ w1.heap.size ≤ g) (h : Drawn w1 w2 D v.ownBlock) : (v.ownBlock = some g ∨ w.heap.size ≤ g) ∧ Drawn w w2 D v.ownBlock :=
  ⟨hg.imp id fun k => Nat.le_trans hb.size k, (Drawn.of_below hb D v.ownBlock).trans h (.inl rfl)⟩
set_option maxRecDepth 100000 in
set_option maxHeartbeats 4000000 in
theorem line_same (base D : Nat) (els : List El) (px py : Int) (gp : Bool) (rad : Int) (v : Value) (n : Int) (w : World) (hd : drawAt w base D els px py gp rad v) :
    Calls Tryz.prog 36 #[.pointer (some ⟨D, 0, none⟩), .agg #[.int .i64 px, .int .i64 py], .int .i64 n] w fun e w' => e = .returned (.tuple #[]) ∧ Below w.heap.size w w' := by
  obtain ⟨⟨d0a, d0b⟩, ⟨d1a, d1b⟩, ⟨d2a, d2b⟩, ⟨d3a, d3b⟩, ⟨d4a, d4b⟩, ho, hDb, hbw⟩ := hd
  have HO := hide ho
  clear ho
  have zD : D < w.heap.size := World.block_lt_of_cell? _ _ d0a
  have neD : w.heap.size ≠ D := by omega
  have neD2 : D ≠ w.heap.size := by omega
  go_enter Tryz.func36, Tryz.ntmps36
  go_wp2_with fail
  go_quiet (fail)
  go_wp2_with fail
  exact bodyPost_end (v := .tuple #[]) (by simp [results, Tryz.results36, go_sem]) rfl ⟨rfl, by (repeat (with_reducible (first | assumption | exact Below.refl _ _ | refine Below.drew ?_ | refine below_drewN ?_ _ | refine below_set ?_ (by simp; try omega) _ | refine below_alloc ?_ (Nat.le_refl _) _ | refine below_sub (by assumption) ?_)))⟩
end Go.Proofs.YtapgmnjpfcohhaaGreatDoor
