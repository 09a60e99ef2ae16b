/-
  The walks of points: their validity, vectors and products.
-/
import Derived.Test.YtbhpklpkcgcmfaaGreatDoorMFixed
import Derived.Test.YtbhpklpkcgcmfaaGreatDoorMSeqP
import Derived.Deep.RegionHeld3
set_option maxRecDepth 100000
set_option maxHeartbeats 16000000
namespace Go.Proofs.YtbhpklpkcgcmfaaGreatDoor
open Go.RowKit
set_option linter.unusedVariables false
theorem vldB_eq (x y : Int) : (decide (-2000000 ≤ x) && decide (x ≤ 2000000) && decide (-2000000 ≤ y) && decide (y ≤ 2000000)) = vldB x y := by
 unfold vldB; simp [Bool.and_assoc]
theorem pvalid_any (x y : Int) (w : World) :
 Calls Tryz.prog 46 #[.agg #[.int .i64 x, .int .i64 y]] w fun e w' => e = .returned (.bool (vldB x y)) ∧ w' = w.alloc (.cells #[.int .i64 x, .int .i64 y] 26) := by
 go_enter Tryz.func46, Tryz.ntmps46
 go_wp2
 all_goals
  go_ret
  exact ⟨ret_bool (by rw [← vldB_eq]; simp; try omega), rfl⟩
theorem vector_any (ax ay bx b_y : Int) (h1 : -4000000 ≤ bx - ax) (h2 : bx - ax ≤ 4000000) (h3 : -4000000 ≤ b_y - ay) (h4 : b_y - ay ≤ 4000000) (w : World) :
 Calls Tryz.prog 41 #[.agg #[.int .i64 ax, .int .i64 ay], .agg #[.int .i64 bx, .int .i64 b_y]] w fun e w' => e = .returned (.agg #[.int .i64 (bx - ax), .int .i64 (b_y - ay)]) ∧ w' = ((w.alloc (.cells #[.int .i64 ax, .int .i64 ay] 26)).alloc (.cells #[.int .i64 bx, .int .i64 b_y] 26)).alloc (.cells #[.int .i64 (bx - ax), .int .i64 (b_y - ay)] 26) := by
 go_enter Tryz.func41, Tryz.ntmps41
 go_wp2
 exact bodyPost_ret (v := .agg #[.int .i64 (bx - ax), .int .i64 (b_y - ay)]) (by simp [results, Tryz.results41, go_sem]) rfl ⟨rfl, rfl⟩
theorem prod_bd {a b : Int} (h1 : -4000000 ≤ a) (h2 : a ≤ 4000000) (h3 : -4000000 ≤ b) (h4 : b ≤ 4000000) : -16000000000000 ≤ a * b ∧ a * b ≤ 16000000000000 := by
 have e1 := Int.mul_nonneg (show 0 ≤ 4000000 - a by omega) (show 0 ≤ 4000000 - b by omega)
 have e2 := Int.mul_nonneg (show 0 ≤ 4000000 + a by omega) (show 0 ≤ 4000000 + b by omega)
 have e3 := Int.mul_nonneg (show 0 ≤ 4000000 - a by omega) (show 0 ≤ 4000000 + b by omega)
 have e4 := Int.mul_nonneg (show 0 ≤ 4000000 + a by omega) (show 0 ≤ 4000000 - b by omega)
 have f1 : (4000000 - a) * (4000000 - b) = 16000000000000 - 4000000 * a - 4000000 * b + a * b := by grind
 have f2 : (4000000 + a) * (4000000 + b) = 16000000000000 + 4000000 * a + 4000000 * b + a * b := by grind
 have f3 : (4000000 - a) * (4000000 + b) = 16000000000000 - 4000000 * a + 4000000 * b - a * b := by grind
 have f4 : (4000000 + a) * (4000000 - b) = 16000000000000 + 4000000 * a - 4000000 * b - a * b := by grind
 omega
theorem cross_any (dx dy ex ey : Int) (h1 : -4000000 ≤ dx) (h2 : dx ≤ 4000000) (h3 : -4000000 ≤ dy) (h4 : dy ≤ 4000000) (h5 : -4000000 ≤ ex) (h6 : ex ≤ 4000000) (h7 : -4000000 ≤ ey) (h8 : ey ≤ 4000000) (w : World) :
 Calls Tryz.prog 45 #[.agg #[.int .i64 dx, .int .i64 dy], .agg #[.int .i64 ex, .int .i64 ey]] w fun e w' => e = .returned (.int .i64 (dx * ey - dy * ex)) ∧ w' = (w.alloc (.cells #[.int .i64 dx, .int .i64 dy] 26)).alloc (.cells #[.int .i64 ex, .int .i64 ey] 26) := by
 have p1 := prod_bd (a := dx) (b := ey) (by omega) (by omega) (by omega) (by omega)
 have p2 := prod_bd (a := dy) (b := ex) (by omega) (by omega) (by omega) (by omega)
 go_enter Tryz.func45, Tryz.ntmps45
 go_wp2
 go_ret
 exact ⟨rfl, rfl⟩
theorem dot_any (dx dy ex ey : Int) (h1 : -4000000 ≤ dx) (h2 : dx ≤ 4000000) (h3 : -4000000 ≤ dy) (h4 : dy ≤ 4000000) (h5 : -4000000 ≤ ex) (h6 : ex ≤ 4000000) (h7 : -4000000 ≤ ey) (h8 : ey ≤ 4000000) (w : World) :
 Calls Tryz.prog 43 #[.agg #[.int .i64 dx, .int .i64 dy], .agg #[.int .i64 ex, .int .i64 ey]] w fun e w' => e = .returned (.int .i64 (dx * ex + dy * ey)) ∧ w' = (w.alloc (.cells #[.int .i64 dx, .int .i64 dy] 26)).alloc (.cells #[.int .i64 ex, .int .i64 ey] 26) := by
 have p1 := prod_bd (a := dx) (b := ex) (by omega) (by omega) (by omega) (by omega)
 have p2 := prod_bd (a := dy) (b := ey) (by omega) (by omega) (by omega) (by omega)
 go_enter Tryz.func43, Tryz.ntmps43
 go_wp2
 go_ret
 exact ⟨rfl, rfl⟩
theorem below_alloc {B : Nat} {a w : World} (h : Below B a w) (hB : B ≤ a.heap.size) (o : Obj) : Below B a (w.alloc o) := h.alloc (Nat.le_trans hB h.size) o
theorem below_sub {w1 w2 a : World} (h : Below w1.heap.size w1 w2) (k : Below a.heap.size a w1) : Below a.heap.size a w2 := k.trans (h.mono k.size)
theorem compare_any (a b : Int) (w : World) :
 Calls Tryz.prog 170 #[.int .i64 a, .int .i64 b] w fun e w' => e = .returned (.int .i64 (cmp3 a b)) ∧ w = w' := by
 go_enter Tryz.func170, Tryz.ntmps170
 go_wp2
 all_goals
  go_ret
  exact ⟨ret_int (by unfold cmp3; omega), rfl⟩
theorem vector_b (ax ay bx b_y : Int) (h1 : -4000000 ≤ bx - ax) (h2 : bx - ax ≤ 4000000) (h3 : -4000000 ≤ b_y - ay) (h4 : b_y - ay ≤ 4000000) (w : World) :
 Calls Tryz.prog 41 #[.agg #[.int .i64 ax, .int .i64 ay], .agg #[.int .i64 bx, .int .i64 b_y]] w fun e w' => e = .returned (.agg #[.int .i64 (bx - ax), .int .i64 (b_y - ay)]) ∧ Below w.heap.size w w' :=
 (vector_any ax ay bx b_y h1 h2 h3 h4 w).mono fun e w' ⟨he, hw⟩ => ⟨he, by rw [hw]; exact below_alloc (below_alloc (below_alloc (Below.refl _ _) (Nat.le_refl _) _) (Nat.le_refl _) _) (Nat.le_refl _) _⟩
theorem pvalid_b (x y : Int) (w : World) : Calls Tryz.prog 46 #[.agg #[.int .i64 x, .int .i64 y]] w fun e w' => e = .returned (.bool (vldB x y)) ∧ Below w.heap.size w w' :=
 (pvalid_any x y w).mono fun e w' ⟨he, hw⟩ => ⟨he, by rw [hw]; exact below_alloc (Below.refl _ _) (Nat.le_refl _) _⟩
theorem cross_b (dx dy ex ey : Int) (h1 : -4000000 ≤ dx) (h2 : dx ≤ 4000000) (h3 : -4000000 ≤ dy) (h4 : dy ≤ 4000000) (h5 : -4000000 ≤ ex) (h6 : ex ≤ 4000000) (h7 : -4000000 ≤ ey) (h8 : ey ≤ 4000000) (w : World) :
 Calls Tryz.prog 45 #[.agg #[.int .i64 dx, .int .i64 dy], .agg #[.int .i64 ex, .int .i64 ey]] w fun e w' => e = .returned (.int .i64 (dx * ey - dy * ex)) ∧ Below w.heap.size w w' :=
 (cross_any dx dy ex ey h1 h2 h3 h4 h5 h6 h7 h8 w).mono fun e w' ⟨he, hw⟩ => ⟨he, by rw [hw]; exact below_alloc (below_alloc (Below.refl _ _) (Nat.le_refl _) _) (Nat.le_refl _) _⟩
theorem dot_b (dx dy ex ey : Int) (h1 : -4000000 ≤ dx) (h2 : dx ≤ 4000000) (h3 : -4000000 ≤ dy) (h4 : dy ≤ 4000000) (h5 : -4000000 ≤ ex) (h6 : ex ≤ 4000000) (h7 : -4000000 ≤ ey) (h8 : ey ≤ 4000000) (w : World) :
 Calls Tryz.prog 43 #[.agg #[.int .i64 dx, .int .i64 dy], .agg #[.int .i64 ex, .int .i64 ey]] w fun e w' => e = .returned (.int .i64 (dx * ex + dy * ey)) ∧ Below w.heap.size w w' :=
 (dot_any dx dy ex ey h1 h2 h3 h4 h5 h6 h7 h8 w).mono fun e w' ⟨he, hw⟩ => ⟨he, by rw [hw]; exact below_alloc (below_alloc (Below.refl _ _) (Nat.le_refl _) _) (Nat.le_refl _) _⟩
end Go.Proofs.YtbhpklpkcgcmfaaGreatDoor
/-
  The walk of line.valid: points handed in as a slice.
-/
namespace Go.Proofs.YtbhpklpkcgcmfaaGreatDoor
open Go.RowKit
set_option linter.unusedVariables false
set_option linter.unusedSimpArgs false
theorem new_at (W : World) (o : Obj) (k : Nat) (hk : W.heap.size = k) : (W.alloc o).heap[k]? = some o := by subst hk; exact heap_alloc_new W o
theorem vldB_bd {x y : Int} (h : vldB x y = true) : -2000000 ≤ x ∧ x ≤ 2000000 ∧ -2000000 ≤ y ∧ y ≤ 2000000 := by unfold vldB at h; exact of_decide_eq_true h
theorem cell_below {W w1 : World} (hb : Below W.heap.size W w1) {b o : Nat} {v : Value} (h : W.cell? ⟨b, o, none⟩ = some v) : w1.cell? ⟨b, o, none⟩ = some v := (hb.cell (World.block_lt_of_cell? W _ h)).trans h
theorem cell_new {w : World} {c : Array Value} {t : TypeId} {n i : Nat} {v : Value} (hn : n = w.heap.size) (h : c[i]? = some v) : (w.alloc (.cells c t)).cell? ⟨n, i, none⟩ = some v := (World.cell?_alloc_at (w := w) c t n i hn).trans h
theorem cell_alloc {w : World} {a : Addr} {v : Value} (h : w.cell? a = some v) (o : Obj) : (w.alloc o).cell? a = some v := (World.cell?_alloc_some w a o (by rw [h]; rfl)).trans h
theorem cell_drew {w : World} {a : Addr} {v : Value} (h : w.cell? a = some v) : w.drew.cell? a = some v := h
theorem cell_drewN {w : World} {a : Addr} {v : Value} (h : w.cell? a = some v) (n : Nat) : (w.drewN n).cell? a = some v := h
def ptsB (l : List (Int × Int)) : Bool := l.all fun p => vldB p.1 p.2
def ptAt (w : World) (b k : Nat) (x y : Int) : Prop := w.cell? ⟨b, k * 2, none⟩ = some (.int .i64 x) ∧ w.cell? ⟨b, k * 2 + 1, none⟩ = some (.int .i64 y)
theorem ptsB_step {l : List (Int × Int)} {k : Nat} {x y : Int} (hp : ptsB (l.take k) = true) (hk : k < l.length) (hx : l[k] = (x, y)) (hv : vldB x y = true) : ptsB (l.take (k + 1)) = true := by
 unfold ptsB at *
 rw [List.take_succ_eq_append_getElem hk, List.all_append, hp, hx]
 simp [hv]
theorem ptsB_no {l : List (Int × Int)} {k : Nat} {x y : Int} (hk : k < l.length) (hx : l[k] = (x, y)) (hv : vldB x y = false) : ptsB l = false := by
 unfold ptsB
 rw [List.all_eq_false]
 exact ⟨(x, y), by rw [← hx]; exact List.getElem_mem hk, by simp [hv]⟩
theorem valid_any (l : List (Int × Int)) (b : Nat) (w : World) (hb : b < w.heap.size) (hl : l.length ≤ 1000) (h : Hid (∀ (k : Nat) (x y : Int), l[k]? = some (x, y) → ptAt w b k x y)) :
 Calls Tryz.prog 40 #[.slice (some ⟨b, 0, none⟩) l.length l.length] w fun e w' => e = .returned (.bool (ptsB l)) ∧ Below w.heap.size w w' := by
 go_enter Tryz.func40, Tryz.ntmps40
 go_wp2_with fail
 go_loopw [7] (fun i W => ∃ k : Nat, k ≤ l.length ∧ i = .int .i64 k ∧ ptsB (l.take k) = true ∧ Below w.heap.size w W) (fun i _ => l.length - (intOf i).toNat)
 case atStart => exact ⟨0, Nat.zero_le _, rfl, rfl, Below.refl _ _⟩
 case round =>
  obtain ⟨k, hk, rfl, hp, hB⟩ := hrel
  have HP := hide hp
  clear hp
  by_cases hlt : k < l.length
  · obtain ⟨x, y, hxy⟩ : ∃ x y, l[k] = (x, y) := ⟨_, _, rfl⟩
    have hpt := h.out k x y (by rw [List.getElem?_eq_getElem hlt, hxy])
    have c1 : wr.cell? ⟨b, k * 2, none⟩ = some (.int .i64 x) := (hB.cell hb).trans hpt.1
    have c2 : wr.cell? ⟨b, k * 2 + 1, none⟩ = some (.int .i64 y) := (hB.cell hb).trans hpt.2
    have HXY := hide hxy
    clear hxy hpt
    rcases hv : vldB x y with _ | _
    · have HNO := hide (ptsB_no hlt HXY.out hv)
      go_wp2_with fail
      refine (pvalid_any x y _).mono ?_
      rintro e w' ⟨rfl, rfl⟩
      go_wp2_with fail
      go_ret
      exact ⟨ret_bool HNO.out.symm, below_alloc (below_alloc hB (Nat.le_refl _) _) (Nat.le_refl _) _⟩
    · have HST := hide (ptsB_step HP.out hlt HXY.out hv)
      go_wp2_with fail
      refine (pvalid_any x y _).mono ?_
      rintro e w' ⟨rfl, rfl⟩
      go_wp2_with fail
      go_roundw
      case rel => exact ⟨k + 1, by omega, by go_num, HST.out, below_alloc (below_alloc hB (Nat.le_refl _) _) (Nat.le_refl _) _⟩
      case measure => simp [intOf]; omega
  · go_wp2_with fail
    go_ret
    have e : k = l.length := by omega
    exact ⟨ret_bool (by have := HP.out; rw [e, List.take_length] at this; exact this.symm), hB⟩
theorem valid2_any (x0 y0 x1 y1 : Int) (b : Nat) (t : TypeId) (w : World) (h : w.heap[b]? = some (.cells #[.int .i64 x0, .int .i64 y0, .int .i64 x1, .int .i64 y1] t)) :
 Calls Tryz.prog 40 #[.slice (some ⟨b, 0, none⟩) 2 2] w fun e w' => e = .returned (.bool (vldB x0 y0 && vldB x1 y1)) ∧ Below w.heap.size w w' := by
 have hb : b < w.heap.size := by
  rcases Nat.lt_or_ge b w.heap.size with hlt | hge
  · exact hlt
  · rw [Array.getElem?_eq_none hge] at h; cases h
 have hc := fun i => cell_of_row w b i _ t (0, 0) h
 refine (valid_any [(x0, y0), (x1, y1)] b w hb (by simp) ?_).mono ?_
 · intro k x y hk
   unfold ptAt
   rw [hc, hc]
   match k, hk with
   | 0, hk => simp at hk; rw [← hk.1, ← hk.2]; exact ⟨rfl, rfl⟩
   | 1, hk => simp at hk; rw [← hk.1, ← hk.2]; exact ⟨rfl, rfl⟩
   | k + 2, hk => simp at hk
 · rintro e w' ⟨he, hB⟩
   refine ⟨?_, hB⟩
   rw [he]
   exact ret_bool (by simp [ptsB, Bool.and_assoc])
theorem valid3_any (x0 y0 x1 y1 x2 y2 : Int) (b : Nat) (t : TypeId) (w : World) (h : w.heap[b]? = some (.cells #[.int .i64 x0, .int .i64 y0, .int .i64 x1, .int .i64 y1, .int .i64 x2, .int .i64 y2] t)) :
 Calls Tryz.prog 40 #[.slice (some ⟨b, 0, none⟩) 3 3] w fun e w' => e = .returned (.bool (vldB x0 y0 && vldB x1 y1 && vldB x2 y2)) ∧ Below w.heap.size w w' := by
 have hb : b < w.heap.size := by
  rcases Nat.lt_or_ge b w.heap.size with hlt | hge
  · exact hlt
  · rw [Array.getElem?_eq_none hge] at h; cases h
 have hc := fun i => cell_of_row w b i _ t (0, 0) h
 refine (valid_any [(x0, y0), (x1, y1), (x2, y2)] b w hb (by simp) ?_).mono ?_
 · intro k x y hk
   unfold ptAt
   rw [hc, hc]
   match k, hk with
   | 0, hk => simp at hk; rw [← hk.1, ← hk.2]; exact ⟨rfl, rfl⟩
   | 1, hk => simp at hk; rw [← hk.1, ← hk.2]; exact ⟨rfl, rfl⟩
   | 2, hk => simp at hk; rw [← hk.1, ← hk.2]; exact ⟨rfl, rfl⟩
   | k + 3, hk => simp at hk
 · rintro e w' ⟨he, hB⟩
   refine ⟨?_, hB⟩
   rw [he]
   exact ret_bool (by simp [ptsB, Bool.and_assoc])
theorem valid4_any (x0 y0 x1 y1 x2 y2 x3 y3 : Int) (b : Nat) (t : TypeId) (w : World) (h : w.heap[b]? = some (.cells #[.int .i64 x0, .int .i64 y0, .int .i64 x1, .int .i64 y1, .int .i64 x2, .int .i64 y2, .int .i64 x3, .int .i64 y3] t)) :
 Calls Tryz.prog 40 #[.slice (some ⟨b, 0, none⟩) 4 4] w fun e w' => e = .returned (.bool (vldB x0 y0 && vldB x1 y1 && vldB x2 y2 && vldB x3 y3)) ∧ Below w.heap.size w w' := by
 have hb : b < w.heap.size := by
  rcases Nat.lt_or_ge b w.heap.size with hlt | hge
  · exact hlt
  · rw [Array.getElem?_eq_none hge] at h; cases h
 have hc := fun i => cell_of_row w b i _ t (0, 0) h
 refine (valid_any [(x0, y0), (x1, y1), (x2, y2), (x3, y3)] b w hb (by simp) ?_).mono ?_
 · intro k x y hk
   unfold ptAt
   rw [hc, hc]
   match k, hk with
   | 0, hk => simp at hk; rw [← hk.1, ← hk.2]; exact ⟨rfl, rfl⟩
   | 1, hk => simp at hk; rw [← hk.1, ← hk.2]; exact ⟨rfl, rfl⟩
   | 2, hk => simp at hk; rw [← hk.1, ← hk.2]; exact ⟨rfl, rfl⟩
   | 3, hk => simp at hk; rw [← hk.1, ← hk.2]; exact ⟨rfl, rfl⟩
   | k + 4, hk => simp at hk
 · rintro e w' ⟨he, hB⟩
   refine ⟨?_, hB⟩
   rw [he]
   exact ret_bool (by simp [ptsB, Bool.and_assoc])
end Go.Proofs.YtbhpklpkcgcmfaaGreatDoor
/-
  Cells that a region may write: they are there and not frozen, whatever they hold.
-/
namespace Go.Proofs.YtbhpklpkcgcmfaaGreatDoor
open Go.RowKit
set_option linter.unusedVariables false
def cellV (w : World) (a : Addr) : Value := (w.cell? a).getD undef
theorem has_of {w : World} {a : Addr} {v : Value} (h : w.cell? a = some v) : w.cell? a = some (cellV w a) := by unfold cellV; rw [h]; rfl
theorem below_set {B : Nat} {a w : World} (h : Below B a w) {p : Addr} (hp : B ≤ p.block) (u : Value) : Below B a (w.setCell p u) := h.setCell hp u
theorem mine_of {w : World} {a : Addr} {v : Value} (h : w.cell? a = some v) (hf : w.frozen? a = false) : w.cell? a = some (cellV w a) ∧ w.frozen? a = false := ⟨has_of h, hf⟩
theorem mine_drew {w : World} {a : Addr} (h : w.cell? a = some (cellV w a) ∧ w.frozen? a = false) : w.drew.cell? a = some (cellV w.drew a) ∧ w.drew.frozen? a = false := h
theorem mine_drewN {w : World} {a : Addr} (h : w.cell? a = some (cellV w a) ∧ w.frozen? a = false) (n : Nat) : (w.drewN n).cell? a = some (cellV (w.drewN n) a) ∧ (w.drewN n).frozen? a = false := h
theorem mine_below {W w1 : World} (hb : Below W.heap.size W w1) {a : Addr} (h : W.cell? a = some (cellV W a) ∧ W.frozen? a = false) : w1.cell? a = some (cellV w1 a) ∧ w1.frozen? a = false :=
 have hl := World.block_lt_of_cell? W a h.1
 ⟨has_of ((hb.cell hl).trans h.1), (hb.frozen hl).trans h.2⟩
theorem mine_alloc {w : World} {a : Addr} (h : w.cell? a = some (cellV w a) ∧ w.frozen? a = false) (o : Obj) : (w.alloc o).cell? a = some (cellV (w.alloc o) a) ∧ (w.alloc o).frozen? a = false :=
 mine_below ((Below.refl _ w).alloc (Nat.le_refl _) o) h
theorem mine_set {w : World} {a : Addr} (h : w.cell? a = some (cellV w a) ∧ w.frozen? a = false) (p : Addr) (u : Value) : (w.setCell p u).cell? a = some (cellV (w.setCell p u) a) ∧ (w.setCell p u).frozen? a = false := by
 refine ⟨?_, ?_⟩
 · by_cases e : p = a
   · subst e
     exact has_of (World.cell?_setCell_same' w p u (by rw [h.1]; rfl))
   · exact has_of ((World.cell?_setCell_other w p a u e).trans h.1)
 · rw [← h.2]; simp
theorem mine_new {w : World} {c : Array Value} {t : TypeId} {n i : Nat} {v : Value} (hn : n = w.heap.size) (h : c[i]? = some v) : (w.alloc (.cells c t)).cell? ⟨n, i, none⟩ = some (cellV (w.alloc (.cells c t)) ⟨n, i, none⟩) ∧ (w.alloc (.cells c t)).frozen? ⟨n, i, none⟩ = false :=
 mine_of (cell_new hn h) (by subst hn; simp)
theorem cell_set {w : World} {a p : Addr} {v : Value} (hp : p.block ≠ a.block) (h : w.cell? a = some v) (u : Value) : (w.setCell p u).cell? a = some v := (World.cell?_setCell_other w p a u (fun e => hp (by rw [e]))).trans h
end Go.Proofs.YtbhpklpkcgcmfaaGreatDoor
/-
  A path in memory: its elements, one behind the other.
-/
namespace Go.Proofs.YtbhpklpkcgcmfaaGreatDoor
open Go.RowKit
set_option linter.unusedVariables false
set_option linter.unusedSimpArgs false
def elAt (w : World) (b o : Nat) (x : El) : Prop :=
 w.cell? ⟨b, o, none⟩ = some (.bool x.c) ∧ w.cell? ⟨b, o + 1, none⟩ = some (.int .i64 x.ax) ∧ w.cell? ⟨b, o + 2, none⟩ = some (.int .i64 x.ay) ∧ w.cell? ⟨b, o + 3, none⟩ = some (.int .i64 x.bx) ∧ w.cell? ⟨b, o + 4, none⟩ = some (.int .i64 x.b_y) ∧ w.cell? ⟨b, o + 5, none⟩ = some (.int .i64 x.cx) ∧ w.cell? ⟨b, o + 6, none⟩ = some (.int .i64 x.cy) ∧ w.cell? ⟨b, o + 7, none⟩ = some (.int .i64 x.r) ∧ w.cell? ⟨b, o + 8, none⟩ = some (.int .i64 x.f) ∧ w.cell? ⟨b, o + 9, none⟩ = some (.int .i64 x.s) ∧ w.cell? ⟨b, o + 10, none⟩ = some (.int .i64 x.L) ∧ w.cell? ⟨b, o + 11, none⟩ = some (.int .i64 x.n) ∧ w.cell? ⟨b, o + 12, none⟩ = some (.bool x.g)
def pathAt (w : World) (S : Option Addr) (l : List El) : Prop := ∀ (k : Nat) (x : El), l[k]? = some x → ∃ b o, S = some ⟨b, o, none⟩ ∧ elAt w b (o + k * 13) x
end Go.Proofs.YtbhpklpkcgcmfaaGreatDoor
