/-
  The walks of points: their validity, vectors and products.
-/
import Derived.Test.YteanfgobpjdmnaaGreatDoorMFixed
import Derived.Test.YteanfgobpjdmnaaGreatDoorMSeqP
import Derived.Deep.RegionHeld3
set_option maxRecDepth 100000
set_option maxHeartbeats 16000000
namespace Go.Proofs.YteanfgobpjdmnaaGreatDoor
open Go.RowKit
set_option linter.unusedVariables false
theorem WL (x y : Int) : (decide (-2000000 ≤ x) && decide (x ≤ 2000000) && decide (-2000000 ≤ y) && decide (y ≤ 2000000)) = qf x y := by
 unfold qf; simp [Bool.and_assoc]
theorem tY (x y : Int) (w : World) :
 Calls Tryz.prog 16 #[.agg #[.int .i64 x, .int .i64 y]] w fun e w' => e = .returned (.bool (qf x y)) ∧ w' = w.alloc (.cells #[.int .i64 x, .int .i64 y] 26) := by
 go_enter Tryz.func16, Tryz.ntmps16
 go_wp2
 all_goals
  go_ret
  exact ⟨yH (by rw [← WL]; simp; try omega), rfl⟩
theorem Zb (ax ay bx b_y : Int) (h1 : -4000000 ≤ bx - ax) (h2 : bx - ax ≤ 4000000) (h3 : -4000000 ≤ b_y - ay) (h4 : b_y - ay ≤ 4000000) (w : World) :
 Calls Tryz.prog 20 #[.agg #[.int .i64 ax, .int .i64 ay], .agg #[.int .i64 bx, .int .i64 b_y]] w fun e w' => e = .returned (.agg #[.int .i64 (bx - ax), .int .i64 (b_y - ay)]) ∧ w' = ((w.alloc (.cells #[.int .i64 ax, .int .i64 ay] 26)).alloc (.cells #[.int .i64 bx, .int .i64 b_y] 26)).alloc (.cells #[.int .i64 (bx - ax), .int .i64 (b_y - ay)] 26) := by
 go_enter Tryz.func20, Tryz.ntmps20
 go_wp2
 exact bodyPost_ret (v := .agg #[.int .i64 (bx - ax), .int .i64 (b_y - ay)]) (by simp [results, Tryz.results20, go_sem]) rfl ⟨rfl, rfl⟩
theorem vw {a b : Int} (h1 : -4000000 ≤ a) (h2 : a ≤ 4000000) (h3 : -4000000 ≤ b) (h4 : b ≤ 4000000) : -16000000000000 ≤ a * b ∧ a * b ≤ 16000000000000 := by
 have e1 := Int.mul_nonneg (show 0 ≤ 4000000 - a by omega) (show 0 ≤ 4000000 - b by omega)
 have e2 := Int.mul_nonneg (show 0 ≤ 4000000 + a by omega) (show 0 ≤ 4000000 + b by omega)
 have e3 := Int.mul_nonneg (show 0 ≤ 4000000 - a by omega) (show 0 ≤ 4000000 + b by omega)
 have e4 := Int.mul_nonneg (show 0 ≤ 4000000 + a by omega) (show 0 ≤ 4000000 - b by omega)
 have f1 : (4000000 - a) * (4000000 - b) = 16000000000000 - 4000000 * a - 4000000 * b + a * b := by grind
 have f2 : (4000000 + a) * (4000000 + b) = 16000000000000 + 4000000 * a + 4000000 * b + a * b := by grind
 have f3 : (4000000 - a) * (4000000 + b) = 16000000000000 - 4000000 * a + 4000000 * b - a * b := by grind
 have f4 : (4000000 + a) * (4000000 - b) = 16000000000000 + 4000000 * a - 4000000 * b - a * b := by grind
 omega
theorem cP (dx dy ex ey : Int) (h1 : -4000000 ≤ dx) (h2 : dx ≤ 4000000) (h3 : -4000000 ≤ dy) (h4 : dy ≤ 4000000) (h5 : -4000000 ≤ ex) (h6 : ex ≤ 4000000) (h7 : -4000000 ≤ ey) (h8 : ey ≤ 4000000) (w : World) :
 Calls Tryz.prog 115 #[.agg #[.int .i64 dx, .int .i64 dy], .agg #[.int .i64 ex, .int .i64 ey]] w fun e w' => e = .returned (.int .i64 (dx * ey - dy * ex)) ∧ w' = (w.alloc (.cells #[.int .i64 dx, .int .i64 dy] 26)).alloc (.cells #[.int .i64 ex, .int .i64 ey] 26) := by
 have p1 := vw (a := dx) (b := ey) (by omega) (by omega) (by omega) (by omega)
 have p2 := vw (a := dy) (b := ex) (by omega) (by omega) (by omega) (by omega)
 go_enter Tryz.func115, Tryz.ntmps115
 go_wp2
 go_ret
 exact ⟨rfl, rfl⟩
theorem WM (dx dy ex ey : Int) (h1 : -4000000 ≤ dx) (h2 : dx ≤ 4000000) (h3 : -4000000 ≤ dy) (h4 : dy ≤ 4000000) (h5 : -4000000 ≤ ex) (h6 : ex ≤ 4000000) (h7 : -4000000 ≤ ey) (h8 : ey ≤ 4000000) (w : World) :
 Calls Tryz.prog 66 #[.agg #[.int .i64 dx, .int .i64 dy], .agg #[.int .i64 ex, .int .i64 ey]] w fun e w' => e = .returned (.int .i64 (dx * ex + dy * ey)) ∧ w' = (w.alloc (.cells #[.int .i64 dx, .int .i64 dy] 26)).alloc (.cells #[.int .i64 ex, .int .i64 ey] 26) := by
 have p1 := vw (a := dx) (b := ex) (by omega) (by omega) (by omega) (by omega)
 have p2 := vw (a := dy) (b := ey) (by omega) (by omega) (by omega) (by omega)
 go_enter Tryz.func66, Tryz.ntmps66
 go_wp2
 go_ret
 exact ⟨rfl, rfl⟩
theorem qe {B : Nat} {a w : World} (h : Below B a w) (hB : B ≤ a.heap.size) (o : Obj) : Below B a (w.alloc o) := h.alloc (Nat.le_trans hB h.size) o
theorem qi {w1 w2 a : World} (h : Below w1.heap.size w1 w2) (k : Below a.heap.size a w1) : Below a.heap.size a w2 := k.trans (h.mono k.size)
theorem Gw (a b : Int) (w : World) :
 Calls Tryz.prog 80 #[.int .i64 a, .int .i64 b] w fun e w' => e = .returned (.int .i64 (bM a b)) ∧ w = w' := by
 go_enter Tryz.func80, Tryz.ntmps80
 go_wp2
 all_goals
  go_ret
  exact ⟨qL (by unfold bM; omega), rfl⟩
theorem tF (ax ay bx b_y : Int) (h1 : -4000000 ≤ bx - ax) (h2 : bx - ax ≤ 4000000) (h3 : -4000000 ≤ b_y - ay) (h4 : b_y - ay ≤ 4000000) (w : World) :
 Calls Tryz.prog 20 #[.agg #[.int .i64 ax, .int .i64 ay], .agg #[.int .i64 bx, .int .i64 b_y]] w fun e w' => e = .returned (.agg #[.int .i64 (bx - ax), .int .i64 (b_y - ay)]) ∧ Below w.heap.size w w' :=
 (Zb ax ay bx b_y h1 h2 h3 h4 w).mono fun e w' ⟨he, hw⟩ => ⟨he, by rw [hw]; exact qe (qe (qe (Below.refl _ _) (Nat.le_refl _) _) (Nat.le_refl _) _) (Nat.le_refl _) _⟩
theorem qo (x y : Int) (w : World) : Calls Tryz.prog 16 #[.agg #[.int .i64 x, .int .i64 y]] w fun e w' => e = .returned (.bool (qf x y)) ∧ Below w.heap.size w w' :=
 (tY x y w).mono fun e w' ⟨he, hw⟩ => ⟨he, by rw [hw]; exact qe (Below.refl _ _) (Nat.le_refl _) _⟩
theorem YC (dx dy ex ey : Int) (h1 : -4000000 ≤ dx) (h2 : dx ≤ 4000000) (h3 : -4000000 ≤ dy) (h4 : dy ≤ 4000000) (h5 : -4000000 ≤ ex) (h6 : ex ≤ 4000000) (h7 : -4000000 ≤ ey) (h8 : ey ≤ 4000000) (w : World) :
 Calls Tryz.prog 115 #[.agg #[.int .i64 dx, .int .i64 dy], .agg #[.int .i64 ex, .int .i64 ey]] w fun e w' => e = .returned (.int .i64 (dx * ey - dy * ex)) ∧ Below w.heap.size w w' :=
 (cP dx dy ex ey h1 h2 h3 h4 h5 h6 h7 h8 w).mono fun e w' ⟨he, hw⟩ => ⟨he, by rw [hw]; exact qe (qe (Below.refl _ _) (Nat.le_refl _) _) (Nat.le_refl _) _⟩
theorem Gx (dx dy ex ey : Int) (h1 : -4000000 ≤ dx) (h2 : dx ≤ 4000000) (h3 : -4000000 ≤ dy) (h4 : dy ≤ 4000000) (h5 : -4000000 ≤ ex) (h6 : ex ≤ 4000000) (h7 : -4000000 ≤ ey) (h8 : ey ≤ 4000000) (w : World) :
 Calls Tryz.prog 66 #[.agg #[.int .i64 dx, .int .i64 dy], .agg #[.int .i64 ex, .int .i64 ey]] w fun e w' => e = .returned (.int .i64 (dx * ex + dy * ey)) ∧ Below w.heap.size w w' :=
 (WM dx dy ex ey h1 h2 h3 h4 h5 h6 h7 h8 w).mono fun e w' ⟨he, hw⟩ => ⟨he, by rw [hw]; exact qe (qe (Below.refl _ _) (Nat.le_refl _) _) (Nat.le_refl _) _⟩
set_option linter.unusedSimpArgs false
theorem kv (W : World) (o : Obj) (k : Nat) (hk : W.heap.size = k) : (W.alloc o).heap[k]? = some o := by subst hk; exact heap_alloc_new W o
theorem jo {x y : Int} (h : qf x y = true) : -2000000 ≤ x ∧ x ≤ 2000000 ∧ -2000000 ≤ y ∧ y ≤ 2000000 := by unfold qf at h; exact of_decide_eq_true h
theorem qa {W w1 : World} (hb : Below W.heap.size W w1) {b o : Nat} {v : Value} (h : W.cell? ⟨b, o, none⟩ = some v) : w1.cell? ⟨b, o, none⟩ = some v := (hb.cell (World.block_lt_of_cell? W _ h)).trans h
theorem qG {w : World} {c : Array Value} {t : TypeId} {n i : Nat} {v : Value} (hn : n = w.heap.size) (h : c[i]? = some v) : (w.alloc (.cells c t)).cell? ⟨n, i, none⟩ = some v := (World.cell?_alloc_at (w := w) c t n i hn).trans h
theorem qt {w : World} {a : Addr} {v : Value} (h : w.cell? a = some v) (o : Obj) : (w.alloc o).cell? a = some v := (World.cell?_alloc_some w a o (by rw [h]; rfl)).trans h
theorem qC {w : World} {a : Addr} {v : Value} (h : w.cell? a = some v) : w.drew.cell? a = some v := h
theorem qu {w : World} {a : Addr} {v : Value} (h : w.cell? a = some v) (n : Nat) : (w.drewN n).cell? a = some v := h
def Kz (l : List (Int × Int)) : Bool := l.all fun p => qf p.1 p.2
def WN (w : World) (b k : Nat) (x y : Int) : Prop := w.cell? ⟨b, k * 2, none⟩ = some (.int .i64 x) ∧ w.cell? ⟨b, k * 2 + 1, none⟩ = some (.int .i64 y)
theorem cQ {l : List (Int × Int)} {k : Nat} {x y : Int} (hp : Kz (l.take k) = true) (hk : k < l.length) (hx : l[k] = (x, y)) (hv : qf x y = true) : Kz (l.take (k + 1)) = true := by
 unfold Kz at *
 rw [List.take_succ_eq_append_getElem hk, List.all_append, hp, hx]
 simp [hv]
theorem WO {l : List (Int × Int)} {k : Nat} {x y : Int} (hk : k < l.length) (hx : l[k] = (x, y)) (hv : qf x y = false) : Kz l = false := by
 unfold Kz
 rw [List.all_eq_false]
 exact ⟨(x, y), by rw [← hx]; exact List.getElem_mem hk, by simp [hv]⟩
theorem Jz (l : List (Int × Int)) (b : Nat) (w : World) (hb : b < w.heap.size) (hl : l.length ≤ 1000) (h : Hid (∀ (k : Nat) (x y : Int), l[k]? = some (x, y) → WN w b k x y)) :
 Calls Tryz.prog 19 #[.slice (some ⟨b, 0, none⟩) l.length l.length] w fun e w' => e = .returned (.bool (Kz l)) ∧ Below w.heap.size w w' := by
 go_enter Tryz.func19, Tryz.ntmps19
 go_wp2_with fail
 go_loopw [7] (fun i W => ∃ k : Nat, k ≤ l.length ∧ i = .int .i64 k ∧ Kz (l.take k) = true ∧ Below w.heap.size w W) (fun i _ => l.length - (intOf i).toNat)
 case atStart => exact ⟨0, Nat.zero_le _, rfl, rfl, Below.refl _ _⟩
 case round =>
  obtain ⟨k, hk, rfl, hp, hB⟩ := hrel
  have HP := hide hp
  clear hp
  by_cases hlt : k < l.length
  · obtain ⟨x, y, hxy⟩ : ∃ x y, l[k] = (x, y) := ⟨_, _, rfl⟩
    have hpt := h.out k x y (by rw [List.getElem?_eq_getElem hlt, hxy])
    have c1 : wr.cell? ⟨b, k * 2, none⟩ = some (.int .i64 x) := (hB.cell hb).trans hpt.1
    have c2 : wr.cell? ⟨b, k * 2 + 1, none⟩ = some (.int .i64 y) := (hB.cell hb).trans hpt.2
    have HXY := hide hxy
    clear hxy hpt
    rcases hv : qf x y with _ | _
    · have HNO := hide (WO hlt HXY.out hv)
      go_wp2_with fail
      refine (tY x y _).mono ?_
      rintro e w' ⟨rfl, rfl⟩
      go_wp2_with fail
      go_ret
      exact ⟨yH HNO.out.symm, qe (qe hB (Nat.le_refl _) _) (Nat.le_refl _) _⟩
    · have HST := hide (cQ HP.out hlt HXY.out hv)
      go_wp2_with fail
      refine (tY x y _).mono ?_
      rintro e w' ⟨rfl, rfl⟩
      go_wp2_with fail
      go_roundw
      case rel => exact ⟨k + 1, by omega, by go_num, HST.out, qe (qe hB (Nat.le_refl _) _) (Nat.le_refl _) _⟩
      case measure => simp [intOf]; omega
  · go_wp2_with fail
    go_ret
    have e : k = l.length := by omega
    exact ⟨yH (by have := HP.out; rw [e, List.take_length] at this; exact this.symm), hB⟩
theorem bw (x0 y0 x1 y1 : Int) (b : Nat) (t : TypeId) (w : World) (h : w.heap[b]? = some (.cells #[.int .i64 x0, .int .i64 y0, .int .i64 x1, .int .i64 y1] t)) :
 Calls Tryz.prog 19 #[.slice (some ⟨b, 0, none⟩) 2 2] w fun e w' => e = .returned (.bool (qf x0 y0 && qf x1 y1)) ∧ Below w.heap.size w w' := by
 have hb : b < w.heap.size := by
  rcases Nat.lt_or_ge b w.heap.size with hlt | hge
  · exact hlt
  · rw [Array.getElem?_eq_none hge] at h; cases h
 have hc := fun i => cell_of_row w b i _ t (0, 0) h
 refine (Jz [(x0, y0), (x1, y1)] b w hb (by simp) ?_).mono ?_
 · intro k x y hk
   unfold WN
   rw [hc, hc]
   match k, hk with
   | 0, hk => simp at hk; rw [← hk.1, ← hk.2]; exact ⟨rfl, rfl⟩
   | 1, hk => simp at hk; rw [← hk.1, ← hk.2]; exact ⟨rfl, rfl⟩
   | k + 2, hk => simp at hk
 · rintro e w' ⟨he, hB⟩
   refine ⟨?_, hB⟩
   rw [he]
   exact yH (by simp [Kz, Bool.and_assoc])
theorem vE (x0 y0 x1 y1 x2 y2 : Int) (b : Nat) (t : TypeId) (w : World) (h : w.heap[b]? = some (.cells #[.int .i64 x0, .int .i64 y0, .int .i64 x1, .int .i64 y1, .int .i64 x2, .int .i64 y2] t)) :
 Calls Tryz.prog 19 #[.slice (some ⟨b, 0, none⟩) 3 3] w fun e w' => e = .returned (.bool (qf x0 y0 && qf x1 y1 && qf x2 y2)) ∧ Below w.heap.size w w' := by
 have hb : b < w.heap.size := by
  rcases Nat.lt_or_ge b w.heap.size with hlt | hge
  · exact hlt
  · rw [Array.getElem?_eq_none hge] at h; cases h
 have hc := fun i => cell_of_row w b i _ t (0, 0) h
 refine (Jz [(x0, y0), (x1, y1), (x2, y2)] b w hb (by simp) ?_).mono ?_
 · intro k x y hk
   unfold WN
   rw [hc, hc]
   match k, hk with
   | 0, hk => simp at hk; rw [← hk.1, ← hk.2]; exact ⟨rfl, rfl⟩
   | 1, hk => simp at hk; rw [← hk.1, ← hk.2]; exact ⟨rfl, rfl⟩
   | 2, hk => simp at hk; rw [← hk.1, ← hk.2]; exact ⟨rfl, rfl⟩
   | k + 3, hk => simp at hk
 · rintro e w' ⟨he, hB⟩
   refine ⟨?_, hB⟩
   rw [he]
   exact yH (by simp [Kz, Bool.and_assoc])
theorem Vq (x0 y0 x1 y1 x2 y2 x3 y3 : Int) (b : Nat) (t : TypeId) (w : World) (h : w.heap[b]? = some (.cells #[.int .i64 x0, .int .i64 y0, .int .i64 x1, .int .i64 y1, .int .i64 x2, .int .i64 y2, .int .i64 x3, .int .i64 y3] t)) :
 Calls Tryz.prog 19 #[.slice (some ⟨b, 0, none⟩) 4 4] w fun e w' => e = .returned (.bool (qf x0 y0 && qf x1 y1 && qf x2 y2 && qf x3 y3)) ∧ Below w.heap.size w w' := by
 have hb : b < w.heap.size := by
  rcases Nat.lt_or_ge b w.heap.size with hlt | hge
  · exact hlt
  · rw [Array.getElem?_eq_none hge] at h; cases h
 have hc := fun i => cell_of_row w b i _ t (0, 0) h
 refine (Jz [(x0, y0), (x1, y1), (x2, y2), (x3, y3)] b w hb (by simp) ?_).mono ?_
 · intro k x y hk
   unfold WN
   rw [hc, hc]
   match k, hk with
   | 0, hk => simp at hk; rw [← hk.1, ← hk.2]; exact ⟨rfl, rfl⟩
   | 1, hk => simp at hk; rw [← hk.1, ← hk.2]; exact ⟨rfl, rfl⟩
   | 2, hk => simp at hk; rw [← hk.1, ← hk.2]; exact ⟨rfl, rfl⟩
   | 3, hk => simp at hk; rw [← hk.1, ← hk.2]; exact ⟨rfl, rfl⟩
   | k + 4, hk => simp at hk
 · rintro e w' ⟨he, hB⟩
   refine ⟨?_, hB⟩
   rw [he]
   exact yH (by simp [Kz, Bool.and_assoc])
def jr (w : World) (a : Addr) : Value := (w.cell? a).getD undef
theorem Bq {w : World} {a : Addr} {v : Value} (h : w.cell? a = some v) : w.cell? a = some (jr w a) := by unfold jr; rw [h]; rfl
theorem qj {B : Nat} {a w : World} (h : Below B a w) {p : Addr} (hp : B ≤ p.block) (u : Value) : Below B a (w.setCell p u) := h.setCell hp u
theorem ja {w : World} {a : Addr} {v : Value} (h : w.cell? a = some v) (hf : w.frozen? a = false) : w.cell? a = some (jr w a) ∧ w.frozen? a = false := ⟨Bq h, hf⟩
theorem vh {w : World} {a : Addr} (h : w.cell? a = some (jr w a) ∧ w.frozen? a = false) : w.drew.cell? a = some (jr w.drew a) ∧ w.drew.frozen? a = false := h
theorem yD {w : World} {a : Addr} (h : w.cell? a = some (jr w a) ∧ w.frozen? a = false) (n : Nat) : (w.drewN n).cell? a = some (jr (w.drewN n) a) ∧ (w.drewN n).frozen? a = false := h
theorem qw {W w1 : World} (hb : Below W.heap.size W w1) {a : Addr} (h : W.cell? a = some (jr W a) ∧ W.frozen? a = false) : w1.cell? a = some (jr w1 a) ∧ w1.frozen? a = false :=
 have hl := World.block_lt_of_cell? W a h.1
 ⟨Bq ((hb.cell hl).trans h.1), (hb.frozen hl).trans h.2⟩
theorem jE {w : World} {a : Addr} (h : w.cell? a = some (jr w a) ∧ w.frozen? a = false) (o : Obj) : (w.alloc o).cell? a = some (jr (w.alloc o) a) ∧ (w.alloc o).frozen? a = false :=
 qw ((Below.refl _ w).alloc (Nat.le_refl _) o) h
theorem vZ {w : World} {a : Addr} (h : w.cell? a = some (jr w a) ∧ w.frozen? a = false) (p : Addr) (u : Value) : (w.setCell p u).cell? a = some (jr (w.setCell p u) a) ∧ (w.setCell p u).frozen? a = false := by
 refine ⟨?_, ?_⟩
 · by_cases e : p = a
   · subst e
     exact Bq (World.cell?_setCell_same' w p u (by rw [h.1]; rfl))
   · exact Bq ((World.cell?_setCell_other w p a u e).trans h.1)
 · rw [← h.2]; simp
theorem uw {w : World} {c : Array Value} {t : TypeId} {n i : Nat} {v : Value} (hn : n = w.heap.size) (h : c[i]? = some v) : (w.alloc (.cells c t)).cell? ⟨n, i, none⟩ = some (jr (w.alloc (.cells c t)) ⟨n, i, none⟩) ∧ (w.alloc (.cells c t)).frozen? ⟨n, i, none⟩ = false :=
 ja (qG hn h) (by subst hn; simp)
theorem qK {w : World} {a p : Addr} {v : Value} (hp : p.block ≠ a.block) (h : w.cell? a = some v) (u : Value) : (w.setCell p u).cell? a = some v := (World.cell?_setCell_other w p a u (fun e => hp (by rw [e]))).trans h
def KC (w : World) (b o : Nat) (x : El) : Prop :=
 w.cell? ⟨b, o, none⟩ = some (.bool x.c) ∧ w.cell? ⟨b, o + 1, none⟩ = some (.int .i64 x.ax) ∧ w.cell? ⟨b, o + 2, none⟩ = some (.int .i64 x.ay) ∧ w.cell? ⟨b, o + 3, none⟩ = some (.int .i64 x.bx) ∧ w.cell? ⟨b, o + 4, none⟩ = some (.int .i64 x.b_y) ∧ w.cell? ⟨b, o + 5, none⟩ = some (.int .i64 x.cx) ∧ w.cell? ⟨b, o + 6, none⟩ = some (.int .i64 x.cy) ∧ w.cell? ⟨b, o + 7, none⟩ = some (.int .i64 x.r) ∧ w.cell? ⟨b, o + 8, none⟩ = some (.int .i64 x.f) ∧ w.cell? ⟨b, o + 9, none⟩ = some (.int .i64 x.s) ∧ w.cell? ⟨b, o + 10, none⟩ = some (.int .i64 x.L) ∧ w.cell? ⟨b, o + 11, none⟩ = some (.int .i64 x.n) ∧ w.cell? ⟨b, o + 12, none⟩ = some (.bool x.g)
def yI (w : World) (S : Option Addr) (l : List El) : Prop := ∀ (k : Nat) (x : El), l[k]? = some x → ∃ b o, S = some ⟨b, o, none⟩ ∧ KC w b (o + k * 13) x
theorem wF {W w1 : World} (hb : Below W.heap.size W w1) {b o : Nat} {x : El} (h : KC W b o x) : KC w1 b o x := by
 unfold KC at *
 obtain ⟨h0, h1, h2, h3, h4, h5, h6, h7, h8, h9, h10, h11, h12⟩ := h
 exact ⟨qa hb h0, qa hb h1, qa hb h2, qa hb h3, qa hb h4, qa hb h5, qa hb h6, qa hb h7, qa hb h8, qa hb h9, qa hb h10, qa hb h11, qa hb h12⟩
theorem jf {W w1 : World} (hb : Below W.heap.size W w1) {S : Option Addr} {l : List El} (h : yI W S l) : yI w1 S l := by
 intro k x hk
 obtain ⟨b, o, e, h⟩ := h k x hk
 exact ⟨b, o, e, wF hb h⟩
end Go.Proofs.YteanfgobpjdmnaaGreatDoor
