/-
  The walk of path.At.
-/
import Derived.Test.YtdlognnifmihnaaGreatDoorMElemM
set_option maxRecDepth 100000
set_option maxHeartbeats 16000000
namespace Go.Proofs.YtdlognnifmihnaaGreatDoor
open Go.RowKit
set_option linter.unusedVariables false
set_option linter.unusedSimpArgs false
theorem Pf (S : Option Addr) (l : List El) (cap : Nat) (len t : Int) (w : World) (h2 : l.length ≤ 9223372036854775807) (hp : Hid (yI w S l)) (E : Int) (hc : vX l len = E) (h : ¬ E = 0) :
 Calls Tryz.prog 8 #[.agg #[.slice S l.length cap, .int .i64 len], .int .i64 t] w fun e w' => e = .returned (.tuple #[.agg #[.int .i64 0, .int .i64 0], .int .i64 0, .int .i64 E]) ∧ Below w.heap.size w w' := by
 have CK := fun W hb => kQ S l cap len W h2 (hide (jf hb hp.out))
 rw [hc] at CK
 clear hc
 have T : (E != 0) = true := bne_iff_ne.2 h
 go_enter Tryz.func8, Tryz.ntmps8
 go_wp2_with fail
 refine (CK _ (by (repeat (with_reducible (first | assumption | exact Below.refl _ _ | refine Below.drew ?_ | refine below_drewN ?_ _ | refine qj ?_ (by simp; try omega) _ | refine qe ?_ (Nat.le_refl _) _ | refine qi (by assumption) ?_))))).mono ?_
 rintro e w1 ⟨rfl, hb1⟩
 obtain ⟨f1, f2⟩ : w1.cell? ⟨w.heap.size, 0, none⟩ = some (.slice S l.length cap) ∧ w1.cell? ⟨w.heap.size, 1, none⟩ = some (.int .i64 len) := by
  refine ⟨?_, ?_⟩ <;> (refine qa hb1 ?_; repeat (first | (with_reducible assumption) | ((with_reducible refine qK ?_ ?_ _); (· first | (simp; done) | (simp; omega) | omega)) | ((with_reducible refine qG ?_ ?_); (· (simp; done)); (· rfl)) | (with_reducible refine qt ?_ _) | (with_reducible refine qC ?_) | (with_reducible refine qu ?_ _) | (with_reducible refine qa (by assumption) ?_)))
 have zf1 : w.heap.size < w1.heap.size := World.block_lt_of_cell? _ _ f1
 obtain ⟨⟨m3a, m3b⟩, ⟨m4a, m4b⟩⟩ : (w1.cell? ⟨w.heap.size + 1, 0, none⟩ = some (jr w1 ⟨w.heap.size + 1, 0, none⟩) ∧ w1.frozen? ⟨w.heap.size + 1, 0, none⟩ = false) ∧ (w1.cell? ⟨w.heap.size + 1, 1, none⟩ = some (jr w1 ⟨w.heap.size + 1, 1, none⟩) ∧ w1.frozen? ⟨w.heap.size + 1, 1, none⟩ = false) := by
  refine ⟨?_, ?_⟩ <;> (refine qw hb1 (ja (v := .int .i64 0) ?_ ?_) <;> simp [go_sem])
 have zm3 : w.heap.size + 1 < w1.heap.size := World.block_lt_of_cell? _ _ m3a
 go_wp2_with fail
 all_goals
  exact bodyPost_ret (v := .tuple #[.agg #[.int .i64 0, .int .i64 0], .int .i64 0, .int .i64 E]) (by simp [results, Tryz.results8, go_sem, *]) rfl ⟨rfl, by (repeat (with_reducible (first | assumption | exact Below.refl _ _ | refine Below.drew ?_ | refine below_drewN ?_ _ | refine qj ?_ (by simp; try omega) _ | refine qe ?_ (Nat.le_refl _) _ | refine qi (by assumption) ?_)))⟩
theorem ML (S : Option Addr) (l : List El) (cap : Nat) (len t : Int) (w : World) (h2 : l.length ≤ 9223372036854775807) (hp : Hid (yI w S l)) (hc : vX l len = 0) (h : t < 0) :
 Calls Tryz.prog 8 #[.agg #[.slice S l.length cap, .int .i64 len], .int .i64 t] w fun e w' => e = .returned (.tuple #[.agg #[.int .i64 0, .int .i64 0], .int .i64 0, .int .i64 2]) ∧ Below w.heap.size w w' := by
 have CK := fun W hb => kQ S l cap len W h2 (hide (jf hb hp.out))
 rw [hc] at CK
 clear hc
 go_enter Tryz.func8, Tryz.ntmps8
 go_wp2_with fail
 refine (CK _ (by (repeat (with_reducible (first | assumption | exact Below.refl _ _ | refine Below.drew ?_ | refine below_drewN ?_ _ | refine qj ?_ (by simp; try omega) _ | refine qe ?_ (Nat.le_refl _) _ | refine qi (by assumption) ?_))))).mono ?_
 rintro e w1 ⟨rfl, hb1⟩
 obtain ⟨f1, f2⟩ : w1.cell? ⟨w.heap.size, 0, none⟩ = some (.slice S l.length cap) ∧ w1.cell? ⟨w.heap.size, 1, none⟩ = some (.int .i64 len) := by
  refine ⟨?_, ?_⟩ <;> (refine qa hb1 ?_; repeat (first | (with_reducible assumption) | ((with_reducible refine qK ?_ ?_ _); (· first | (simp; done) | (simp; omega) | omega)) | ((with_reducible refine qG ?_ ?_); (· (simp; done)); (· rfl)) | (with_reducible refine qt ?_ _) | (with_reducible refine qC ?_) | (with_reducible refine qu ?_ _) | (with_reducible refine qa (by assumption) ?_)))
 have zf1 : w.heap.size < w1.heap.size := World.block_lt_of_cell? _ _ f1
 obtain ⟨⟨m3a, m3b⟩, ⟨m4a, m4b⟩⟩ : (w1.cell? ⟨w.heap.size + 1, 0, none⟩ = some (jr w1 ⟨w.heap.size + 1, 0, none⟩) ∧ w1.frozen? ⟨w.heap.size + 1, 0, none⟩ = false) ∧ (w1.cell? ⟨w.heap.size + 1, 1, none⟩ = some (jr w1 ⟨w.heap.size + 1, 1, none⟩) ∧ w1.frozen? ⟨w.heap.size + 1, 1, none⟩ = false) := by
  refine ⟨?_, ?_⟩ <;> (refine qw hb1 (ja (v := .int .i64 0) ?_ ?_) <;> simp [go_sem])
 have zm3 : w.heap.size + 1 < w1.heap.size := World.block_lt_of_cell? _ _ m3a
 go_wp2_with fail
 all_goals
  exact bodyPost_ret (v := .tuple #[.agg #[.int .i64 0, .int .i64 0], .int .i64 0, .int .i64 2]) (by simp [results, Tryz.results8, go_sem, *]) rfl ⟨rfl, by (repeat (with_reducible (first | assumption | exact Below.refl _ _ | refine Below.drew ?_ | refine below_drewN ?_ _ | refine qj ?_ (by simp; try omega) _ | refine qe ?_ (Nat.le_refl _) _ | refine qi (by assumption) ?_)))⟩
theorem MN (S : Option Addr) (l : List El) (cap : Nat) (len t : Int) (w : World) (h2 : l.length ≤ 9223372036854775807) (hp : Hid (yI w S l)) (hc : vX l len = 0) (h0 : 0 ≤ t) (h : len < t) :
 Calls Tryz.prog 8 #[.agg #[.slice S l.length cap, .int .i64 len], .int .i64 t] w fun e w' => e = .returned (.tuple #[.agg #[.int .i64 0, .int .i64 0], .int .i64 0, .int .i64 2]) ∧ Below w.heap.size w w' := by
 have CK := fun W hb => kQ S l cap len W h2 (hide (jf hb hp.out))
 rw [hc] at CK
 clear hc
 go_enter Tryz.func8, Tryz.ntmps8
 go_wp2_with fail
 refine (CK _ (by (repeat (with_reducible (first | assumption | exact Below.refl _ _ | refine Below.drew ?_ | refine below_drewN ?_ _ | refine qj ?_ (by simp; try omega) _ | refine qe ?_ (Nat.le_refl _) _ | refine qi (by assumption) ?_))))).mono ?_
 rintro e w1 ⟨rfl, hb1⟩
 obtain ⟨f1, f2⟩ : w1.cell? ⟨w.heap.size, 0, none⟩ = some (.slice S l.length cap) ∧ w1.cell? ⟨w.heap.size, 1, none⟩ = some (.int .i64 len) := by
  refine ⟨?_, ?_⟩ <;> (refine qa hb1 ?_; repeat (first | (with_reducible assumption) | ((with_reducible refine qK ?_ ?_ _); (· first | (simp; done) | (simp; omega) | omega)) | ((with_reducible refine qG ?_ ?_); (· (simp; done)); (· rfl)) | (with_reducible refine qt ?_ _) | (with_reducible refine qC ?_) | (with_reducible refine qu ?_ _) | (with_reducible refine qa (by assumption) ?_)))
 have zf1 : w.heap.size < w1.heap.size := World.block_lt_of_cell? _ _ f1
 obtain ⟨⟨m3a, m3b⟩, ⟨m4a, m4b⟩⟩ : (w1.cell? ⟨w.heap.size + 1, 0, none⟩ = some (jr w1 ⟨w.heap.size + 1, 0, none⟩) ∧ w1.frozen? ⟨w.heap.size + 1, 0, none⟩ = false) ∧ (w1.cell? ⟨w.heap.size + 1, 1, none⟩ = some (jr w1 ⟨w.heap.size + 1, 1, none⟩) ∧ w1.frozen? ⟨w.heap.size + 1, 1, none⟩ = false) := by
  refine ⟨?_, ?_⟩ <;> (refine qw hb1 (ja (v := .int .i64 0) ?_ ?_) <;> simp [go_sem])
 have zm3 : w.heap.size + 1 < w1.heap.size := World.block_lt_of_cell? _ _ m3a
 go_wp2_with fail
 all_goals
  exact bodyPost_ret (v := .tuple #[.agg #[.int .i64 0, .int .i64 0], .int .i64 0, .int .i64 2]) (by simp [results, Tryz.results8, go_sem, *]) rfl ⟨rfl, by (repeat (with_reducible (first | assumption | exact Below.refl _ _ | refine Below.drew ?_ | refine below_drewN ?_ _ | refine qj ?_ (by simp; try omega) _ | refine qe ?_ (Nat.le_refl _) _ | refine qi (by assumption) ?_)))⟩
theorem aR (S : Option Addr) (l : List El) (cap : Nat) (len t : Int) (w : World) (h2 : l.length ≤ 9223372036854775807) (hp : Hid (yI w S l)) (hc : vX l len = 0) (h0 : 0 ≤ t) (h : t ≤ len) (hl : l.length = 0) :
 Calls Tryz.prog 8 #[.agg #[.slice S l.length cap, .int .i64 len], .int .i64 t] w fun e w' => e = .returned (.tuple #[.agg #[.int .i64 0, .int .i64 0], .int .i64 0, .int .i64 6]) ∧ Below w.heap.size w w' := by
 have CK := fun W hb => kQ S l cap len W h2 (hide (jf hb hp.out))
 rw [hc] at CK
 clear hc
 have T0 : ((l.length : Int) == 0) = true := by rw [hl]; rfl
 clear hl
 go_enter Tryz.func8, Tryz.ntmps8
 go_wp2_with fail
 refine (CK _ (by (repeat (with_reducible (first | assumption | exact Below.refl _ _ | refine Below.drew ?_ | refine below_drewN ?_ _ | refine qj ?_ (by simp; try omega) _ | refine qe ?_ (Nat.le_refl _) _ | refine qi (by assumption) ?_))))).mono ?_
 rintro e w1 ⟨rfl, hb1⟩
 obtain ⟨f1, f2⟩ : w1.cell? ⟨w.heap.size, 0, none⟩ = some (.slice S l.length cap) ∧ w1.cell? ⟨w.heap.size, 1, none⟩ = some (.int .i64 len) := by
  refine ⟨?_, ?_⟩ <;> (refine qa hb1 ?_; repeat (first | (with_reducible assumption) | ((with_reducible refine qK ?_ ?_ _); (· first | (simp; done) | (simp; omega) | omega)) | ((with_reducible refine qG ?_ ?_); (· (simp; done)); (· rfl)) | (with_reducible refine qt ?_ _) | (with_reducible refine qC ?_) | (with_reducible refine qu ?_ _) | (with_reducible refine qa (by assumption) ?_)))
 have zf1 : w.heap.size < w1.heap.size := World.block_lt_of_cell? _ _ f1
 obtain ⟨⟨m3a, m3b⟩, ⟨m4a, m4b⟩⟩ : (w1.cell? ⟨w.heap.size + 1, 0, none⟩ = some (jr w1 ⟨w.heap.size + 1, 0, none⟩) ∧ w1.frozen? ⟨w.heap.size + 1, 0, none⟩ = false) ∧ (w1.cell? ⟨w.heap.size + 1, 1, none⟩ = some (jr w1 ⟨w.heap.size + 1, 1, none⟩) ∧ w1.frozen? ⟨w.heap.size + 1, 1, none⟩ = false) := by
  refine ⟨?_, ?_⟩ <;> (refine qw hb1 (ja (v := .int .i64 0) ?_ ?_) <;> simp [go_sem])
 have zm3 : w.heap.size + 1 < w1.heap.size := World.block_lt_of_cell? _ _ m3a
 go_wp2_with fail
 all_goals
  exact bodyPost_ret (v := .tuple #[.agg #[.int .i64 0, .int .i64 0], .int .i64 0, .int .i64 6]) (by simp [results, Tryz.results8, go_sem, *]) rfl ⟨rfl, by (repeat (with_reducible (first | assumption | exact Below.refl _ _ | refine Below.drew ?_ | refine below_drewN ?_ _ | refine qj ?_ (by simp; try omega) _ | refine qe ?_ (Nat.le_refl _) _ | refine qi (by assumption) ?_)))⟩
theorem aT (b o : Nat) (l : List El) (cap : Nat) (len t : Int) (w : World) (h2 : l.length ≤ 9223372036854775807) (hp : Hid (yI w (some ⟨b, o, none⟩) l)) (hc : vX l len = 0) (h0 : 0 ≤ t) (h1 : t ≤ len) (T : El × Int) (hT : uP l t = some T) (R : Int × Int × Int × Int) (hR : R = Pv T.1 T.2) :
 Calls Tryz.prog 8 #[.agg #[.slice (some ⟨b, o, none⟩) l.length cap, .int .i64 len], .int .i64 t] w fun e w' => e = .returned (.tuple #[.agg #[.int .i64 R.1, .int .i64 R.2.1], .int .i64 R.2.2.1, .int .i64 R.2.2.2]) ∧ Below w.heap.size w w' := by
 have CK := fun W hb => kQ (some ⟨b, o, none⟩) l cap len W h2 (hide (jf hb hp.out))
 rw [hc] at CK
 have l5 := (JR hc).short
 have eL := hide (fun j y (hy : l[j]? = some y) => BO hc hy)
 have eV := hide (fun j y (hy : l[j]? = some y) => (JR hc).err j y hy)
 have hlen := Pw hc
 have l0 : 0 < l.length := by
  rcases Nat.eq_zero_or_pos l.length with h | h
  · rw [List.length_eq_zero_iff] at h
    rw [h] at hT
    cases hT
  · exact h
 have H0 : Hid (uP (l.drop 0) t = some T) := hide hT
 have HR := hide hR
 clear hT hR hc
 go_enter Tryz.func8, Tryz.ntmps8
 go_wp2_with fail
 refine (CK _ (by (repeat (with_reducible (first | assumption | exact Below.refl _ _ | refine Below.drew ?_ | refine below_drewN ?_ _ | refine qj ?_ (by simp; try omega) _ | refine qe ?_ (Nat.le_refl _) _ | refine qi (by assumption) ?_))))).mono ?_
 rintro e w1 ⟨rfl, hb1⟩
 obtain ⟨f1, f2⟩ : w1.cell? ⟨w.heap.size, 0, none⟩ = some (.slice (some ⟨b, o, none⟩) l.length cap) ∧ w1.cell? ⟨w.heap.size, 1, none⟩ = some (.int .i64 len) := by
  refine ⟨?_, ?_⟩ <;> (refine qa hb1 ?_; repeat (first | (with_reducible assumption) | ((with_reducible refine qK ?_ ?_ _); (· first | (simp; done) | (simp; omega) | omega)) | ((with_reducible refine qG ?_ ?_); (· (simp; done)); (· rfl)) | (with_reducible refine qt ?_ _) | (with_reducible refine qC ?_) | (with_reducible refine qu ?_ _) | (with_reducible refine qa (by assumption) ?_)))
 have zf1 : w.heap.size < w1.heap.size := World.block_lt_of_cell? _ _ f1
 obtain ⟨⟨m3a, m3b⟩, ⟨m4a, m4b⟩⟩ : (w1.cell? ⟨w.heap.size + 1, 0, none⟩ = some (jr w1 ⟨w.heap.size + 1, 0, none⟩) ∧ w1.frozen? ⟨w.heap.size + 1, 0, none⟩ = false) ∧ (w1.cell? ⟨w.heap.size + 1, 1, none⟩ = some (jr w1 ⟨w.heap.size + 1, 1, none⟩) ∧ w1.frozen? ⟨w.heap.size + 1, 1, none⟩ = false) := by
  refine ⟨?_, ?_⟩ <;> (refine qw hb1 (ja (v := .int .i64 0) ?_ ?_) <;> simp [go_sem])
 have zm3 : w.heap.size + 1 < w1.heap.size := World.block_lt_of_cell? _ _ m3a
 go_wp2_with fail
 go_loopw [1, 8] (fun a u W => ∃ (k : Nat) (q : Int), k < l.length ∧ a = .int .i64 q ∧ u = .int .i64 (k : Int) ∧ Hid (uP (l.drop k) q = some T) ∧ 0 ≤ q ∧ q ≤ len ∧ W.cell? ⟨w.heap.size, 0, none⟩ = some (.slice (some ⟨b, o, none⟩) l.length cap) ∧ W.cell? ⟨w.heap.size, 1, none⟩ = some (.int .i64 len) ∧ (W.cell? ⟨w.heap.size + 1, 0, none⟩ = some (jr W ⟨w.heap.size + 1, 0, none⟩) ∧ W.frozen? ⟨w.heap.size + 1, 0, none⟩ = false) ∧ (W.cell? ⟨w.heap.size + 1, 1, none⟩ = some (jr W ⟨w.heap.size + 1, 1, none⟩) ∧ W.frozen? ⟨w.heap.size + 1, 1, none⟩ = false) ∧ Below w.heap.size w W) (fun a u _ => l.length - (intOf u).toNat)
 case atStart => exact ⟨0, t, l0, rfl, rfl, H0, h0, h1, f1, f2, ⟨m3a, m3b⟩, ⟨m4a, m4b⟩, by (repeat (with_reducible (first | assumption | exact Below.refl _ _ | refine Below.drew ?_ | refine below_drewN ?_ _ | refine qj ?_ (by simp; try omega) _ | refine qe ?_ (Nat.le_refl _) _ | refine qi (by assumption) ?_)))⟩
 case round =>
  obtain ⟨k, q, hk, rfl, rfl, G, q0, q1, p0, p1, ⟨m0a, m0b⟩, ⟨m1a, m1b⟩, K⟩ := hrel
  obtain ⟨x, hx⟩ : ∃ x, l[k]? = some x := ⟨_, List.getElem?_eq_getElem hk⟩
  have hG := G.out
  rw [Tw hx] at hG
  have xL := eL.out k x hx
  have xE := eV.out k x hx
  have hat := ug (jf K hp.out) hx
  clear hx G
  obtain ⟨c, ax, ay, bx, b_y, cx, cy, r, f, s, L, n, g⟩ := x
  dsimp only at hG xL
  have c0 : wr.cell? ⟨b, o + k * 13, none⟩ = some (.bool c) := hat.1
  have c1 : wr.cell? ⟨b, o + k * 13 + 1, none⟩ = some (.int .i64 ax) := hat.2.1
  have c2 : wr.cell? ⟨b, o + k * 13 + 2, none⟩ = some (.int .i64 ay) := hat.2.2.1
  have c3 : wr.cell? ⟨b, o + k * 13 + 3, none⟩ = some (.int .i64 bx) := hat.2.2.2.1
  have c4 : wr.cell? ⟨b, o + k * 13 + 4, none⟩ = some (.int .i64 b_y) := hat.2.2.2.2.1
  have c5 : wr.cell? ⟨b, o + k * 13 + 5, none⟩ = some (.int .i64 cx) := hat.2.2.2.2.2.1
  have c6 : wr.cell? ⟨b, o + k * 13 + 6, none⟩ = some (.int .i64 cy) := hat.2.2.2.2.2.2.1
  have c7 : wr.cell? ⟨b, o + k * 13 + 7, none⟩ = some (.int .i64 r) := hat.2.2.2.2.2.2.2.1
  have c8 : wr.cell? ⟨b, o + k * 13 + 8, none⟩ = some (.int .i64 f) := hat.2.2.2.2.2.2.2.2.1
  have c9 : wr.cell? ⟨b, o + k * 13 + 9, none⟩ = some (.int .i64 s) := hat.2.2.2.2.2.2.2.2.2.1
  have c10 : wr.cell? ⟨b, o + k * 13 + 10, none⟩ = some (.int .i64 L) := hat.2.2.2.2.2.2.2.2.2.2.1
  have c11 : wr.cell? ⟨b, o + k * 13 + 11, none⟩ = some (.int .i64 n) := hat.2.2.2.2.2.2.2.2.2.2.2.1
  have c12 : wr.cell? ⟨b, o + k * 13 + 12, none⟩ = some (.bool g) := hat.2.2.2.2.2.2.2.2.2.2.2.2
  clear hat
  have zc : b < wr.heap.size := World.block_lt_of_cell? _ _ c0
  have zp : w.heap.size < wr.heap.size := World.block_lt_of_cell? _ _ p0
  have zm : w.heap.size + 1 < wr.heap.size := World.block_lt_of_cell? _ _ m0a
  by_cases hs : L < q
  · rw [if_pos hs] at hG
    have G2 := hide hG
    clear hG xE
    have hk2 : k + 1 < l.length := by
     rcases Nat.lt_or_ge (k + 1) l.length with h | h
     · exact h
     · have := G2.out
       rw [nj h] at this
       cases this
    go_wp2_with fail
    go_roundw
    case rel => exact ⟨k + 1, q - L, hk2, by go_num, by go_num, G2, by omega, by omega, p0, p1, ⟨m0a, m0b⟩, ⟨m1a, m1b⟩, by (repeat (with_reducible (first | assumption | exact Below.refl _ _ | refine Below.drew ?_ | refine below_drewN ?_ _ | refine qj ?_ (by simp; try omega) _ | refine qe ?_ (Nat.le_refl _) _ | refine qi (by assumption) ?_)))⟩
    case measure => simp [intOf]; omega
  · rw [if_neg hs] at hG
    obtain rfl : ((⟨c, ax, ay, bx, b_y, cx, cy, r, f, s, L, n, g⟩ : El), q) = T := by injection hG
    have hv := xE
    unfold El.err at hv
    dsimp only at hv
    clear hG xE
    rcases c with _ | _
    · skip
      obtain ⟨V1, V2, V3, V4, V5⟩ := KE hv
      have hR : R = (ax + (qM 2 (bx - ax) q L).1, ay + (qM 2 (b_y - ay) q L).1, (qF ax ay bx b_y).1, (qF ax ay bx b_y).2) := HR.out
      have B1 := Qt V1
      have B2 := Qt V2
      have U1 := dq (d := bx - ax) (by omega) q0 (by omega) xL.1 xL.2
      have U2 := dq (d := b_y - ay) (by omega) q0 (by omega) xL.1 xL.2
      have MX := fun W => yZ (bx - ax) q L (by constructor <;> omega) (by constructor <;> omega) (by constructor <;> omega) W
      have MY := fun W => yZ (b_y - ay) q L (by constructor <;> omega) (by constructor <;> omega) (by constructor <;> omega) W
      have CO := fun W => yd ax ay bx b_y W
      clear HR hv V1 V2 V3 V4 V5
      generalize qM 2 (bx - ax) q L = X at *
      generalize qM 2 (b_y - ay) q L = Y at *
      generalize qF ax ay bx b_y = C at *
      obtain ⟨X, xe⟩ := X
      obtain ⟨Y, ye⟩ := Y
      obtain ⟨C, ce⟩ := C
      dsimp only at U1 U2 hR
      subst hR
      go_wp2_with fail
      refine (MX _).mono ?_
      rintro e w2 ⟨rfl, n1, rfl⟩
      go_wp2_with fail
      refine (MY _).mono ?_
      rintro e w3 ⟨rfl, n2, rfl⟩
      go_wp2_with fail
      refine (CO _).mono ?_
      rintro e w5 ⟨rfl, hb5⟩
      obtain ⟨f11, f12, f13, f14, f15, f16, f17, f18, f19, f20, f21, f22, f23⟩ : w5.cell? ⟨wr.heap.size, 0, none⟩ = some (.bool false) ∧ w5.cell? ⟨wr.heap.size, 1, none⟩ = some (.int .i64 ax) ∧ w5.cell? ⟨wr.heap.size, 2, none⟩ = some (.int .i64 ay) ∧ w5.cell? ⟨wr.heap.size, 3, none⟩ = some (.int .i64 bx) ∧ w5.cell? ⟨wr.heap.size, 4, none⟩ = some (.int .i64 b_y) ∧ w5.cell? ⟨wr.heap.size, 5, none⟩ = some (.int .i64 cx) ∧ w5.cell? ⟨wr.heap.size, 6, none⟩ = some (.int .i64 cy) ∧ w5.cell? ⟨wr.heap.size, 7, none⟩ = some (.int .i64 r) ∧ w5.cell? ⟨wr.heap.size, 8, none⟩ = some (.int .i64 f) ∧ w5.cell? ⟨wr.heap.size, 9, none⟩ = some (.int .i64 s) ∧ w5.cell? ⟨wr.heap.size, 10, none⟩ = some (.int .i64 L) ∧ w5.cell? ⟨wr.heap.size, 11, none⟩ = some (.int .i64 n) ∧ w5.cell? ⟨wr.heap.size, 12, none⟩ = some (.bool g) := by
       refine ⟨?_, ?_, ?_, ?_, ?_, ?_, ?_, ?_, ?_, ?_, ?_, ?_, ?_⟩ <;> (refine qa hb5 ?_; repeat (first | (with_reducible assumption) | ((with_reducible refine qK ?_ ?_ _); (· first | (simp; done) | (simp; omega) | omega)) | ((with_reducible refine qG ?_ ?_); (· (simp; done)); (· rfl)) | (with_reducible refine qt ?_ _) | (with_reducible refine qC ?_) | (with_reducible refine qu ?_ _) | (with_reducible refine qa (by assumption) ?_)))
      have zf11 : wr.heap.size < w5.heap.size := World.block_lt_of_cell? _ _ f11
      obtain ⟨⟨m24a, m24b⟩, ⟨m25a, m25b⟩⟩ : (w5.cell? ⟨w.heap.size + 1, 0, none⟩ = some (jr w5 ⟨w.heap.size + 1, 0, none⟩) ∧ w5.frozen? ⟨w.heap.size + 1, 0, none⟩ = false) ∧ (w5.cell? ⟨w.heap.size + 1, 1, none⟩ = some (jr w5 ⟨w.heap.size + 1, 1, none⟩) ∧ w5.frozen? ⟨w.heap.size + 1, 1, none⟩ = false) := by
       refine ⟨?_, ?_⟩ <;> (refine qw hb5 ?_; repeat (first | (refine ⟨?_, ?_⟩ <;> (with_reducible assumption)) | (with_reducible refine jE ?_ _) | (with_reducible refine vZ ?_ _ _) | (with_reducible refine vh ?_) | (with_reducible refine yD ?_ _) | (with_reducible refine qw (by assumption) ?_)))
      have zm24 : w.heap.size + 1 < w5.heap.size := World.block_lt_of_cell? _ _ m24a
      clear m0a m0b m1a m1b
      go_wp2_with fail
      exact bodyPost_ret (v := .tuple #[.agg #[.int .i64 (ax + X), .int .i64 (ay + Y)], .int .i64 C, .int .i64 ce]) (by simp [results, Tryz.results8, go_sem, *]) rfl ⟨rfl, by (repeat (with_reducible (first | assumption | exact Below.refl _ _ | refine Below.drew ?_ | refine below_drewN ?_ _ | refine qj ?_ (by simp; try omega) _ | refine qe ?_ (Nat.le_refl _) _ | refine qi (by assumption) ?_)))⟩
    · skip
      have hR : R = qI cx cy r f s q := HR.out
      have AA := fun W => bS cx cy r f s q W R hR
      clear HR hR hv
      go_wp2_with fail
      refine (AA _).mono ?_
      rintro e w5 ⟨rfl, hb5⟩
      obtain ⟨⟨m41a, m41b⟩, ⟨m42a, m42b⟩⟩ : (w5.cell? ⟨w.heap.size + 1, 0, none⟩ = some (jr w5 ⟨w.heap.size + 1, 0, none⟩) ∧ w5.frozen? ⟨w.heap.size + 1, 0, none⟩ = false) ∧ (w5.cell? ⟨w.heap.size + 1, 1, none⟩ = some (jr w5 ⟨w.heap.size + 1, 1, none⟩) ∧ w5.frozen? ⟨w.heap.size + 1, 1, none⟩ = false) := by
       refine ⟨?_, ?_⟩ <;> (refine qw hb5 ?_; repeat (first | (refine ⟨?_, ?_⟩ <;> (with_reducible assumption)) | (with_reducible refine jE ?_ _) | (with_reducible refine vZ ?_ _ _) | (with_reducible refine vh ?_) | (with_reducible refine yD ?_ _) | (with_reducible refine qw (by assumption) ?_)))
      have zm41 : w.heap.size + 1 < w5.heap.size := World.block_lt_of_cell? _ _ m41a
      clear m0a m0b m1a m1b
      go_wp2_with fail
      exact bodyPost_ret (v := .tuple #[.agg #[.int .i64 R.1, .int .i64 R.2.1], .int .i64 R.2.2.1, .int .i64 R.2.2.2]) (by simp [results, Tryz.results8, go_sem, *]) rfl ⟨rfl, by (repeat (with_reducible (first | assumption | exact Below.refl _ _ | refine Below.drew ?_ | refine below_drewN ?_ _ | refine qj ?_ (by simp; try omega) _ | refine qe ?_ (Nat.le_refl _) _ | refine qi (by assumption) ?_)))⟩
theorem mV (S : Option Addr) (l : List El) (cap : Nat) (len t : Int) (w : World) (h2 : l.length ≤ 9223372036854775807) (hp : Hid (yI w S l)) (R : Int × Int × Int × Int) (hR : R = JS l len t) :
 Calls Tryz.prog 8 #[.agg #[.slice S l.length cap, .int .i64 len], .int .i64 t] w fun e w' => e = .returned (.tuple #[.agg #[.int .i64 R.1, .int .i64 R.2.1], .int .i64 R.2.2.1, .int .i64 R.2.2.2]) ∧ Below w.heap.size w w' := by
 unfold JS at hR
 by_cases hc : vX l len = 0
 · rw [if_neg (by simp [hc])] at hR
   by_cases ho : t < 0 ∨ len < t
   · rw [if_pos ho] at hR
     subst hR
     by_cases h0 : t < 0
     · exact ML S l cap len t w h2 hp hc h0
     · exact MN S l cap len t w h2 hp hc (by omega) (by omega)
   · rw [if_neg ho] at hR
     by_cases hl : l.length = 0
     · have hn : l = [] := List.length_eq_zero_iff.1 hl
       have : uP l t = none := by rw [hn]; rfl
       rw [this] at hR
       subst hR
       exact aR S l cap len t w h2 hp hc (by omega) (by omega) hl
     · obtain ⟨T, hT⟩ := ni (l := l) (s := t) (fun h => hl (by rw [h]; rfl)) (by rw [← (JR hc).sum]; omega)
       rw [hT] at hR
       obtain ⟨b, o, rfl⟩ := Yb hp.out (by omega)
       exact aT b o l cap len t w h2 hp hc (by omega) (by omega) T hT R hR
 · rw [if_pos hc] at hR
   subst hR
   exact Pf S l cap len t w h2 hp _ rfl hc
end Go.Proofs.YtdlognnifmihnaaGreatDoor
