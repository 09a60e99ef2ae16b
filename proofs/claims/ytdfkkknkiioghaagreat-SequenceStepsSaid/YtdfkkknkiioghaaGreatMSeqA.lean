/-
  The walks of Check for all paths, of Start and last.
-/
import Derived.Test.YtdfkkknkiioghaaGreatMPathA
import Derived.Test.YtdfkkknkiioghaaGreatMLineE
namespace Go.Proofs.YtdfkkknkiioghaaGreat
open Go.RowKit
set_option linter.unusedVariables false
set_option linter.unusedSimpArgs false
/-- what Start returns: the element, its entry, the error -/
def startF (l : List El) (len el : Int) : Int × Int × Int :=
  if ¬ chkF l len = 0 then (0, 0, chkF l len) else if el < 0 ∨ (l.length : Int) ≤ el then (0, 0, 2) else (el, ((l[el.toNat]?).map (fun x => x.n)).getD 0, 0)
set_option maxHeartbeats 2000000 in
theorem chk_none (S : Option Addr) (l : List El) (hl : l = []) (cap : Nat) (len : Int) (w : World) :
    Calls Tryz.prog 11 #[.agg #[.slice S l.length cap, .int .i64 len]] w fun e w' => e = .returned (.int .i64 (chkF l len)) ∧ Below w.heap.size w w' := by
  have HR : Hid (chkF l len = if len = 0 then 0 else 4) := hide (by rw [hl]; unfold chkF chkG; simp)
  have hn : l.length = 0 := by rw [hl]; rfl
  generalize chkF l len = R at *
  generalize l.length = m at *
  clear hl
  subst hn
  go_enter Tryz.func11, Tryz.ntmps11
  go_wp2_with fail
  go_loopw [3, 4, 15] (fun a b i wr => a = .int .i64 0 ∧ b = .int .i64 0 ∧ i = .int .i64 0 ∧ wr.cell? ⟨w.heap.size, 1, none⟩ = some (.int .i64 len) ∧ Below w.heap.size w wr) (fun _ _ _ _ => 0)
  case atStart => exact ⟨rfl, rfl, rfl, by simp [go_sem], by (repeat (with_reducible (first | assumption | exact Below.refl _ _ | refine Below.drew ?_ | refine below_drewN ?_ _ | refine below_set ?_ (by simp; try omega) _ | refine below_alloc ?_ (Nat.le_refl _) _ | refine below_sub (by assumption) ?_)))⟩
  case round =>
    obtain ⟨rfl, rfl, rfl, q1, K⟩ := hrel
    have zq : w.heap.size < wr.heap.size := World.block_lt_of_cell? _ _ q1
    by_cases hs : len = 0
    · obtain rfl : R = 0 := by rw [HR.out, if_pos hs]
      subst hs
      go_wp2_with fail
      go_ret
      exact ⟨rfl, by (repeat (with_reducible (first | assumption | exact Below.refl _ _ | refine Below.drew ?_ | refine below_drewN ?_ _ | refine below_set ?_ (by simp; try omega) _ | refine below_alloc ?_ (Nat.le_refl _) _ | refine below_sub (by assumption) ?_)))⟩
    · obtain rfl : R = 4 := by rw [HR.out, if_neg hs]
      have hs2 : (len == 0) = false := beq_eq_false_iff_ne.2 hs
      go_wp2_with fail
      go_ret
      exact ⟨rfl, by (repeat (with_reducible (first | assumption | exact Below.refl _ _ | refine Below.drew ?_ | refine below_drewN ?_ _ | refine below_set ?_ (by simp; try omega) _ | refine below_alloc ?_ (Nat.le_refl _) _ | refine below_sub (by assumption) ?_)))⟩
theorem chk_any (S : Option Addr) (l : List El) (cap : Nat) (len : Int) (w : World) (h2 : l.length ≤ 9223372036854775807) (hp : Hid (pathAt w S l)) :
    Calls Tryz.prog 11 #[.agg #[.slice S l.length cap, .int .i64 len]] w fun e w' => e = .returned (.int .i64 (chkF l len)) ∧ Below w.heap.size w w' := by
  by_cases h5 : 500 < l.length
  · exact chk_many S l cap len w h5 h2
  · by_cases h0 : 0 < l.length
    · obtain ⟨b, o, rfl⟩ := pathAt_some hp.out h0
      exact chk_few b o l cap len w h0 (by omega) hp
    · exact chk_none S l (List.length_eq_zero_iff.1 (by omega)) cap len w
set_option maxRecDepth 100000 in
set_option maxHeartbeats 4000000 in
theorem start_any (S : Option Addr) (l : List El) (cap : Nat) (len el : Int) (w : World) (h2 : l.length ≤ 9223372036854775807) (hp : Hid (pathAt w S l)) (R : Int × Int × Int) (hR : R = startF l len el) :
    Calls Tryz.prog 9 #[.agg #[.slice S l.length cap, .int .i64 len], .int .i64 el] w fun e w' => e = .returned (.tuple #[.agg #[.int .i64 R.1, .int .i64 R.2.1, .bool false], .int .i64 R.2.2]) ∧ Below w.heap.size w w' := by
  have CK := fun W hb => chk_any S l cap len W h2 (hide (pathAt_below hb hp.out))
  unfold startF at hR
  by_cases hc : chkF l len = 0
  · rw [if_neg (by simp [hc])] at hR
    rw [hc] at CK
    clear hc
    by_cases he : el < 0 ∨ (l.length : Int) ≤ el
    · rw [if_pos he] at hR
      subst hR
      have he' : el < 0 ∨ (0 ≤ el ∧ (l.length : Int) ≤ el) := by omega
      clear he
      rcases he' with h | ⟨h, k⟩
      all_goals
        go_enter Tryz.func9, Tryz.ntmps9
        go_wp2_with fail
        refine (CK _ (by (repeat (with_reducible (first | assumption | exact Below.refl _ _ | refine Below.drew ?_ | refine below_drewN ?_ _ | refine below_set ?_ (by simp; try omega) _ | refine below_alloc ?_ (Nat.le_refl _) _ | refine below_sub (by assumption) ?_))))).mono ?_
        rintro e w1 ⟨rfl, hb1⟩
        obtain ⟨f1, f2⟩ : w1.cell? ⟨w.heap.size, 0, none⟩ = some (.slice S l.length cap) ∧ w1.cell? ⟨w.heap.size, 1, none⟩ = some (.int .i64 len) := by
          refine ⟨?_, ?_⟩ <;> (refine cell_below hb1 ?_; repeat (first | (with_reducible assumption) | ((with_reducible refine cell_set ?_ ?_ _); (· first | (simp; done) | (simp; omega) | omega)) | ((with_reducible refine cell_new ?_ ?_); (· (simp; done)); (· rfl)) | (with_reducible refine cell_alloc ?_ _) | (with_reducible refine cell_drew ?_) | (with_reducible refine cell_drewN ?_ _) | (with_reducible refine cell_below (by assumption) ?_)))
        have zf1 : w.heap.size < w1.heap.size := World.block_lt_of_cell? _ _ f1
        obtain ⟨⟨m3a, m3b⟩, ⟨m4a, m4b⟩, ⟨m5a, m5b⟩⟩ : (w1.cell? ⟨w.heap.size + 1, 0, none⟩ = some (cellV w1 ⟨w.heap.size + 1, 0, none⟩) ∧ w1.frozen? ⟨w.heap.size + 1, 0, none⟩ = false) ∧ (w1.cell? ⟨w.heap.size + 1, 1, none⟩ = some (cellV w1 ⟨w.heap.size + 1, 1, none⟩) ∧ w1.frozen? ⟨w.heap.size + 1, 1, none⟩ = false) ∧ (w1.cell? ⟨w.heap.size + 1, 2, none⟩ = some (cellV w1 ⟨w.heap.size + 1, 2, none⟩) ∧ w1.frozen? ⟨w.heap.size + 1, 2, none⟩ = false) := by
          refine ⟨?_, ?_, ?_⟩ <;> (first | ((refine mine_below hb1 (mine_of (v := .int .i64 0) ?_ ?_) <;> simp [go_sem]); done) | ((refine mine_below hb1 (mine_of (v := .bool false) ?_ ?_) <;> simp [go_sem]); done))
        have zm3 : w.heap.size + 1 < w1.heap.size := World.block_lt_of_cell? _ _ m3a
        go_wp2_with fail
        all_goals
          exact bodyPost_ret (v := .tuple #[.agg #[.int .i64 0, .int .i64 0, .bool false], .int .i64 2]) (by simp [results, Tryz.results9, go_sem, *]) rfl ⟨rfl, by (repeat (with_reducible (first | assumption | exact Below.refl _ _ | refine Below.drew ?_ | refine below_drewN ?_ _ | refine below_set ?_ (by simp; try omega) _ | refine below_alloc ?_ (Nat.le_refl _) _ | refine below_sub (by assumption) ?_)))⟩
    · rw [if_neg he] at hR
      obtain ⟨k, rfl⟩ : ∃ k : Nat, el = k := ⟨el.toNat, by omega⟩
      have hk : k < l.length := by omega
      obtain ⟨x, hx⟩ : ∃ x, l[k]? = some x := ⟨_, List.getElem?_eq_getElem hk⟩
      rw [show ((k : Int)).toNat = k from by omega, hx] at hR
      subst hR
      obtain ⟨b, o, rfl⟩ := pathAt_some hp.out (by omega)
      have hat := pathAt_get hp.out hx
      have k11 : w.cell? ⟨b, o + k * 13 + 11, none⟩ = some (.int .i64 x.n) := hat.2.2.2.2.2.2.2.2.2.2.2.1
      clear hat hx
      obtain ⟨n, hn⟩ : ∃ n, n = x.n := ⟨_, rfl⟩
      have hn2 := hide hn
      rw [← hn] at k11
      rw [show ((Option.map (fun x => x.n) (some x)).getD 0) = n from hn.symm]
      clear hn
      have zb : b < w.heap.size := World.block_lt_of_cell? _ _ k11
      go_enter Tryz.func9, Tryz.ntmps9
      go_wp2_with fail
      refine (CK _ (by (repeat (with_reducible (first | assumption | exact Below.refl _ _ | refine Below.drew ?_ | refine below_drewN ?_ _ | refine below_set ?_ (by simp; try omega) _ | refine below_alloc ?_ (Nat.le_refl _) _ | refine below_sub (by assumption) ?_))))).mono ?_
      rintro e w1 ⟨rfl, hb1⟩
      obtain ⟨f1, f2, f3⟩ : w1.cell? ⟨w.heap.size, 0, none⟩ = some (.slice (some ⟨b, o, none⟩) l.length cap) ∧ w1.cell? ⟨w.heap.size, 1, none⟩ = some (.int .i64 len) ∧ w1.cell? ⟨b, o + k * 13 + 11, none⟩ = some (.int .i64 n) := by
        refine ⟨?_, ?_, ?_⟩ <;> (refine cell_below hb1 ?_; repeat (first | (with_reducible assumption) | ((with_reducible refine cell_set ?_ ?_ _); (· first | (simp; done) | (simp; omega) | omega)) | ((with_reducible refine cell_new ?_ ?_); (· (simp; done)); (· rfl)) | (with_reducible refine cell_alloc ?_ _) | (with_reducible refine cell_drew ?_) | (with_reducible refine cell_drewN ?_ _) | (with_reducible refine cell_below (by assumption) ?_)))
      have zf1 : w.heap.size < w1.heap.size := World.block_lt_of_cell? _ _ f1
      have zf3 : b < w1.heap.size := World.block_lt_of_cell? _ _ f3
      obtain ⟨⟨m4a, m4b⟩, ⟨m5a, m5b⟩, ⟨m6a, m6b⟩⟩ : (w1.cell? ⟨w.heap.size + 1, 0, none⟩ = some (cellV w1 ⟨w.heap.size + 1, 0, none⟩) ∧ w1.frozen? ⟨w.heap.size + 1, 0, none⟩ = false) ∧ (w1.cell? ⟨w.heap.size + 1, 1, none⟩ = some (cellV w1 ⟨w.heap.size + 1, 1, none⟩) ∧ w1.frozen? ⟨w.heap.size + 1, 1, none⟩ = false) ∧ (w1.cell? ⟨w.heap.size + 1, 2, none⟩ = some (cellV w1 ⟨w.heap.size + 1, 2, none⟩) ∧ w1.frozen? ⟨w.heap.size + 1, 2, none⟩ = false) := by
        refine ⟨?_, ?_, ?_⟩ <;> (first | ((refine mine_below hb1 (mine_of (v := .int .i64 0) ?_ ?_) <;> simp [go_sem]); done) | ((refine mine_below hb1 (mine_of (v := .bool false) ?_ ?_) <;> simp [go_sem]); done))
      have zm4 : w.heap.size + 1 < w1.heap.size := World.block_lt_of_cell? _ _ m4a
      clear k11
      go_wp2_with fail
      all_goals
        exact bodyPost_ret (v := .tuple #[.agg #[.int .i64 (k : Int), .int .i64 n, .bool false], .int .i64 0]) (by simp [results, Tryz.results9, go_sem, *]) rfl ⟨rfl, by (repeat (with_reducible (first | assumption | exact Below.refl _ _ | refine Below.drew ?_ | refine below_drewN ?_ _ | refine below_set ?_ (by simp; try omega) _ | refine below_alloc ?_ (Nat.le_refl _) _ | refine below_sub (by assumption) ?_)))⟩
  · rw [if_pos hc] at hR
    subst hR
    generalize chkF l len = c at *
    · skip
      go_enter Tryz.func9, Tryz.ntmps9
      go_wp2_with fail
      refine (CK _ (by (repeat (with_reducible (first | assumption | exact Below.refl _ _ | refine Below.drew ?_ | refine below_drewN ?_ _ | refine below_set ?_ (by simp; try omega) _ | refine below_alloc ?_ (Nat.le_refl _) _ | refine below_sub (by assumption) ?_))))).mono ?_
      rintro e w1 ⟨rfl, hb1⟩
      obtain ⟨f1, f2⟩ : w1.cell? ⟨w.heap.size, 0, none⟩ = some (.slice S l.length cap) ∧ w1.cell? ⟨w.heap.size, 1, none⟩ = some (.int .i64 len) := by
        refine ⟨?_, ?_⟩ <;> (refine cell_below hb1 ?_; repeat (first | (with_reducible assumption) | ((with_reducible refine cell_set ?_ ?_ _); (· first | (simp; done) | (simp; omega) | omega)) | ((with_reducible refine cell_new ?_ ?_); (· (simp; done)); (· rfl)) | (with_reducible refine cell_alloc ?_ _) | (with_reducible refine cell_drew ?_) | (with_reducible refine cell_drewN ?_ _) | (with_reducible refine cell_below (by assumption) ?_)))
      have zf1 : w.heap.size < w1.heap.size := World.block_lt_of_cell? _ _ f1
      obtain ⟨⟨m3a, m3b⟩, ⟨m4a, m4b⟩, ⟨m5a, m5b⟩⟩ : (w1.cell? ⟨w.heap.size + 1, 0, none⟩ = some (cellV w1 ⟨w.heap.size + 1, 0, none⟩) ∧ w1.frozen? ⟨w.heap.size + 1, 0, none⟩ = false) ∧ (w1.cell? ⟨w.heap.size + 1, 1, none⟩ = some (cellV w1 ⟨w.heap.size + 1, 1, none⟩) ∧ w1.frozen? ⟨w.heap.size + 1, 1, none⟩ = false) ∧ (w1.cell? ⟨w.heap.size + 1, 2, none⟩ = some (cellV w1 ⟨w.heap.size + 1, 2, none⟩) ∧ w1.frozen? ⟨w.heap.size + 1, 2, none⟩ = false) := by
        refine ⟨?_, ?_, ?_⟩ <;> (first | ((refine mine_below hb1 (mine_of (v := .int .i64 0) ?_ ?_) <;> simp [go_sem]); done) | ((refine mine_below hb1 (mine_of (v := .bool false) ?_ ?_) <;> simp [go_sem]); done))
      have zm3 : w.heap.size + 1 < w1.heap.size := World.block_lt_of_cell? _ _ m3a
      go_wp2_with fail
      all_goals
        exact bodyPost_ret (v := .tuple #[.agg #[.int .i64 0, .int .i64 0, .bool false], .int .i64 c]) (by simp [results, Tryz.results9, go_sem, *]) rfl ⟨rfl, by (repeat (with_reducible (first | assumption | exact Below.refl _ _ | refine Below.drew ?_ | refine below_drewN ?_ _ | refine below_set ?_ (by simp; try omega) _ | refine below_alloc ?_ (Nat.le_refl _) _ | refine below_sub (by assumption) ?_)))⟩
set_option maxRecDepth 100000 in
set_option maxHeartbeats 4000000 in
theorem last_end (b o : Nat) (l : List El) (cap : Nat) (len : Int) (k : Nat) (w : World) (h2 : l.length ≤ 9223372036854775807) (hk : k + 1 = l.length) :
    Calls Tryz.prog 14 #[.agg #[.slice (some ⟨b, o, none⟩) l.length cap, .int .i64 len], .int .i64 k] w fun e w' => e = .returned (.bool true) ∧ Below w.heap.size w w' := by
  generalize l.length = m at *
  subst hk
  have w1 := wi' (x := ((k + 1 : Nat) : Int) - 1) (by omega) (by omega)
  have T : (((k : Int)) == ((k + 1 : Nat) : Int) - 1) = true := by simp
  go_enter Tryz.func14, Tryz.ntmps14
  go_wp2_with fail
  go_ret
  exact ⟨rfl, by (repeat (with_reducible (first | assumption | exact Below.refl _ _ | refine Below.drew ?_ | refine below_drewN ?_ _ | refine below_set ?_ (by simp; try omega) _ | refine below_alloc ?_ (Nat.le_refl _) _ | refine below_sub (by assumption) ?_)))⟩
set_option maxRecDepth 100000 in
set_option maxHeartbeats 4000000 in
theorem last_mid (b o : Nat) (l : List El) (cap : Nat) (len : Int) (k : Nat) (w : World) (h2 : l.length ≤ 9223372036854775807) (hk : k + 1 < l.length) (x : El) (hx : l[k + 1]? = some x) (hp : Hid (pathAt w (some ⟨b, o, none⟩) l)) :
    Calls Tryz.prog 14 #[.agg #[.slice (some ⟨b, o, none⟩) l.length cap, .int .i64 len], .int .i64 k] w fun e w' => e = .returned (.bool x.g) ∧ Below w.heap.size w w' := by
  have hat := pathAt_get hp.out hx
  have k12 : w.cell? ⟨b, o + (k + 1) * 13 + 12, none⟩ = some (.bool x.g) := hat.2.2.2.2.2.2.2.2.2.2.2.2
  clear hat hx
  generalize x.g = g at *
  have zb : b < w.heap.size := World.block_lt_of_cell? _ _ k12
  have w1 := wi' (x := (l.length : Int) - 1) (by omega) (by omega)
  have w2 := wi' (x := (k : Int) + 1) (by omega) (by omega)
  have T : ((k : Int) == (l.length : Int) - 1) = false := beq_eq_false_iff_ne.2 (by omega)
  have u1 : (k : Int) + 1 < (l.length : Int) := by omega
  have u2 : (0 : Int) ≤ (k : Int) + 1 := by omega
  go_enter Tryz.func14, Tryz.ntmps14
  go_wp2_with fail
  go_ret
  exact ⟨rfl, by (repeat (with_reducible (first | assumption | exact Below.refl _ _ | refine Below.drew ?_ | refine below_drewN ?_ _ | refine below_set ?_ (by simp; try omega) _ | refine below_alloc ?_ (Nat.le_refl _) _ | refine below_sub (by assumption) ?_)))⟩
theorem last_any (b o : Nat) (l : List El) (cap : Nat) (len : Int) (k : Nat) (w : World) (h2 : l.length ≤ 9223372036854775807) (hk : k < l.length) (hp : Hid (pathAt w (some ⟨b, o, none⟩) l)) :
    Calls Tryz.prog 14 #[.agg #[.slice (some ⟨b, o, none⟩) l.length cap, .int .i64 len], .int .i64 k] w fun e w' => e = .returned (.bool (lastB l k)) ∧ Below w.heap.size w w' := by
  by_cases h : k + 1 = l.length
  · rw [show lastB l k = true from by unfold lastB; rw [List.getElem?_eq_none (by omega)]]
    exact last_end b o l cap len k w h2 h
  · obtain ⟨x, hx⟩ : ∃ x, l[k + 1]? = some x := ⟨_, List.getElem?_eq_getElem (by omega)⟩
    rw [show lastB l k = x.g from by unfold lastB; rw [hx]]
    exact last_mid b o l cap len k w h2 (by omega) x hx hp
end Go.Proofs.YtdfkkknkiioghaaGreat

