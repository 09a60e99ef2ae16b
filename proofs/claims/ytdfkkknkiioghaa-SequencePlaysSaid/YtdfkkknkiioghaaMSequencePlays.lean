/-
  The walk of the law SequencePlays.
-/
import Derived.Test.YtdfkkknkiioghaaMAwake28
import Derived.Test.YtdfkkknkiioghaaMStepAll
import Derived.Test.YtdfkkknkiioghaaMSameX
import Derived.Test.YtdfkkknkiioghaaMPtsIn
import Derived.Test.YtdfkkknkiioghaaRows
import Derived.Test.YtdfkkknkiioghaaMFrame
import Derived.Test.YtdfkkknkiioghaaMPathIn
namespace Go.Proofs.Ytdfkkknkiioghaa
open Go.RowKit
set_option linter.unusedVariables false
set_option linter.unusedSimpArgs false
theorem lastI_take : ∀ {ts : List Int} {z t : Int} {j : Nat}, ts[j]? = some t → lastI z (ts.take (j + 1)) = t
  | [], _, _, _, h => by simp at h
  | u :: ts, z, t, 0, h => by
    simp at h
    subst h
    rw [List.take_succ_cons, lastI_cons, List.take_zero]
    rfl
  | u :: ts, z, t, j + 1, h => by
    simp at h
    rw [List.take_succ_cons, lastI_cons]
    exact lastI_take h
theorem upI_get : ∀ {ts : List Int} {z t : Int} {j : Nat}, upI z ts → ts[j]? = some t → lastI z (ts.take j) < t
  | [], _, _, _, _, h => by simp at h
  | u :: ts, z, t, 0, hu, h => by
    simp at h
    subst h
    rw [List.take_zero]
    exact hu.1
  | u :: ts, z, t, j + 1, hu, h => by
    simp at h
    rw [List.take_succ_cons, lastI_cons]
    exact upI_get hu.2 h
theorem stepG_len (l : List El) (px py : Int) : ∀ (m k : Nat) (en : Int) (ps : List Int), (stepG l px py m k en ps).2.2.2.length ≤ ps.length + m
  | 0, k, en, ps => by simp [stepG]
  | m + 1, k, en, ps => by
    rw [stepG]
    cases hk : l[k]? with
    | none => simp
    | some x =>
      dsimp only
      by_cases ho : x.over px py = false
      · simp [ho]
      · simp only [ho, if_false]
        cases hk2 : l[k + 1]? with
        | none => simp <;> omega
        | some y =>
          dsimp only
          by_cases hg : y.g = true
          · simp [hg] <;> omega
          · simp only [hg, if_false]
            by_cases hn : y.n = en
            · simp only [hn, if_true]
              have := stepG_len l px py m (k + 1) en ps
              simp at this ⊢
              omega
            · simp only [hn, if_false]
              have := stepG_len l px py m (k + 1) y.n (ps ++ [en])
              simp at this ⊢
              omega
theorem stepR_len {l : List El} {len el e0 px py : Int} {dn : Bool} (hc : chkF l len = 0) {R : Int × Int × Bool × List Int} (hR : R = stepR l len el e0 dn px py) : R.2.2.2.length ≤ 500 := by
  have l5 := (okPath hc).short
  subst hR
  unfold stepR
  repeat' split
  all_goals first | (simp; done) | (have := stepG_len l px py (l.length - el.toNat) el.toNat (by assumption : El).n []; simp at this; dsimp only; omega) | skip
  all_goals
    rename_i x hx
    have := stepG_len l px py (l.length - el.toNat) el.toNat x.n []
    simp at this
    dsimp only
    omega
set_option maxRecDepth 100000 in
set_option maxHeartbeats 16000000 in
theorem play_bad (w : World) (S : Option Addr) (l : List El) (cap : Nat) (len : Int) (Q : Option Addr) (ls : List (Int × Int)) (qcap : Nat) (h2 : l.length ≤ 9223372036854775807) (hp : Hid (pathAt w S l)) (hl2 : ls.length ≤ 9223372036854775807) (hq : Hid (ptsAt w Q ls)) (r1 r2 E : Int) (hs : (r1, r2, E) = startF l len 0) (h : ¬ E = 0) :
    Calls Try.prog 5 #[.agg #[.slice S l.length cap, .int .i64 len], .slice Q ls.length qcap] w fun e w' => e = .returned (.bool true) ∧ Below w.heap.size w w' := by
  have S0 := hide hs
  clear hs
  have T : (E != 0) = true := bne_iff_ne.2 h
  go_enter Try.func5, Try.ntmps5
  go_wp2_with fail
  refine (awake28_any _).mono ?_
  rintro e w1 ⟨rfl, hb1⟩
  obtain ⟨f1, f2⟩ : w1.cell? ⟨w.heap.size, 0, none⟩ = some (.slice S l.length cap) ∧ w1.cell? ⟨w.heap.size, 1, none⟩ = some (.int .i64 len) := by
    refine ⟨?_, ?_⟩ <;> (refine cell_below hb1 ?_; repeat (first | (with_reducible assumption) | ((with_reducible refine cell_set ?_ ?_ _); (· first | (simp; done) | (simp; omega) | omega)) | ((with_reducible refine cell_new ?_ ?_); (· (simp; done)); (· rfl)) | (with_reducible refine cell_alloc ?_ _) | (with_reducible refine cell_drew ?_) | (with_reducible refine cell_drewN ?_ _) | (with_reducible refine cell_below (by assumption) ?_)))
  have zf1 : w.heap.size < w1.heap.size := World.block_lt_of_cell? _ _ f1
  go_wp2_with fail
  refine (start_any S l cap len 0 _ h2 (hide (pathAt_below (show Below w.heap.size w _ by (repeat (with_reducible (first | assumption | exact Below.refl _ _ | refine Below.drew ?_ | refine below_drewN ?_ _ | refine below_set ?_ (by simp; try omega) _ | refine below_alloc ?_ (Nat.le_refl _) _ | refine below_sub (by assumption) ?_)))) hp.out)) (r1, r2, E) S0.out).mono ?_
  rintro e w2 ⟨rfl, hb2⟩
  obtain ⟨f3, f4⟩ : w2.cell? ⟨w.heap.size, 0, none⟩ = some (.slice S l.length cap) ∧ w2.cell? ⟨w.heap.size, 1, none⟩ = some (.int .i64 len) := by
    refine ⟨?_, ?_⟩ <;> (refine cell_below hb2 ?_; repeat (first | (with_reducible assumption) | ((with_reducible refine cell_set ?_ ?_ _); (· first | (simp; done) | (simp; omega) | omega)) | ((with_reducible refine cell_new ?_ ?_); (· (simp; done)); (· rfl)) | (with_reducible refine cell_alloc ?_ _) | (with_reducible refine cell_drew ?_) | (with_reducible refine cell_drewN ?_ _) | (with_reducible refine cell_below (by assumption) ?_)))
  have zf3 : w.heap.size < w2.heap.size := World.block_lt_of_cell? _ _ f3
  clear f1 zf1 f2
  go_wp2_with fail
  all_goals
    go_ret
    exact ⟨rfl, by (repeat (with_reducible (first | assumption | exact Below.refl _ _ | refine Below.drew ?_ | refine below_drewN ?_ _ | refine below_set ?_ (by simp; try omega) _ | refine below_alloc ?_ (Nat.le_refl _) _ | refine below_sub (by assumption) ?_)))⟩
set_option maxRecDepth 100000 in
set_option maxHeartbeats 16000000 in
theorem play_long (w : World) (S : Option Addr) (l : List El) (cap : Nat) (len : Int) (Q : Option Addr) (ls : List (Int × Int)) (qcap : Nat) (h2 : l.length ≤ 9223372036854775807) (hp : Hid (pathAt w S l)) (hl2 : ls.length ≤ 9223372036854775807) (hq : Hid (ptsAt w Q ls)) (r1 r2 : Int) (hs : (r1, r2, (0 : Int)) = startF l len 0) (h : 60 < ls.length) :
    Calls Try.prog 5 #[.agg #[.slice S l.length cap, .int .i64 len], .slice Q ls.length qcap] w fun e w' => e = .returned (.bool true) ∧ Below w.heap.size w w' := by
  have S0 := hide hs
  clear hs
  have T : (60 : Int) < (ls.length : Int) := by omega
  go_enter Try.func5, Try.ntmps5
  go_wp2_with fail
  refine (awake28_any _).mono ?_
  rintro e w1 ⟨rfl, hb1⟩
  obtain ⟨f1, f2⟩ : w1.cell? ⟨w.heap.size, 0, none⟩ = some (.slice S l.length cap) ∧ w1.cell? ⟨w.heap.size, 1, none⟩ = some (.int .i64 len) := by
    refine ⟨?_, ?_⟩ <;> (refine cell_below hb1 ?_; repeat (first | (with_reducible assumption) | ((with_reducible refine cell_set ?_ ?_ _); (· first | (simp; done) | (simp; omega) | omega)) | ((with_reducible refine cell_new ?_ ?_); (· (simp; done)); (· rfl)) | (with_reducible refine cell_alloc ?_ _) | (with_reducible refine cell_drew ?_) | (with_reducible refine cell_drewN ?_ _) | (with_reducible refine cell_below (by assumption) ?_)))
  have zf1 : w.heap.size < w1.heap.size := World.block_lt_of_cell? _ _ f1
  go_wp2_with fail
  refine (start_any S l cap len 0 _ h2 (hide (pathAt_below (show Below w.heap.size w _ by (repeat (with_reducible (first | assumption | exact Below.refl _ _ | refine Below.drew ?_ | refine below_drewN ?_ _ | refine below_set ?_ (by simp; try omega) _ | refine below_alloc ?_ (Nat.le_refl _) _ | refine below_sub (by assumption) ?_)))) hp.out)) (r1, r2, (0 : Int)) S0.out).mono ?_
  rintro e w2 ⟨rfl, hb2⟩
  obtain ⟨f3, f4⟩ : w2.cell? ⟨w.heap.size, 0, none⟩ = some (.slice S l.length cap) ∧ w2.cell? ⟨w.heap.size, 1, none⟩ = some (.int .i64 len) := by
    refine ⟨?_, ?_⟩ <;> (refine cell_below hb2 ?_; repeat (first | (with_reducible assumption) | ((with_reducible refine cell_set ?_ ?_ _); (· first | (simp; done) | (simp; omega) | omega)) | ((with_reducible refine cell_new ?_ ?_); (· (simp; done)); (· rfl)) | (with_reducible refine cell_alloc ?_ _) | (with_reducible refine cell_drew ?_) | (with_reducible refine cell_drewN ?_ _) | (with_reducible refine cell_below (by assumption) ?_)))
  have zf3 : w.heap.size < w2.heap.size := World.block_lt_of_cell? _ _ f3
  clear f1 zf1 f2
  go_wp2_with fail
  all_goals
    go_ret
    exact ⟨rfl, by (repeat (with_reducible (first | assumption | exact Below.refl _ _ | refine Below.drew ?_ | refine below_drewN ?_ _ | refine below_set ?_ (by simp; try omega) _ | refine below_alloc ?_ (Nat.le_refl _) _ | refine below_sub (by assumption) ?_)))⟩
set_option maxRecDepth 100000 in
set_option maxHeartbeats 16000000 in
theorem play_main (w : World) (S : Option Addr) (l : List El) (cap : Nat) (len : Int) (Q : Option Addr) (ls : List (Int × Int)) (qcap : Nat) (h2 : l.length ≤ 9223372036854775807) (hp : Hid (pathAt w S l)) (hl2 : ls.length ≤ 9223372036854775807) (hq : Hid (ptsAt w Q ls)) (hc : chkF l len = 0) (x0 : El) (hx : l[0]? = some x0) (h : ls.length ≤ 60) :
    Calls Try.prog 5 #[.agg #[.slice S l.length cap, .int .i64 len], .slice Q ls.length qcap] w fun e w' => e = .returned (.bool true) ∧ Below w.heap.size w w' := by
  have HC := hide hc
  have PS := hide (play_start (okPath hc) hx)
  have l0 := (List.getElem?_eq_some_iff.1 hx).1
  have S0 : Hid ((0, x0.n, (0 : Int)) = startF l len 0) := hide (by unfold startF; rw [if_neg (by simp [hc]), if_neg (by omega)]; simp [hx])
  have T : (ls.length : Int) ≤ 60 := by omega
  have l5 := (okPath hc).short
  clear hc hx
  go_enter Try.func5, Try.ntmps5
  go_wp2_with fail
  refine (awake28_any _).mono ?_
  rintro e w1 ⟨rfl, hb1⟩
  obtain ⟨f1, f2⟩ : w1.cell? ⟨w.heap.size, 0, none⟩ = some (.slice S l.length cap) ∧ w1.cell? ⟨w.heap.size, 1, none⟩ = some (.int .i64 len) := by
    refine ⟨?_, ?_⟩ <;> (refine cell_below hb1 ?_; repeat (first | (with_reducible assumption) | ((with_reducible refine cell_set ?_ ?_ _); (· first | (simp; done) | (simp; omega) | omega)) | ((with_reducible refine cell_new ?_ ?_); (· (simp; done)); (· rfl)) | (with_reducible refine cell_alloc ?_ _) | (with_reducible refine cell_drew ?_) | (with_reducible refine cell_drewN ?_ _) | (with_reducible refine cell_below (by assumption) ?_)))
  have zf1 : w.heap.size < w1.heap.size := World.block_lt_of_cell? _ _ f1
  go_wp2_with fail
  refine (start_any S l cap len 0 _ h2 (hide (pathAt_below (show Below w.heap.size w _ by (repeat (with_reducible (first | assumption | exact Below.refl _ _ | refine Below.drew ?_ | refine below_drewN ?_ _ | refine below_set ?_ (by simp; try omega) _ | refine below_alloc ?_ (Nat.le_refl _) _ | refine below_sub (by assumption) ?_)))) hp.out)) (0, x0.n, (0 : Int)) S0.out).mono ?_
  rintro e w2 ⟨rfl, hb2⟩
  obtain ⟨f3, f4⟩ : w2.cell? ⟨w.heap.size, 0, none⟩ = some (.slice S l.length cap) ∧ w2.cell? ⟨w.heap.size, 1, none⟩ = some (.int .i64 len) := by
    refine ⟨?_, ?_⟩ <;> (refine cell_below hb2 ?_; repeat (first | (with_reducible assumption) | ((with_reducible refine cell_set ?_ ?_ _); (· first | (simp; done) | (simp; omega) | omega)) | ((with_reducible refine cell_new ?_ ?_); (· (simp; done)); (· rfl)) | (with_reducible refine cell_alloc ?_ _) | (with_reducible refine cell_drew ?_) | (with_reducible refine cell_drewN ?_ _) | (with_reducible refine cell_below (by assumption) ?_)))
  have zf3 : w.heap.size < w2.heap.size := World.block_lt_of_cell? _ _ f3
  clear f1 zf1 f2
  go_wp2_with fail
  go_loopw [7, 32] (fun a i W => ∃ (k : Nat) (z el e0 : Int) (dn : Bool), k ≤ ls.length ∧ a = .int .i64 z ∧ i = .int .i64 (k : Int) ∧ Hid (playB l el e0 dn z) ∧ W.cell? ⟨w.heap.size, 0, none⟩ = some (.slice S l.length cap) ∧ W.cell? ⟨w.heap.size, 1, none⟩ = some (.int .i64 len) ∧ (W.cell? ⟨w2.heap.size, 0, none⟩ = some (.int .i64 el) ∧ W.frozen? ⟨w2.heap.size, 0, none⟩ = false) ∧ (W.cell? ⟨w2.heap.size, 1, none⟩ = some (.int .i64 e0) ∧ W.frozen? ⟨w2.heap.size, 1, none⟩ = false) ∧ (W.cell? ⟨w2.heap.size, 2, none⟩ = some (.bool dn) ∧ W.frozen? ⟨w2.heap.size, 2, none⟩ = false) ∧ Below w.heap.size w W) (fun a i _ => ls.length - (intOf i).toNat)
  case atStart => exact ⟨0, -1, 0, x0.n, false, by omega, rfl, rfl, PS, by (repeat (first | (with_reducible assumption) | ((with_reducible refine cell_set ?_ ?_ _); (· first | (simp; done) | (simp; omega) | omega)) | ((with_reducible refine cell_new ?_ ?_); (· (simp; done)); (· rfl)) | (with_reducible refine cell_alloc ?_ _) | (with_reducible refine cell_drew ?_) | (with_reducible refine cell_drewN ?_ _) | (with_reducible refine cell_below (by assumption) ?_))), by (repeat (first | (with_reducible assumption) | ((with_reducible refine cell_set ?_ ?_ _); (· first | (simp; done) | (simp; omega) | omega)) | ((with_reducible refine cell_new ?_ ?_); (· (simp; done)); (· rfl)) | (with_reducible refine cell_alloc ?_ _) | (with_reducible refine cell_drew ?_) | (with_reducible refine cell_drewN ?_ _) | (with_reducible refine cell_below (by assumption) ?_))), by (repeat (first | (refine ⟨?_, ?_⟩ <;> (with_reducible assumption)) | (with_reducible apply own_same) | ((with_reducible refine own_set ?_ ?_ _); (· first | (simp; done) | (simp; omega))) | ((with_reducible refine own_new ?_ ?_); (· (simp; done)); (· rfl)) | (with_reducible refine own_alloc ?_ _) | (with_reducible refine own_drew ?_) | (with_reducible refine own_drewN ?_ _) | (with_reducible refine own_below (by assumption) ?_))), by (repeat (first | (refine ⟨?_, ?_⟩ <;> (with_reducible assumption)) | (with_reducible apply own_same) | ((with_reducible refine own_set ?_ ?_ _); (· first | (simp; done) | (simp; omega))) | ((with_reducible refine own_new ?_ ?_); (· (simp; done)); (· rfl)) | (with_reducible refine own_alloc ?_ _) | (with_reducible refine own_drew ?_) | (with_reducible refine own_drewN ?_ _) | (with_reducible refine own_below (by assumption) ?_))), by (repeat (first | (refine ⟨?_, ?_⟩ <;> (with_reducible assumption)) | (with_reducible apply own_same) | ((with_reducible refine own_set ?_ ?_ _); (· first | (simp; done) | (simp; omega))) | ((with_reducible refine own_new ?_ ?_); (· (simp; done)); (· rfl)) | (with_reducible refine own_alloc ?_ _) | (with_reducible refine own_drew ?_) | (with_reducible refine own_drewN ?_ _) | (with_reducible refine own_below (by assumption) ?_))), by (repeat (with_reducible (first | assumption | exact Below.refl _ _ | refine Below.drew ?_ | refine below_drewN ?_ _ | refine below_set ?_ (by simp; try omega) _ | refine below_alloc ?_ (Nat.le_refl _) _ | refine below_sub (by assumption) ?_)))⟩
  case round =>
    obtain ⟨k, z, el, e0, dn, hk, rfl, rfl, PB0, p0, p1, ⟨g0a, g0b⟩, ⟨g1a, g1b⟩, ⟨g2a, g2b⟩, K⟩ := hrel
    obtain ⟨wq, hwq⟩ : ∃ wq, wq = wr := ⟨_, rfl⟩
    subst hwq
    have zp : w.heap.size < wq.heap.size := World.block_lt_of_cell? _ _ p0
    have zg : w2.heap.size < wq.heap.size := World.block_lt_of_cell? _ _ g0a
    have zw : w.heap.size < w2.heap.size := by assumption
    by_cases hlt : k < ls.length
    rotate_left
    · go_wp2_with fail
      go_ret
      exact ⟨rfl, by (repeat (with_reducible (first | assumption | exact Below.refl _ _ | refine Below.drew ?_ | refine below_drewN ?_ _ | refine below_set ?_ (by simp; try omega) _ | refine below_alloc ?_ (Nat.le_refl _) _ | refine below_sub (by assumption) ?_)))⟩
    obtain ⟨qb, qo, rfl⟩ := ptsAt_some hq.out (by omega)
    obtain ⟨q, hqk⟩ : ∃ q, ls[k]? = some q := ⟨_, List.getElem?_eq_getElem hlt⟩
    obtain ⟨d0, d1⟩ := ptsAt_get (ptsAt_below K hq.out) hqk
    have zqb : qb < w.heap.size := World.block_lt_of_cell? _ _ (ptsAt_get hq.out hqk).1
    clear hqk
    obtain ⟨px, py⟩ := q
    dsimp only at d0 d1
    obtain ⟨⟨r1, r2, r3, ts⟩, hR⟩ : ∃ R, R = stepR l len el e0 dn px py := ⟨_, rfl⟩
    obtain ⟨P1, P2, P3, P4, P5⟩ := play_step HC.out PB0.out px py hR
    dsimp only at P1 P2 P3 P4 P5
    have HR := hide hR
    have P3h := hide P3
    have P4h := hide P4
    have P5h := hide P5.symm
    obtain ⟨b1, b2, _⟩ := P4
    obtain ⟨b3, b4, _⟩ := PB0.out
    have lts : ts.length ≤ 500 := stepR_len HC.out hR
    clear hR P3 P5 PB0
    have zc : qb < wq.heap.size := World.block_lt_of_cell? _ _ d0
    rcases dn with _ | _
    · skip
      clear P2
      go_wp2_with fail
      refine (step_any S l cap len el e0 false px py _ h2 (hide (pathAt_below (show Below w.heap.size w _ by (repeat (with_reducible (first | assumption | exact Below.refl _ _ | refine Below.drew ?_ | refine below_drewN ?_ _ | refine below_set ?_ (by simp; try omega) _ | refine below_alloc ?_ (Nat.le_refl _) _ | refine below_sub (by assumption) ?_)))) hp.out)) (r1, r2, r3, ts) HR.out).mono ?_
      rintro e w7 ⟨S1, cp1, rfl, hi1, hn1, hb7⟩
      obtain ⟨f61, f62, f63, f64⟩ : w7.cell? ⟨w.heap.size, 0, none⟩ = some (.slice S l.length cap) ∧ w7.cell? ⟨w.heap.size, 1, none⟩ = some (.int .i64 len) ∧ w7.cell? ⟨wq.heap.size, 0, none⟩ = some (.int .i64 px) ∧ w7.cell? ⟨wq.heap.size, 1, none⟩ = some (.int .i64 py) := by
        refine ⟨?_, ?_, ?_, ?_⟩ <;> (refine cell_below hb7 ?_; repeat (first | (with_reducible assumption) | ((with_reducible refine cell_set ?_ ?_ _); (· first | (simp; done) | (simp; omega) | omega)) | ((with_reducible refine cell_new ?_ ?_); (· (simp; done)); (· rfl)) | (with_reducible refine cell_alloc ?_ _) | (with_reducible refine cell_drew ?_) | (with_reducible refine cell_drewN ?_ _) | (with_reducible refine cell_below (by assumption) ?_)))
      have zf61 : w.heap.size < w7.heap.size := World.block_lt_of_cell? _ _ f61
      have zf63 : wq.heap.size < w7.heap.size := World.block_lt_of_cell? _ _ f63
      obtain ⟨⟨o65a, o65b⟩, ⟨o66a, o66b⟩, ⟨o67a, o67b⟩⟩ : (w7.cell? ⟨w2.heap.size, 0, none⟩ = some (.int .i64 el) ∧ w7.frozen? ⟨w2.heap.size, 0, none⟩ = false) ∧ (w7.cell? ⟨w2.heap.size, 1, none⟩ = some (.int .i64 e0) ∧ w7.frozen? ⟨w2.heap.size, 1, none⟩ = false) ∧ (w7.cell? ⟨w2.heap.size, 2, none⟩ = some (.bool false) ∧ w7.frozen? ⟨w2.heap.size, 2, none⟩ = false) := by
        refine ⟨?_, ?_, ?_⟩ <;> (refine own_below hb7 ?_; repeat (first | (refine ⟨?_, ?_⟩ <;> (with_reducible assumption)) | (with_reducible apply own_same) | ((with_reducible refine own_set ?_ ?_ _); (· first | (simp; done) | (simp; omega))) | ((with_reducible refine own_new ?_ ?_); (· (simp; done)); (· rfl)) | (with_reducible refine own_alloc ?_ _) | (with_reducible refine own_drew ?_) | (with_reducible refine own_drewN ?_ _) | (with_reducible refine own_below (by assumption) ?_)))
      have zo65 : w2.heap.size < w7.heap.size := World.block_lt_of_cell? _ _ o65a
      clear p0 p1 g0a g0b g1a g1b g2a g2b
      go_wp2_with fail
      have zh : w7.heap.size < (w7.alloc (.cells #[.int .i64 r1, .int .i64 r2, .bool r3] 45)).heap.size := by simp
      have zqh : wq.heap.size < w7.heap.size := by assumption
      go_loopw [7, 67] (fun a i W => ∃ (j : Nat) (u : Int), j ≤ ts.length ∧ a = .int .i64 u ∧ i = .int .i64 (j : Int) ∧ Hid (u = lastI z (ts.take j)) ∧ Hid (intsAt W S1 ts) ∧ W.cell? ⟨w.heap.size, 0, none⟩ = some (.slice S l.length cap) ∧ W.cell? ⟨w.heap.size, 1, none⟩ = some (.int .i64 len) ∧ W.cell? ⟨wq.heap.size, 0, none⟩ = some (.int .i64 px) ∧ W.cell? ⟨wq.heap.size, 1, none⟩ = some (.int .i64 py) ∧ W.cell? ⟨w7.heap.size, 0, none⟩ = some (.int .i64 r1) ∧ W.cell? ⟨w7.heap.size, 1, none⟩ = some (.int .i64 r2) ∧ W.cell? ⟨w7.heap.size, 2, none⟩ = some (.bool r3) ∧ (W.cell? ⟨w2.heap.size, 0, none⟩ = some (.int .i64 el) ∧ W.frozen? ⟨w2.heap.size, 0, none⟩ = false) ∧ (W.cell? ⟨w2.heap.size, 1, none⟩ = some (.int .i64 e0) ∧ W.frozen? ⟨w2.heap.size, 1, none⟩ = false) ∧ (W.cell? ⟨w2.heap.size, 2, none⟩ = some (.bool false) ∧ W.frozen? ⟨w2.heap.size, 2, none⟩ = false) ∧ Below w.heap.size w W) (fun a i _ => ts.length - (intOf i).toNat)
      case atStart => exact ⟨0, z, by omega, rfl, rfl, hide rfl, hide (intsAt_below (show Below w7.heap.size w7 _ by (repeat (with_reducible (first | assumption | exact Below.refl _ _ | refine Below.drew ?_ | refine below_drewN ?_ _ | refine below_set ?_ (by simp; try omega) _ | refine below_alloc ?_ (Nat.le_refl _) _ | refine below_sub (by assumption) ?_)))) hi1.out), by (repeat (first | (with_reducible assumption) | ((with_reducible refine cell_set ?_ ?_ _); (· first | (simp; done) | (simp; omega) | omega)) | ((with_reducible refine cell_new ?_ ?_); (· (simp; done)); (· rfl)) | (with_reducible refine cell_alloc ?_ _) | (with_reducible refine cell_drew ?_) | (with_reducible refine cell_drewN ?_ _) | (with_reducible refine cell_below (by assumption) ?_))), by (repeat (first | (with_reducible assumption) | ((with_reducible refine cell_set ?_ ?_ _); (· first | (simp; done) | (simp; omega) | omega)) | ((with_reducible refine cell_new ?_ ?_); (· (simp; done)); (· rfl)) | (with_reducible refine cell_alloc ?_ _) | (with_reducible refine cell_drew ?_) | (with_reducible refine cell_drewN ?_ _) | (with_reducible refine cell_below (by assumption) ?_))), by (repeat (first | (with_reducible assumption) | ((with_reducible refine cell_set ?_ ?_ _); (· first | (simp; done) | (simp; omega) | omega)) | ((with_reducible refine cell_new ?_ ?_); (· (simp; done)); (· rfl)) | (with_reducible refine cell_alloc ?_ _) | (with_reducible refine cell_drew ?_) | (with_reducible refine cell_drewN ?_ _) | (with_reducible refine cell_below (by assumption) ?_))), by (repeat (first | (with_reducible assumption) | ((with_reducible refine cell_set ?_ ?_ _); (· first | (simp; done) | (simp; omega) | omega)) | ((with_reducible refine cell_new ?_ ?_); (· (simp; done)); (· rfl)) | (with_reducible refine cell_alloc ?_ _) | (with_reducible refine cell_drew ?_) | (with_reducible refine cell_drewN ?_ _) | (with_reducible refine cell_below (by assumption) ?_))), by (repeat (first | (with_reducible assumption) | ((with_reducible refine cell_set ?_ ?_ _); (· first | (simp; done) | (simp; omega) | omega)) | ((with_reducible refine cell_new ?_ ?_); (· (simp; done)); (· rfl)) | (with_reducible refine cell_alloc ?_ _) | (with_reducible refine cell_drew ?_) | (with_reducible refine cell_drewN ?_ _) | (with_reducible refine cell_below (by assumption) ?_))), by (repeat (first | (with_reducible assumption) | ((with_reducible refine cell_set ?_ ?_ _); (· first | (simp; done) | (simp; omega) | omega)) | ((with_reducible refine cell_new ?_ ?_); (· (simp; done)); (· rfl)) | (with_reducible refine cell_alloc ?_ _) | (with_reducible refine cell_drew ?_) | (with_reducible refine cell_drewN ?_ _) | (with_reducible refine cell_below (by assumption) ?_))), by (repeat (first | (with_reducible assumption) | ((with_reducible refine cell_set ?_ ?_ _); (· first | (simp; done) | (simp; omega) | omega)) | ((with_reducible refine cell_new ?_ ?_); (· (simp; done)); (· rfl)) | (with_reducible refine cell_alloc ?_ _) | (with_reducible refine cell_drew ?_) | (with_reducible refine cell_drewN ?_ _) | (with_reducible refine cell_below (by assumption) ?_))), by (repeat (first | (refine ⟨?_, ?_⟩ <;> (with_reducible assumption)) | (with_reducible apply own_same) | ((with_reducible refine own_set ?_ ?_ _); (· first | (simp; done) | (simp; omega))) | ((with_reducible refine own_new ?_ ?_); (· (simp; done)); (· rfl)) | (with_reducible refine own_alloc ?_ _) | (with_reducible refine own_drew ?_) | (with_reducible refine own_drewN ?_ _) | (with_reducible refine own_below (by assumption) ?_))), by (repeat (first | (refine ⟨?_, ?_⟩ <;> (with_reducible assumption)) | (with_reducible apply own_same) | ((with_reducible refine own_set ?_ ?_ _); (· first | (simp; done) | (simp; omega))) | ((with_reducible refine own_new ?_ ?_); (· (simp; done)); (· rfl)) | (with_reducible refine own_alloc ?_ _) | (with_reducible refine own_drew ?_) | (with_reducible refine own_drewN ?_ _) | (with_reducible refine own_below (by assumption) ?_))), by (repeat (first | (refine ⟨?_, ?_⟩ <;> (with_reducible assumption)) | (with_reducible apply own_same) | ((with_reducible refine own_set ?_ ?_ _); (· first | (simp; done) | (simp; omega))) | ((with_reducible refine own_new ?_ ?_); (· (simp; done)); (· rfl)) | (with_reducible refine own_alloc ?_ _) | (with_reducible refine own_drew ?_) | (with_reducible refine own_drewN ?_ _) | (with_reducible refine own_below (by assumption) ?_))), by (repeat (with_reducible (first | assumption | exact Below.refl _ _ | refine Below.drew ?_ | refine below_drewN ?_ _ | refine below_set ?_ (by simp; try omega) _ | refine below_alloc ?_ (Nat.le_refl _) _ | refine below_sub (by assumption) ?_)))⟩
      case round =>
        obtain ⟨j, u, hj, rfl, rfl, hu, hI, p0, p1, x0, x1, y0, y1, y2, ⟨g0a, g0b⟩, ⟨g1a, g1b⟩, ⟨g2a, g2b⟩, K⟩ := hrel
        have zp1 : w.heap.size < wr.heap.size := World.block_lt_of_cell? _ _ p0
        have zx1 : wq.heap.size < wr.heap.size := World.block_lt_of_cell? _ _ x0
        have zy1 : w7.heap.size < wr.heap.size := World.block_lt_of_cell? _ _ y0
        have zg1 : w2.heap.size < wr.heap.size := World.block_lt_of_cell? _ _ g0a
        by_cases hlj : j < ts.length
        · obtain ⟨t, ht⟩ : ∃ t, ts[j]? = some t := ⟨_, List.getElem?_eq_getElem hlj⟩
          have hut : u < t := by rw [hu.out]; exact upI_get P3h.out ht
          have hu2 : Hid (t = lastI z (ts.take (j + 1))) := hide (lastI_take ht).symm
          obtain ⟨sg, so, rfl⟩ := intsAt_some hI.out (by omega)
          have ct := intsAt_get hI.out ht
          have zt : sg < wr.heap.size := World.block_lt_of_cell? _ _ ct
          clear ht
          go_wp2_with fail
          go_roundw
          case rel => exact ⟨j + 1, t, by omega, by go_num, by go_num, hu2, hide (intsAt_below (show Below wr.heap.size wr _ by (repeat (with_reducible (first | assumption | exact Below.refl _ _ | refine Below.drew ?_ | refine below_drewN ?_ _ | refine below_set ?_ (by simp; try omega) _ | refine below_alloc ?_ (Nat.le_refl _) _ | refine below_sub (by assumption) ?_)))) hI.out), by (repeat (first | (with_reducible assumption) | ((with_reducible refine cell_set ?_ ?_ _); (· first | (simp; done) | (simp; omega) | omega)) | ((with_reducible refine cell_new ?_ ?_); (· (simp; done)); (· rfl)) | (with_reducible refine cell_alloc ?_ _) | (with_reducible refine cell_drew ?_) | (with_reducible refine cell_drewN ?_ _) | (with_reducible refine cell_below (by assumption) ?_))), by (repeat (first | (with_reducible assumption) | ((with_reducible refine cell_set ?_ ?_ _); (· first | (simp; done) | (simp; omega) | omega)) | ((with_reducible refine cell_new ?_ ?_); (· (simp; done)); (· rfl)) | (with_reducible refine cell_alloc ?_ _) | (with_reducible refine cell_drew ?_) | (with_reducible refine cell_drewN ?_ _) | (with_reducible refine cell_below (by assumption) ?_))), by (repeat (first | (with_reducible assumption) | ((with_reducible refine cell_set ?_ ?_ _); (· first | (simp; done) | (simp; omega) | omega)) | ((with_reducible refine cell_new ?_ ?_); (· (simp; done)); (· rfl)) | (with_reducible refine cell_alloc ?_ _) | (with_reducible refine cell_drew ?_) | (with_reducible refine cell_drewN ?_ _) | (with_reducible refine cell_below (by assumption) ?_))), by (repeat (first | (with_reducible assumption) | ((with_reducible refine cell_set ?_ ?_ _); (· first | (simp; done) | (simp; omega) | omega)) | ((with_reducible refine cell_new ?_ ?_); (· (simp; done)); (· rfl)) | (with_reducible refine cell_alloc ?_ _) | (with_reducible refine cell_drew ?_) | (with_reducible refine cell_drewN ?_ _) | (with_reducible refine cell_below (by assumption) ?_))), by (repeat (first | (with_reducible assumption) | ((with_reducible refine cell_set ?_ ?_ _); (· first | (simp; done) | (simp; omega) | omega)) | ((with_reducible refine cell_new ?_ ?_); (· (simp; done)); (· rfl)) | (with_reducible refine cell_alloc ?_ _) | (with_reducible refine cell_drew ?_) | (with_reducible refine cell_drewN ?_ _) | (with_reducible refine cell_below (by assumption) ?_))), by (repeat (first | (with_reducible assumption) | ((with_reducible refine cell_set ?_ ?_ _); (· first | (simp; done) | (simp; omega) | omega)) | ((with_reducible refine cell_new ?_ ?_); (· (simp; done)); (· rfl)) | (with_reducible refine cell_alloc ?_ _) | (with_reducible refine cell_drew ?_) | (with_reducible refine cell_drewN ?_ _) | (with_reducible refine cell_below (by assumption) ?_))), by (repeat (first | (with_reducible assumption) | ((with_reducible refine cell_set ?_ ?_ _); (· first | (simp; done) | (simp; omega) | omega)) | ((with_reducible refine cell_new ?_ ?_); (· (simp; done)); (· rfl)) | (with_reducible refine cell_alloc ?_ _) | (with_reducible refine cell_drew ?_) | (with_reducible refine cell_drewN ?_ _) | (with_reducible refine cell_below (by assumption) ?_))), by (repeat (first | (refine ⟨?_, ?_⟩ <;> (with_reducible assumption)) | (with_reducible apply own_same) | ((with_reducible refine own_set ?_ ?_ _); (· first | (simp; done) | (simp; omega))) | ((with_reducible refine own_new ?_ ?_); (· (simp; done)); (· rfl)) | (with_reducible refine own_alloc ?_ _) | (with_reducible refine own_drew ?_) | (with_reducible refine own_drewN ?_ _) | (with_reducible refine own_below (by assumption) ?_))), by (repeat (first | (refine ⟨?_, ?_⟩ <;> (with_reducible assumption)) | (with_reducible apply own_same) | ((with_reducible refine own_set ?_ ?_ _); (· first | (simp; done) | (simp; omega))) | ((with_reducible refine own_new ?_ ?_); (· (simp; done)); (· rfl)) | (with_reducible refine own_alloc ?_ _) | (with_reducible refine own_drew ?_) | (with_reducible refine own_drewN ?_ _) | (with_reducible refine own_below (by assumption) ?_))), by (repeat (first | (refine ⟨?_, ?_⟩ <;> (with_reducible assumption)) | (with_reducible apply own_same) | ((with_reducible refine own_set ?_ ?_ _); (· first | (simp; done) | (simp; omega))) | ((with_reducible refine own_new ?_ ?_); (· (simp; done)); (· rfl)) | (with_reducible refine own_alloc ?_ _) | (with_reducible refine own_drew ?_) | (with_reducible refine own_drewN ?_ _) | (with_reducible refine own_below (by assumption) ?_))), by (repeat (with_reducible (first | assumption | exact Below.refl _ _ | refine Below.drew ?_ | refine below_drewN ?_ _ | refine below_set ?_ (by simp; try omega) _ | refine below_alloc ?_ (Nat.le_refl _) _ | refine below_sub (by assumption) ?_)))⟩
          case measure => simp [intOf]; omega
        · obtain rfl : j = ts.length := by omega
          obtain rfl : u = lastI z ts := by rw [hu.out, List.take_length]
          clear hu hlj hj
          generalize lastI z ts = zz at *
          go_wp2_with fail
          refine (step_any S l cap len r1 r2 r3 px py _ h2 (hide (pathAt_below (show Below w.heap.size w _ by (repeat (with_reducible (first | assumption | exact Below.refl _ _ | refine Below.drew ?_ | refine below_drewN ?_ _ | refine below_set ?_ (by simp; try omega) _ | refine below_alloc ?_ (Nat.le_refl _) _ | refine below_sub (by assumption) ?_)))) hp.out)) (r1, r2, r3, []) P5h.out).mono ?_
          rintro e w10 ⟨S2, cp2, rfl, hi2, hn2, hb10⟩
          obtain ⟨f201, f202, f203, f204, f205, f206, f207⟩ : w10.cell? ⟨w.heap.size, 0, none⟩ = some (.slice S l.length cap) ∧ w10.cell? ⟨w.heap.size, 1, none⟩ = some (.int .i64 len) ∧ w10.cell? ⟨wq.heap.size, 0, none⟩ = some (.int .i64 px) ∧ w10.cell? ⟨wq.heap.size, 1, none⟩ = some (.int .i64 py) ∧ w10.cell? ⟨w7.heap.size, 0, none⟩ = some (.int .i64 r1) ∧ w10.cell? ⟨w7.heap.size, 1, none⟩ = some (.int .i64 r2) ∧ w10.cell? ⟨w7.heap.size, 2, none⟩ = some (.bool r3) := by
            refine ⟨?_, ?_, ?_, ?_, ?_, ?_, ?_⟩ <;> (refine cell_below hb10 ?_; repeat (first | (with_reducible assumption) | ((with_reducible refine cell_set ?_ ?_ _); (· first | (simp; done) | (simp; omega) | omega)) | ((with_reducible refine cell_new ?_ ?_); (· (simp; done)); (· rfl)) | (with_reducible refine cell_alloc ?_ _) | (with_reducible refine cell_drew ?_) | (with_reducible refine cell_drewN ?_ _) | (with_reducible refine cell_below (by assumption) ?_)))
          have zf201 : w.heap.size < w10.heap.size := World.block_lt_of_cell? _ _ f201
          have zf203 : wq.heap.size < w10.heap.size := World.block_lt_of_cell? _ _ f203
          have zf205 : w7.heap.size < w10.heap.size := World.block_lt_of_cell? _ _ f205
          obtain ⟨⟨o208a, o208b⟩, ⟨o209a, o209b⟩, ⟨o210a, o210b⟩⟩ : (w10.cell? ⟨w2.heap.size, 0, none⟩ = some (.int .i64 el) ∧ w10.frozen? ⟨w2.heap.size, 0, none⟩ = false) ∧ (w10.cell? ⟨w2.heap.size, 1, none⟩ = some (.int .i64 e0) ∧ w10.frozen? ⟨w2.heap.size, 1, none⟩ = false) ∧ (w10.cell? ⟨w2.heap.size, 2, none⟩ = some (.bool false) ∧ w10.frozen? ⟨w2.heap.size, 2, none⟩ = false) := by
            refine ⟨?_, ?_, ?_⟩ <;> (refine own_below hb10 ?_; repeat (first | (refine ⟨?_, ?_⟩ <;> (with_reducible assumption)) | (with_reducible apply own_same) | ((with_reducible refine own_set ?_ ?_ _); (· first | (simp; done) | (simp; omega))) | ((with_reducible refine own_new ?_ ?_); (· (simp; done)); (· rfl)) | (with_reducible refine own_alloc ?_ _) | (with_reducible refine own_drew ?_) | (with_reducible refine own_drewN ?_ _) | (with_reducible refine own_below (by assumption) ?_)))
          have zo208 : w2.heap.size < w10.heap.size := World.block_lt_of_cell? _ _ o208a
          clear p0 p1 x0 x1 y0 y1 y2 g0a g0b g1a g1b g2a g2b
          go_wp2_with fail
          generalize hwwz : (((w10.setCell ⟨w2.heap.size, 0, none⟩ (.int .i64 r1)).setCell ⟨w2.heap.size, 1, none⟩ (.int .i64 r2)).setCell ⟨w2.heap.size, 2, none⟩ (.bool r3)) = wz
          have ne211 : w2.heap.size ≠ w.heap.size := by omega
          have ne212 : w2.heap.size ≠ wq.heap.size := by omega
          have ne213 : w2.heap.size ≠ w7.heap.size := by omega
          have x214 : wz.cell? ⟨w.heap.size, 0, none⟩ = some (.slice S l.length cap) := by
            rw [← hwwz]; exact (cell_set ne211 (cell_set ne211 (cell_set ne211 f201 _) _) _)
          have zzx214 : w.heap.size < wz.heap.size := World.block_lt_of_cell? _ _ x214
          have x215 : wz.cell? ⟨w.heap.size, 1, none⟩ = some (.int .i64 len) := by
            rw [← hwwz]; exact (cell_set ne211 (cell_set ne211 (cell_set ne211 f202 _) _) _)
          have x216 : wz.cell? ⟨wq.heap.size, 0, none⟩ = some (.int .i64 px) := by
            rw [← hwwz]; exact (cell_set ne212 (cell_set ne212 (cell_set ne212 f203 _) _) _)
          have zzx216 : wq.heap.size < wz.heap.size := World.block_lt_of_cell? _ _ x216
          have x217 : wz.cell? ⟨wq.heap.size, 1, none⟩ = some (.int .i64 py) := by
            rw [← hwwz]; exact (cell_set ne212 (cell_set ne212 (cell_set ne212 f204 _) _) _)
          have x218 : wz.cell? ⟨w7.heap.size, 0, none⟩ = some (.int .i64 r1) := by
            rw [← hwwz]; exact (cell_set ne213 (cell_set ne213 (cell_set ne213 f205 _) _) _)
          have zzx218 : w7.heap.size < wz.heap.size := World.block_lt_of_cell? _ _ x218
          have x219 : wz.cell? ⟨w7.heap.size, 1, none⟩ = some (.int .i64 r2) := by
            rw [← hwwz]; exact (cell_set ne213 (cell_set ne213 (cell_set ne213 f206 _) _) _)
          have x220 : wz.cell? ⟨w7.heap.size, 2, none⟩ = some (.bool r3) := by
            rw [← hwwz]; exact (cell_set ne213 (cell_set ne213 (cell_set ne213 f207 _) _) _)
          obtain ⟨x221a, x221b⟩ : wz.cell? ⟨w2.heap.size, 0, none⟩ = some (.int .i64 r1) ∧ wz.frozen? ⟨w2.heap.size, 0, none⟩ = false := by
            rw [← hwwz]; exact (own_set (by simp) (own_set (by simp) (own_same ⟨o208a, o208b⟩ _) _) _)
          have zzx221a : w2.heap.size < wz.heap.size := World.block_lt_of_cell? _ _ x221a
          obtain ⟨x222a, x222b⟩ : wz.cell? ⟨w2.heap.size, 1, none⟩ = some (.int .i64 r2) ∧ wz.frozen? ⟨w2.heap.size, 1, none⟩ = false := by
            rw [← hwwz]; exact (own_set (by simp) (own_same (own_set (by simp) ⟨o209a, o209b⟩ _) _) _)
          obtain ⟨x223a, x223b⟩ : wz.cell? ⟨w2.heap.size, 2, none⟩ = some (.bool r3) ∧ wz.frozen? ⟨w2.heap.size, 2, none⟩ = false := by
            rw [← hwwz]; exact (own_same (own_set (by simp) (own_set (by simp) ⟨o210a, o210b⟩ _) _) _)
          have Bwz : Below w.heap.size w wz := by
            rw [← hwwz]
            (repeat (with_reducible (first | assumption | exact Below.refl _ _ | refine Below.drew ?_ | refine below_drewN ?_ _ | refine below_set ?_ (by simp; try omega) _ | refine below_alloc ?_ (Nat.le_refl _) _ | refine below_sub (by assumption) ?_)))
          clear f201 zf201 f202 f203 zf203 f204 f205 zf205 f206 f207 o208a o208b zo208 o209a o209b o210a o210b hwwz
          go_roundw
          case rel => exact ⟨k + 1, zz, r1, r2, r3, by omega, by go_num, by go_num, P4h, by (repeat (first | (with_reducible assumption) | ((with_reducible refine cell_set ?_ ?_ _); (· first | (simp; done) | (simp; omega) | omega)) | ((with_reducible refine cell_new ?_ ?_); (· (simp; done)); (· rfl)) | (with_reducible refine cell_alloc ?_ _) | (with_reducible refine cell_drew ?_) | (with_reducible refine cell_drewN ?_ _) | (with_reducible refine cell_below (by assumption) ?_))), by (repeat (first | (with_reducible assumption) | ((with_reducible refine cell_set ?_ ?_ _); (· first | (simp; done) | (simp; omega) | omega)) | ((with_reducible refine cell_new ?_ ?_); (· (simp; done)); (· rfl)) | (with_reducible refine cell_alloc ?_ _) | (with_reducible refine cell_drew ?_) | (with_reducible refine cell_drewN ?_ _) | (with_reducible refine cell_below (by assumption) ?_))), by (repeat (first | (refine ⟨?_, ?_⟩ <;> (with_reducible assumption)) | (with_reducible apply own_same) | ((with_reducible refine own_set ?_ ?_ _); (· first | (simp; done) | (simp; omega))) | ((with_reducible refine own_new ?_ ?_); (· (simp; done)); (· rfl)) | (with_reducible refine own_alloc ?_ _) | (with_reducible refine own_drew ?_) | (with_reducible refine own_drewN ?_ _) | (with_reducible refine own_below (by assumption) ?_))), by (repeat (first | (refine ⟨?_, ?_⟩ <;> (with_reducible assumption)) | (with_reducible apply own_same) | ((with_reducible refine own_set ?_ ?_ _); (· first | (simp; done) | (simp; omega))) | ((with_reducible refine own_new ?_ ?_); (· (simp; done)); (· rfl)) | (with_reducible refine own_alloc ?_ _) | (with_reducible refine own_drew ?_) | (with_reducible refine own_drewN ?_ _) | (with_reducible refine own_below (by assumption) ?_))), by (repeat (first | (refine ⟨?_, ?_⟩ <;> (with_reducible assumption)) | (with_reducible apply own_same) | ((with_reducible refine own_set ?_ ?_ _); (· first | (simp; done) | (simp; omega))) | ((with_reducible refine own_new ?_ ?_); (· (simp; done)); (· rfl)) | (with_reducible refine own_alloc ?_ _) | (with_reducible refine own_drew ?_) | (with_reducible refine own_drewN ?_ _) | (with_reducible refine own_below (by assumption) ?_))), by (repeat (with_reducible (first | assumption | exact Below.refl _ _ | refine Below.drew ?_ | refine below_drewN ?_ _ | refine below_set ?_ (by simp; try omega) _ | refine below_alloc ?_ (Nat.le_refl _) _ | refine below_sub (by assumption) ?_)))⟩
          case measure => simp [intOf]; omega
    · skip
      obtain ⟨rfl, rfl, rfl⟩ := P2 rfl
      clear P2
      go_wp2_with fail
      refine (step_any S l cap len r1 r2 true px py _ h2 (hide (pathAt_below (show Below w.heap.size w _ by (repeat (with_reducible (first | assumption | exact Below.refl _ _ | refine Below.drew ?_ | refine below_drewN ?_ _ | refine below_set ?_ (by simp; try omega) _ | refine below_alloc ?_ (Nat.le_refl _) _ | refine below_sub (by assumption) ?_)))) hp.out)) (r1, r2, true, ts) HR.out).mono ?_
      rintro e w7 ⟨S1, cp1, rfl, hi1, hn1, hb7⟩
      obtain ⟨f61, f62, f63, f64⟩ : w7.cell? ⟨w.heap.size, 0, none⟩ = some (.slice S l.length cap) ∧ w7.cell? ⟨w.heap.size, 1, none⟩ = some (.int .i64 len) ∧ w7.cell? ⟨wq.heap.size, 0, none⟩ = some (.int .i64 px) ∧ w7.cell? ⟨wq.heap.size, 1, none⟩ = some (.int .i64 py) := by
        refine ⟨?_, ?_, ?_, ?_⟩ <;> (refine cell_below hb7 ?_; repeat (first | (with_reducible assumption) | ((with_reducible refine cell_set ?_ ?_ _); (· first | (simp; done) | (simp; omega) | omega)) | ((with_reducible refine cell_new ?_ ?_); (· (simp; done)); (· rfl)) | (with_reducible refine cell_alloc ?_ _) | (with_reducible refine cell_drew ?_) | (with_reducible refine cell_drewN ?_ _) | (with_reducible refine cell_below (by assumption) ?_)))
      have zf61 : w.heap.size < w7.heap.size := World.block_lt_of_cell? _ _ f61
      have zf63 : wq.heap.size < w7.heap.size := World.block_lt_of_cell? _ _ f63
      obtain ⟨⟨o65a, o65b⟩, ⟨o66a, o66b⟩, ⟨o67a, o67b⟩⟩ : (w7.cell? ⟨w2.heap.size, 0, none⟩ = some (.int .i64 r1) ∧ w7.frozen? ⟨w2.heap.size, 0, none⟩ = false) ∧ (w7.cell? ⟨w2.heap.size, 1, none⟩ = some (.int .i64 r2) ∧ w7.frozen? ⟨w2.heap.size, 1, none⟩ = false) ∧ (w7.cell? ⟨w2.heap.size, 2, none⟩ = some (.bool true) ∧ w7.frozen? ⟨w2.heap.size, 2, none⟩ = false) := by
        refine ⟨?_, ?_, ?_⟩ <;> (refine own_below hb7 ?_; repeat (first | (refine ⟨?_, ?_⟩ <;> (with_reducible assumption)) | (with_reducible apply own_same) | ((with_reducible refine own_set ?_ ?_ _); (· first | (simp; done) | (simp; omega))) | ((with_reducible refine own_new ?_ ?_); (· (simp; done)); (· rfl)) | (with_reducible refine own_alloc ?_ _) | (with_reducible refine own_drew ?_) | (with_reducible refine own_drewN ?_ _) | (with_reducible refine own_below (by assumption) ?_)))
      have zo65 : w2.heap.size < w7.heap.size := World.block_lt_of_cell? _ _ o65a
      clear p0 p1 g0a g0b g1a g1b g2a g2b
      go_wp2_with fail
      have zh : w7.heap.size < (w7.alloc (.cells #[.int .i64 r1, .int .i64 r2, .bool true] 45)).heap.size := by simp
      have zqh : wq.heap.size < w7.heap.size := by assumption
      go_loopw [7, 67] (fun a i W => ∃ (j : Nat) (u : Int), j ≤ ts.length ∧ a = .int .i64 u ∧ i = .int .i64 (j : Int) ∧ Hid (u = lastI z (ts.take j)) ∧ Hid (intsAt W S1 ts) ∧ W.cell? ⟨w.heap.size, 0, none⟩ = some (.slice S l.length cap) ∧ W.cell? ⟨w.heap.size, 1, none⟩ = some (.int .i64 len) ∧ W.cell? ⟨wq.heap.size, 0, none⟩ = some (.int .i64 px) ∧ W.cell? ⟨wq.heap.size, 1, none⟩ = some (.int .i64 py) ∧ W.cell? ⟨w7.heap.size, 0, none⟩ = some (.int .i64 r1) ∧ W.cell? ⟨w7.heap.size, 1, none⟩ = some (.int .i64 r2) ∧ W.cell? ⟨w7.heap.size, 2, none⟩ = some (.bool true) ∧ (W.cell? ⟨w2.heap.size, 0, none⟩ = some (.int .i64 r1) ∧ W.frozen? ⟨w2.heap.size, 0, none⟩ = false) ∧ (W.cell? ⟨w2.heap.size, 1, none⟩ = some (.int .i64 r2) ∧ W.frozen? ⟨w2.heap.size, 1, none⟩ = false) ∧ (W.cell? ⟨w2.heap.size, 2, none⟩ = some (.bool true) ∧ W.frozen? ⟨w2.heap.size, 2, none⟩ = false) ∧ Below w.heap.size w W) (fun a i _ => ts.length - (intOf i).toNat)
      case atStart => exact ⟨0, z, by omega, rfl, rfl, hide rfl, hide (intsAt_below (show Below w7.heap.size w7 _ by (repeat (with_reducible (first | assumption | exact Below.refl _ _ | refine Below.drew ?_ | refine below_drewN ?_ _ | refine below_set ?_ (by simp; try omega) _ | refine below_alloc ?_ (Nat.le_refl _) _ | refine below_sub (by assumption) ?_)))) hi1.out), by (repeat (first | (with_reducible assumption) | ((with_reducible refine cell_set ?_ ?_ _); (· first | (simp; done) | (simp; omega) | omega)) | ((with_reducible refine cell_new ?_ ?_); (· (simp; done)); (· rfl)) | (with_reducible refine cell_alloc ?_ _) | (with_reducible refine cell_drew ?_) | (with_reducible refine cell_drewN ?_ _) | (with_reducible refine cell_below (by assumption) ?_))), by (repeat (first | (with_reducible assumption) | ((with_reducible refine cell_set ?_ ?_ _); (· first | (simp; done) | (simp; omega) | omega)) | ((with_reducible refine cell_new ?_ ?_); (· (simp; done)); (· rfl)) | (with_reducible refine cell_alloc ?_ _) | (with_reducible refine cell_drew ?_) | (with_reducible refine cell_drewN ?_ _) | (with_reducible refine cell_below (by assumption) ?_))), by (repeat (first | (with_reducible assumption) | ((with_reducible refine cell_set ?_ ?_ _); (· first | (simp; done) | (simp; omega) | omega)) | ((with_reducible refine cell_new ?_ ?_); (· (simp; done)); (· rfl)) | (with_reducible refine cell_alloc ?_ _) | (with_reducible refine cell_drew ?_) | (with_reducible refine cell_drewN ?_ _) | (with_reducible refine cell_below (by assumption) ?_))), by (repeat (first | (with_reducible assumption) | ((with_reducible refine cell_set ?_ ?_ _); (· first | (simp; done) | (simp; omega) | omega)) | ((with_reducible refine cell_new ?_ ?_); (· (simp; done)); (· rfl)) | (with_reducible refine cell_alloc ?_ _) | (with_reducible refine cell_drew ?_) | (with_reducible refine cell_drewN ?_ _) | (with_reducible refine cell_below (by assumption) ?_))), by (repeat (first | (with_reducible assumption) | ((with_reducible refine cell_set ?_ ?_ _); (· first | (simp; done) | (simp; omega) | omega)) | ((with_reducible refine cell_new ?_ ?_); (· (simp; done)); (· rfl)) | (with_reducible refine cell_alloc ?_ _) | (with_reducible refine cell_drew ?_) | (with_reducible refine cell_drewN ?_ _) | (with_reducible refine cell_below (by assumption) ?_))), by (repeat (first | (with_reducible assumption) | ((with_reducible refine cell_set ?_ ?_ _); (· first | (simp; done) | (simp; omega) | omega)) | ((with_reducible refine cell_new ?_ ?_); (· (simp; done)); (· rfl)) | (with_reducible refine cell_alloc ?_ _) | (with_reducible refine cell_drew ?_) | (with_reducible refine cell_drewN ?_ _) | (with_reducible refine cell_below (by assumption) ?_))), by (repeat (first | (with_reducible assumption) | ((with_reducible refine cell_set ?_ ?_ _); (· first | (simp; done) | (simp; omega) | omega)) | ((with_reducible refine cell_new ?_ ?_); (· (simp; done)); (· rfl)) | (with_reducible refine cell_alloc ?_ _) | (with_reducible refine cell_drew ?_) | (with_reducible refine cell_drewN ?_ _) | (with_reducible refine cell_below (by assumption) ?_))), by (repeat (first | (refine ⟨?_, ?_⟩ <;> (with_reducible assumption)) | (with_reducible apply own_same) | ((with_reducible refine own_set ?_ ?_ _); (· first | (simp; done) | (simp; omega))) | ((with_reducible refine own_new ?_ ?_); (· (simp; done)); (· rfl)) | (with_reducible refine own_alloc ?_ _) | (with_reducible refine own_drew ?_) | (with_reducible refine own_drewN ?_ _) | (with_reducible refine own_below (by assumption) ?_))), by (repeat (first | (refine ⟨?_, ?_⟩ <;> (with_reducible assumption)) | (with_reducible apply own_same) | ((with_reducible refine own_set ?_ ?_ _); (· first | (simp; done) | (simp; omega))) | ((with_reducible refine own_new ?_ ?_); (· (simp; done)); (· rfl)) | (with_reducible refine own_alloc ?_ _) | (with_reducible refine own_drew ?_) | (with_reducible refine own_drewN ?_ _) | (with_reducible refine own_below (by assumption) ?_))), by (repeat (first | (refine ⟨?_, ?_⟩ <;> (with_reducible assumption)) | (with_reducible apply own_same) | ((with_reducible refine own_set ?_ ?_ _); (· first | (simp; done) | (simp; omega))) | ((with_reducible refine own_new ?_ ?_); (· (simp; done)); (· rfl)) | (with_reducible refine own_alloc ?_ _) | (with_reducible refine own_drew ?_) | (with_reducible refine own_drewN ?_ _) | (with_reducible refine own_below (by assumption) ?_))), by (repeat (with_reducible (first | assumption | exact Below.refl _ _ | refine Below.drew ?_ | refine below_drewN ?_ _ | refine below_set ?_ (by simp; try omega) _ | refine below_alloc ?_ (Nat.le_refl _) _ | refine below_sub (by assumption) ?_)))⟩
      case round =>
        obtain ⟨j, u, hj, rfl, rfl, hu, hI, p0, p1, x0, x1, y0, y1, y2, ⟨g0a, g0b⟩, ⟨g1a, g1b⟩, ⟨g2a, g2b⟩, K⟩ := hrel
        have zp1 : w.heap.size < wr.heap.size := World.block_lt_of_cell? _ _ p0
        have zx1 : wq.heap.size < wr.heap.size := World.block_lt_of_cell? _ _ x0
        have zy1 : w7.heap.size < wr.heap.size := World.block_lt_of_cell? _ _ y0
        have zg1 : w2.heap.size < wr.heap.size := World.block_lt_of_cell? _ _ g0a
        by_cases hlj : j < ts.length
        · obtain ⟨t, ht⟩ : ∃ t, ts[j]? = some t := ⟨_, List.getElem?_eq_getElem hlj⟩
          have hut : u < t := by rw [hu.out]; exact upI_get P3h.out ht
          have hu2 : Hid (t = lastI z (ts.take (j + 1))) := hide (lastI_take ht).symm
          obtain ⟨sg, so, rfl⟩ := intsAt_some hI.out (by omega)
          have ct := intsAt_get hI.out ht
          have zt : sg < wr.heap.size := World.block_lt_of_cell? _ _ ct
          clear ht
          go_wp2_with fail
          go_roundw
          case rel => exact ⟨j + 1, t, by omega, by go_num, by go_num, hu2, hide (intsAt_below (show Below wr.heap.size wr _ by (repeat (with_reducible (first | assumption | exact Below.refl _ _ | refine Below.drew ?_ | refine below_drewN ?_ _ | refine below_set ?_ (by simp; try omega) _ | refine below_alloc ?_ (Nat.le_refl _) _ | refine below_sub (by assumption) ?_)))) hI.out), by (repeat (first | (with_reducible assumption) | ((with_reducible refine cell_set ?_ ?_ _); (· first | (simp; done) | (simp; omega) | omega)) | ((with_reducible refine cell_new ?_ ?_); (· (simp; done)); (· rfl)) | (with_reducible refine cell_alloc ?_ _) | (with_reducible refine cell_drew ?_) | (with_reducible refine cell_drewN ?_ _) | (with_reducible refine cell_below (by assumption) ?_))), by (repeat (first | (with_reducible assumption) | ((with_reducible refine cell_set ?_ ?_ _); (· first | (simp; done) | (simp; omega) | omega)) | ((with_reducible refine cell_new ?_ ?_); (· (simp; done)); (· rfl)) | (with_reducible refine cell_alloc ?_ _) | (with_reducible refine cell_drew ?_) | (with_reducible refine cell_drewN ?_ _) | (with_reducible refine cell_below (by assumption) ?_))), by (repeat (first | (with_reducible assumption) | ((with_reducible refine cell_set ?_ ?_ _); (· first | (simp; done) | (simp; omega) | omega)) | ((with_reducible refine cell_new ?_ ?_); (· (simp; done)); (· rfl)) | (with_reducible refine cell_alloc ?_ _) | (with_reducible refine cell_drew ?_) | (with_reducible refine cell_drewN ?_ _) | (with_reducible refine cell_below (by assumption) ?_))), by (repeat (first | (with_reducible assumption) | ((with_reducible refine cell_set ?_ ?_ _); (· first | (simp; done) | (simp; omega) | omega)) | ((with_reducible refine cell_new ?_ ?_); (· (simp; done)); (· rfl)) | (with_reducible refine cell_alloc ?_ _) | (with_reducible refine cell_drew ?_) | (with_reducible refine cell_drewN ?_ _) | (with_reducible refine cell_below (by assumption) ?_))), by (repeat (first | (with_reducible assumption) | ((with_reducible refine cell_set ?_ ?_ _); (· first | (simp; done) | (simp; omega) | omega)) | ((with_reducible refine cell_new ?_ ?_); (· (simp; done)); (· rfl)) | (with_reducible refine cell_alloc ?_ _) | (with_reducible refine cell_drew ?_) | (with_reducible refine cell_drewN ?_ _) | (with_reducible refine cell_below (by assumption) ?_))), by (repeat (first | (with_reducible assumption) | ((with_reducible refine cell_set ?_ ?_ _); (· first | (simp; done) | (simp; omega) | omega)) | ((with_reducible refine cell_new ?_ ?_); (· (simp; done)); (· rfl)) | (with_reducible refine cell_alloc ?_ _) | (with_reducible refine cell_drew ?_) | (with_reducible refine cell_drewN ?_ _) | (with_reducible refine cell_below (by assumption) ?_))), by (repeat (first | (with_reducible assumption) | ((with_reducible refine cell_set ?_ ?_ _); (· first | (simp; done) | (simp; omega) | omega)) | ((with_reducible refine cell_new ?_ ?_); (· (simp; done)); (· rfl)) | (with_reducible refine cell_alloc ?_ _) | (with_reducible refine cell_drew ?_) | (with_reducible refine cell_drewN ?_ _) | (with_reducible refine cell_below (by assumption) ?_))), by (repeat (first | (refine ⟨?_, ?_⟩ <;> (with_reducible assumption)) | (with_reducible apply own_same) | ((with_reducible refine own_set ?_ ?_ _); (· first | (simp; done) | (simp; omega))) | ((with_reducible refine own_new ?_ ?_); (· (simp; done)); (· rfl)) | (with_reducible refine own_alloc ?_ _) | (with_reducible refine own_drew ?_) | (with_reducible refine own_drewN ?_ _) | (with_reducible refine own_below (by assumption) ?_))), by (repeat (first | (refine ⟨?_, ?_⟩ <;> (with_reducible assumption)) | (with_reducible apply own_same) | ((with_reducible refine own_set ?_ ?_ _); (· first | (simp; done) | (simp; omega))) | ((with_reducible refine own_new ?_ ?_); (· (simp; done)); (· rfl)) | (with_reducible refine own_alloc ?_ _) | (with_reducible refine own_drew ?_) | (with_reducible refine own_drewN ?_ _) | (with_reducible refine own_below (by assumption) ?_))), by (repeat (first | (refine ⟨?_, ?_⟩ <;> (with_reducible assumption)) | (with_reducible apply own_same) | ((with_reducible refine own_set ?_ ?_ _); (· first | (simp; done) | (simp; omega))) | ((with_reducible refine own_new ?_ ?_); (· (simp; done)); (· rfl)) | (with_reducible refine own_alloc ?_ _) | (with_reducible refine own_drew ?_) | (with_reducible refine own_drewN ?_ _) | (with_reducible refine own_below (by assumption) ?_))), by (repeat (with_reducible (first | assumption | exact Below.refl _ _ | refine Below.drew ?_ | refine below_drewN ?_ _ | refine below_set ?_ (by simp; try omega) _ | refine below_alloc ?_ (Nat.le_refl _) _ | refine below_sub (by assumption) ?_)))⟩
          case measure => simp [intOf]; omega
        · obtain rfl : j = ts.length := by omega
          obtain rfl : u = lastI z ts := by rw [hu.out, List.take_length]
          clear hu hlj hj
          generalize lastI z ts = zz at *
          go_wp2_with fail
          refine (step_any S l cap len r1 r2 true px py _ h2 (hide (pathAt_below (show Below w.heap.size w _ by (repeat (with_reducible (first | assumption | exact Below.refl _ _ | refine Below.drew ?_ | refine below_drewN ?_ _ | refine below_set ?_ (by simp; try omega) _ | refine below_alloc ?_ (Nat.le_refl _) _ | refine below_sub (by assumption) ?_)))) hp.out)) (r1, r2, true, []) P5h.out).mono ?_
          rintro e w10 ⟨S2, cp2, rfl, hi2, hn2, hb10⟩
          obtain ⟨f201, f202, f203, f204, f205, f206, f207⟩ : w10.cell? ⟨w.heap.size, 0, none⟩ = some (.slice S l.length cap) ∧ w10.cell? ⟨w.heap.size, 1, none⟩ = some (.int .i64 len) ∧ w10.cell? ⟨wq.heap.size, 0, none⟩ = some (.int .i64 px) ∧ w10.cell? ⟨wq.heap.size, 1, none⟩ = some (.int .i64 py) ∧ w10.cell? ⟨w7.heap.size, 0, none⟩ = some (.int .i64 r1) ∧ w10.cell? ⟨w7.heap.size, 1, none⟩ = some (.int .i64 r2) ∧ w10.cell? ⟨w7.heap.size, 2, none⟩ = some (.bool true) := by
            refine ⟨?_, ?_, ?_, ?_, ?_, ?_, ?_⟩ <;> (refine cell_below hb10 ?_; repeat (first | (with_reducible assumption) | ((with_reducible refine cell_set ?_ ?_ _); (· first | (simp; done) | (simp; omega) | omega)) | ((with_reducible refine cell_new ?_ ?_); (· (simp; done)); (· rfl)) | (with_reducible refine cell_alloc ?_ _) | (with_reducible refine cell_drew ?_) | (with_reducible refine cell_drewN ?_ _) | (with_reducible refine cell_below (by assumption) ?_)))
          have zf201 : w.heap.size < w10.heap.size := World.block_lt_of_cell? _ _ f201
          have zf203 : wq.heap.size < w10.heap.size := World.block_lt_of_cell? _ _ f203
          have zf205 : w7.heap.size < w10.heap.size := World.block_lt_of_cell? _ _ f205
          obtain ⟨⟨o208a, o208b⟩, ⟨o209a, o209b⟩, ⟨o210a, o210b⟩⟩ : (w10.cell? ⟨w2.heap.size, 0, none⟩ = some (.int .i64 r1) ∧ w10.frozen? ⟨w2.heap.size, 0, none⟩ = false) ∧ (w10.cell? ⟨w2.heap.size, 1, none⟩ = some (.int .i64 r2) ∧ w10.frozen? ⟨w2.heap.size, 1, none⟩ = false) ∧ (w10.cell? ⟨w2.heap.size, 2, none⟩ = some (.bool true) ∧ w10.frozen? ⟨w2.heap.size, 2, none⟩ = false) := by
            refine ⟨?_, ?_, ?_⟩ <;> (refine own_below hb10 ?_; repeat (first | (refine ⟨?_, ?_⟩ <;> (with_reducible assumption)) | (with_reducible apply own_same) | ((with_reducible refine own_set ?_ ?_ _); (· first | (simp; done) | (simp; omega))) | ((with_reducible refine own_new ?_ ?_); (· (simp; done)); (· rfl)) | (with_reducible refine own_alloc ?_ _) | (with_reducible refine own_drew ?_) | (with_reducible refine own_drewN ?_ _) | (with_reducible refine own_below (by assumption) ?_)))
          have zo208 : w2.heap.size < w10.heap.size := World.block_lt_of_cell? _ _ o208a
          clear p0 p1 x0 x1 y0 y1 y2 g0a g0b g1a g1b g2a g2b
          go_wp2_with fail
          generalize hwwz : (((w10.setCell ⟨w2.heap.size, 0, none⟩ (.int .i64 r1)).setCell ⟨w2.heap.size, 1, none⟩ (.int .i64 r2)).setCell ⟨w2.heap.size, 2, none⟩ (.bool true)) = wz
          have ne211 : w2.heap.size ≠ w.heap.size := by omega
          have ne212 : w2.heap.size ≠ wq.heap.size := by omega
          have ne213 : w2.heap.size ≠ w7.heap.size := by omega
          have x214 : wz.cell? ⟨w.heap.size, 0, none⟩ = some (.slice S l.length cap) := by
            rw [← hwwz]; exact (cell_set ne211 (cell_set ne211 (cell_set ne211 f201 _) _) _)
          have zzx214 : w.heap.size < wz.heap.size := World.block_lt_of_cell? _ _ x214
          have x215 : wz.cell? ⟨w.heap.size, 1, none⟩ = some (.int .i64 len) := by
            rw [← hwwz]; exact (cell_set ne211 (cell_set ne211 (cell_set ne211 f202 _) _) _)
          have x216 : wz.cell? ⟨wq.heap.size, 0, none⟩ = some (.int .i64 px) := by
            rw [← hwwz]; exact (cell_set ne212 (cell_set ne212 (cell_set ne212 f203 _) _) _)
          have zzx216 : wq.heap.size < wz.heap.size := World.block_lt_of_cell? _ _ x216
          have x217 : wz.cell? ⟨wq.heap.size, 1, none⟩ = some (.int .i64 py) := by
            rw [← hwwz]; exact (cell_set ne212 (cell_set ne212 (cell_set ne212 f204 _) _) _)
          have x218 : wz.cell? ⟨w7.heap.size, 0, none⟩ = some (.int .i64 r1) := by
            rw [← hwwz]; exact (cell_set ne213 (cell_set ne213 (cell_set ne213 f205 _) _) _)
          have zzx218 : w7.heap.size < wz.heap.size := World.block_lt_of_cell? _ _ x218
          have x219 : wz.cell? ⟨w7.heap.size, 1, none⟩ = some (.int .i64 r2) := by
            rw [← hwwz]; exact (cell_set ne213 (cell_set ne213 (cell_set ne213 f206 _) _) _)
          have x220 : wz.cell? ⟨w7.heap.size, 2, none⟩ = some (.bool true) := by
            rw [← hwwz]; exact (cell_set ne213 (cell_set ne213 (cell_set ne213 f207 _) _) _)
          obtain ⟨x221a, x221b⟩ : wz.cell? ⟨w2.heap.size, 0, none⟩ = some (.int .i64 r1) ∧ wz.frozen? ⟨w2.heap.size, 0, none⟩ = false := by
            rw [← hwwz]; exact (own_set (by simp) (own_set (by simp) (own_same ⟨o208a, o208b⟩ _) _) _)
          have zzx221a : w2.heap.size < wz.heap.size := World.block_lt_of_cell? _ _ x221a
          obtain ⟨x222a, x222b⟩ : wz.cell? ⟨w2.heap.size, 1, none⟩ = some (.int .i64 r2) ∧ wz.frozen? ⟨w2.heap.size, 1, none⟩ = false := by
            rw [← hwwz]; exact (own_set (by simp) (own_same (own_set (by simp) ⟨o209a, o209b⟩ _) _) _)
          obtain ⟨x223a, x223b⟩ : wz.cell? ⟨w2.heap.size, 2, none⟩ = some (.bool true) ∧ wz.frozen? ⟨w2.heap.size, 2, none⟩ = false := by
            rw [← hwwz]; exact (own_same (own_set (by simp) (own_set (by simp) ⟨o210a, o210b⟩ _) _) _)
          have Bwz : Below w.heap.size w wz := by
            rw [← hwwz]
            (repeat (with_reducible (first | assumption | exact Below.refl _ _ | refine Below.drew ?_ | refine below_drewN ?_ _ | refine below_set ?_ (by simp; try omega) _ | refine below_alloc ?_ (Nat.le_refl _) _ | refine below_sub (by assumption) ?_)))
          clear f201 zf201 f202 f203 zf203 f204 f205 zf205 f206 f207 o208a o208b zo208 o209a o209b o210a o210b hwwz
          go_roundw
          case rel => exact ⟨k + 1, zz, r1, r2, true, by omega, by go_num, by go_num, P4h, by (repeat (first | (with_reducible assumption) | ((with_reducible refine cell_set ?_ ?_ _); (· first | (simp; done) | (simp; omega) | omega)) | ((with_reducible refine cell_new ?_ ?_); (· (simp; done)); (· rfl)) | (with_reducible refine cell_alloc ?_ _) | (with_reducible refine cell_drew ?_) | (with_reducible refine cell_drewN ?_ _) | (with_reducible refine cell_below (by assumption) ?_))), by (repeat (first | (with_reducible assumption) | ((with_reducible refine cell_set ?_ ?_ _); (· first | (simp; done) | (simp; omega) | omega)) | ((with_reducible refine cell_new ?_ ?_); (· (simp; done)); (· rfl)) | (with_reducible refine cell_alloc ?_ _) | (with_reducible refine cell_drew ?_) | (with_reducible refine cell_drewN ?_ _) | (with_reducible refine cell_below (by assumption) ?_))), by (repeat (first | (refine ⟨?_, ?_⟩ <;> (with_reducible assumption)) | (with_reducible apply own_same) | ((with_reducible refine own_set ?_ ?_ _); (· first | (simp; done) | (simp; omega))) | ((with_reducible refine own_new ?_ ?_); (· (simp; done)); (· rfl)) | (with_reducible refine own_alloc ?_ _) | (with_reducible refine own_drew ?_) | (with_reducible refine own_drewN ?_ _) | (with_reducible refine own_below (by assumption) ?_))), by (repeat (first | (refine ⟨?_, ?_⟩ <;> (with_reducible assumption)) | (with_reducible apply own_same) | ((with_reducible refine own_set ?_ ?_ _); (· first | (simp; done) | (simp; omega))) | ((with_reducible refine own_new ?_ ?_); (· (simp; done)); (· rfl)) | (with_reducible refine own_alloc ?_ _) | (with_reducible refine own_drew ?_) | (with_reducible refine own_drewN ?_ _) | (with_reducible refine own_below (by assumption) ?_))), by (repeat (first | (refine ⟨?_, ?_⟩ <;> (with_reducible assumption)) | (with_reducible apply own_same) | ((with_reducible refine own_set ?_ ?_ _); (· first | (simp; done) | (simp; omega))) | ((with_reducible refine own_new ?_ ?_); (· (simp; done)); (· rfl)) | (with_reducible refine own_alloc ?_ _) | (with_reducible refine own_drew ?_) | (with_reducible refine own_drewN ?_ _) | (with_reducible refine own_below (by assumption) ?_))), by (repeat (with_reducible (first | assumption | exact Below.refl _ _ | refine Below.drew ?_ | refine below_drewN ?_ _ | refine below_set ?_ (by simp; try omega) _ | refine below_alloc ?_ (Nat.le_refl _) _ | refine below_sub (by assumption) ?_)))⟩
          case measure => simp [intOf]; omega
theorem sequencePlays_walk {W : World} (S : Option Addr) (l : List El) (cap : Nat) (len : Int) (Q : Option Addr) (ls : List (Int × Int)) (qcap : Nat) (h2 : l.length ≤ 9223372036854775807) (hp : Hid (pathAt W S l)) (hl2 : ls.length ≤ 9223372036854775807) (hq : Hid (ptsAt W Q ls)) (w : World) (hw : w = W := by rfl) :
    Calls Try.prog 5 #[.agg #[.slice S l.length cap, .int .i64 len], .slice Q ls.length qcap] w fun e w' => e = .returned (.bool true) ∧ Below w.heap.size w w' := by
  subst hw
  obtain ⟨⟨r1, r2, E⟩, hs⟩ : ∃ R, R = startF l len 0 := ⟨_, rfl⟩
  by_cases hE : E = 0
  · subst hE
    by_cases h : 60 < ls.length
    · exact play_long w S l cap len Q ls qcap h2 hp hl2 hq r1 r2 hs h
    · have hc : chkF l len = 0 ∧ 0 < l.length := by
        unfold startF at hs
        by_cases hc : chkF l len = 0
        · rw [if_neg (by simp [hc])] at hs
          by_cases h0 : (0 : Int) < 0 ∨ (l.length : Int) ≤ 0
          · rw [if_pos h0] at hs
            exact absurd (congrArg (fun t => t.2.2) hs) (by simp)
          · exact ⟨hc, by omega⟩
        · rw [if_pos hc] at hs
          exact absurd (congrArg (fun t => t.2.2) hs).symm hc
      obtain ⟨x, hx⟩ : ∃ x, l[0]? = some x := ⟨_, List.getElem?_eq_getElem hc.2⟩
      exact play_main w S l cap len Q ls qcap h2 hp hl2 hq hc.1 x hx (by omega)
  · exact play_bad w S l cap len Q ls qcap h2 hp hl2 hq r1 r2 E hs hE
end Go.Proofs.Ytdfkkknkiioghaa

/-
  SequencePlays: the row's step: the given statement 'SequencePlaysSaid' out of the walk.
-/
namespace Go.Proofs.Ytdfkkknkiioghaa.sequencePlays
open Go.ChangeShapes Go.WideShapes Go.ChangeAt Go.RowKit
set_option linter.unusedVariables false

theorem own : ownKnob Try.prog.godebug = none := by kernel_rfl
theorem laidOut : laidOutB Try.prog = true := pf_laid
theorem typed : (Try.f5.params.toList.all fun t => Try.prog.readableRec t && decide (t < Try.prog.types.size)) = true := by kernel_rfl
theorem typed' : ∀ t ∈ Try.f5.params.toList, Try.prog.readableRec t = true ∧ t < Try.prog.types.size := by
  intro t ht
  have h := List.all_eq_true.1 typed t ht
  simpa using h
theorem ct24 : Try.prog.cellTypes Try.prog.depth 24 = some [22, 2] := by kernel_rfl
theorem cn24 : Try.prog.cellsOf 24 = ([22, 2] : List TypeId).length := by kernel_rfl
set_option maxRecDepth 100000 in
theorem lifted (os : Os) (started : os.Started) (H : Type) (enc : TypeId × Value → H) :
    ReturnsInHanded {} Try.checked os 5 .any (Rows.sequencePlaysSpec.pre6 enc Try.prog Try.f5 Rows.sequencePlaysRow.domain false) (Rows.sequencePlaysSpec.post enc Try.prog Try.f5 false true false false) := by
  refine returnsInHanded_of_change (C := Try.checked) own started (by kernel_rfl) Try.func5
    (ChangeSpec.witness6 (enc := enc) (C := Try.checked) false ⟨#[], #[.agg #[.slice none 0 0, .int .i64 0], .slice none 0 0], []⟩ 8 (by kernel_rfl) (by kernel_rfl) (by kernel_rfl) (by kernel_rfl)) ?_
  intro W base args ds gs before hval0 hW hcnd _
  have hval : ∀ (j : Nat) t v, Try.f5.params[j]? = some t → args[j]? = some v → Value.okWide Try.prog W .any base t v := hval0
  have hW' := hW
  obtain ⟨p, q, hA0, hV, rfl, hfz, hnd⟩ := hW
  have hlen := trodAll_length _ _ _ _ hA0
  rw [Try.params5] at hval hlen
  obtain ⟨v0, v1, rfl⟩ := arr2 hlen.1
  obtain ⟨d0, d1, rfl⟩ := list2 hlen.2
  obtain ⟨lp, rfl, ep, hlp⟩ := ok_agg (Or.inl ⟨_, Try.underlying24⟩) ct24 cn24 (hval 0 24 v0 rfl rfl)
  obtain ⟨pc0, pc1, rfl⟩ := list2 (ep.trans (by rfl))
  have hA' := hA0
  rw [Try.params5] at hA'
  obtain ⟨_, _, hTp, _⟩ := hA'
  obtain ⟨pS, pl, pcap, plen, hpv, hpl, hpp⟩ := path_in hTp ⟨pc0, pc1, rfl⟩
  obtain ⟨rfl, rfl⟩ : pc0 = .slice pS pl.length pcap ∧ pc1 = .int .i64 plen := by simpa using hpv
  obtain ⟨lQ, ln, lcap, rfl⟩ := Go.WideShapes.okWide_slice Try.underlying43 (hval 1 43 v1 rfl rfl)
  have hA'l := hA0
  rw [Try.params5] at hA'l
  obtain ⟨_, _, _, ⟨_, _, hTl, _⟩, _⟩ := hA'l
  obtain ⟨ll, rfl, hll, hlp⟩ := pts_in hTl
  refine (sequencePlays_walk pS pl pcap plen lQ ll lcap hpl (hide hpp) hll (hide hlp) W).mono fun e W' ⟨he, hb⟩ => ?_
  subst he
  exact ⟨_, rfl, law_post (f := Try.f5) (s := Rows.sequencePlaysSpec) (tb := 4) laidOut typed' rfl (by kernel_rfl) Try.underlying4 hW' ⟨rfl, rfl, rfl⟩ hb⟩

theorem k0 : (Rows.sequencePlaysRow.wf (OpenSpec.ofChange Rows.sequencePlaysSpec)) = true := by kernel_rfl
theorem k3 : (Try.f5.params.all (Try.prog.readableRec ·)) = true := by kernel_rfl
theorem k4 : (namedTie Try.prog Rows.sequencePlaysRow.named Rows.sequencePlaysSpec.vars) = true := by kernel_rfl
theorem k5 : (Rows.sequencePlaysRow.stops == []) = true := by kernel_rfl
theorem k7 : (Rows.sequencePlaysRow.knobs == []) = true := by kernel_rfl
theorem k9 : (Rows.sequencePlaysRow.inPlace == Try.prog.inPlace 5) = true := by kernel_rfl
theorem k10 : (Rows.sequencePlaysRow.unfollowed == Try.prog.unfollowed 5) = true := by kernel_rfl
theorem k11 : (Rows.sequencePlaysRow.recurses == Try.prog.recurses 5) = true := by kernel_rfl
theorem k12 : (Rows.sequencePlaysRow.named == Try.prog.varsNamed 5) = true := by kernel_rfl
theorem k13 : (Rows.sequencePlaysRow.maps == (Try.f5.params.toList ++ Rows.sequencePlaysSpec.plain.varTypes Try.prog).any (Try.prog.mapsRec ·)) = true := by kernel_rfl
theorem k14 : (Rows.sequencePlaysRow.ifaces == (Try.f5.params.toList ++ Rows.sequencePlaysSpec.plain.varTypes Try.prog).any (Try.prog.ifacesRec ·)) = true := by kernel_rfl
theorem k15 : (Rows.sequencePlaysRow.mapsOut == Try.prog.mapsAmong Try.f5.resultTypes.toList) = true := by kernel_rfl
theorem k16 : (Rows.sequencePlaysRow.loops == (Try.f5.params.toList ++ Rows.sequencePlaysSpec.plain.varTypes Try.prog).any (Try.prog.loopsFrom ·)) = true := by kernel_rfl
theorem k17 : (Rows.sequencePlaysRow.wideKeys == (Try.f5.params.toList ++ Rows.sequencePlaysSpec.plain.varTypes Try.prog ++ Try.f5.resultTypes.toList).any (Try.prog.wideKeysFrom ·)) = true := by kernel_rfl
theorem k18 : (Rows.sequencePlaysSpec.vars.all (Try.prog.varReadable ·)) = true := by kernel_rfl
theorem k19 : (Try.f5.resultTypes.all (fun t => Try.prog.readableRec t && decide (t < Try.prog.types.size))) = true := by kernel_rfl
theorem k20 : (Rows.sequencePlaysRow.ifacesOut == Try.f5.resultTypes.toList.any (Try.prog.ifacesRec ·)) = true := by kernel_rfl
theorem k21 : (Rows.sequencePlaysRow.loopsOut == Try.f5.resultTypes.toList.any (Try.prog.loopsFrom ·)) = true := by kernel_rfl
theorem k22 : (Rows.sequencePlaysRow.plainKeys == Try.prog.plainKeys) = true := by kernel_rfl
theorem k23 : (Rows.sequencePlaysRow.shortTexts.isNone) = true := by kernel_rfl
theorem k26 : (Rows.sequencePlaysRow.lifted == Try.prog.liftsFinal) = true := by rw [pf_lifts]; rfl
theorem k27 : (Try.prog.make == some Rows.sequencePlaysRow.make) = true := by rw [pf_make]; rfl
theorem k28 : (Rows.sequencePlaysRow.kinds == (if Rows.sequencePlaysRow.domain.isEmpty then [] else Try.f5.params.toList.map fun t => match Try.prog.underlying t with | some (.int k) => some k | _ => none)) = true := by kernel_rfl
theorem k29 : (Rows.sequencePlaysRow.pinned == Rows.sequencePlaysRow.pinnedBy) = true := by kernel_rfl
theorem k30 : (Rows.sequencePlaysRow.veiled == (Try.f5.params.toList ++ Rows.sequencePlaysSpec.plain.varTypes Try.prog ++ Try.f5.resultTypes.toList).any (Try.prog.veiledRec ·)) = true := by kernel_rfl
theorem k31 : (Rows.sequencePlaysRow.veiledFits Try.prog Try.f5.params.toList (Try.f5.params.toList ++ Rows.sequencePlaysSpec.plain.varTypes Try.prog ++ Try.f5.resultTypes.toList)) = true := by kernel_rfl
set_option maxRecDepth 100000 in
theorem closed : joinedFacts Try.prog 5 Try.f5 Rows.sequencePlaysSpec Rows.sequencePlaysRow = true := (band (band (band (band (band (band (band (band (band (band (band (band (band (band (band (band (band (band (band (band (band (band (band (band (band (band (band (band (band (band (band k0 pf_laid) pf_maps) k3) k4) k5) pf_stops) k7) pf_knobs) k9) k10) k11) k12) k13) k14) k15) k16) k17) k18) k19) k20) k21) k22) k23) pf_heard) pf_enter) k26) k27) k28) k29) k30) k31)
theorem byName : Try.prog.funcNamed Rows.sequencePlaysRow.func = some 5 := by kernel_rfl
theorem inst : Try.f5.isInstance Try.prog Rows.sequencePlaysRow.origin Rows.sequencePlaysRow.targs := of_decide_eq_true (by kernel_rfl)
theorem over : Rows.sequencePlaysRow.holds Try.pinned (OpenSpec.ofChange Rows.sequencePlaysSpec) :=
  OpenClaim.holds_of_wide 5 Try.f5 rfl rfl rfl rfl rfl rfl rfl ⟨rfl, rfl, rfl, rfl, rfl⟩ rfl rfl rfl rfl rfl byName Try.func5 closed
    inst (by unfold Func.isWrapper; rw [if_neg (of_decide_eq_false (by kernel_rfl))]; exact ⟨rfl, rfl⟩)
    (fun os started H enc _ => lifted os started H enc)

/-- The given statement. -/
theorem proved : Rows.SequencePlaysSaid := over
end Go.Proofs.Ytdfkkknkiioghaa.sequencePlays

